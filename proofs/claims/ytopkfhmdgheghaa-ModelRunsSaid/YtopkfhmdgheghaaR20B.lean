/-
  handoffref20.other: its contract.
  Conditions: none.
-/
import Derived.Test.YtopkfhmdgheghaaR20A
import Derived.Test.YtopkfhmdgheghaaModelN
namespace Go.Proofs.Ytopkfhmdgheghaa
open Go.RowKit
set_option linter.unusedVariables false
set_option linter.unusedSimpArgs false
set_option linter.unnecessarySimpa false

theorem mr_meets {t s : Md.Sd} : meetsP s.ch (!s.send) 0 t = (t.ch == s.ch && (t.send != s.send)) := by
  unfold meetsP
  cases t.send <;> cases s.send <;> simp
theorem meets_any (ch : Int) (b : Bool) (i : Int) (t : Md.Sd) : meetsP ch b i t = meetsP ch b 0 t := rfl

set_option maxRecDepth 100000 in
set_option maxHeartbeats 3200000 in
theorem ref20_other (w : World) (vc vw : Value) (st : Md.St) (r : Mr.St) (S : List Nat) (gi : Int) (s : Md.Sd) (h : MR w vc vw r S) (hr : Mr.Rel st r) :
    Calls Try.prog 71 #[.agg #[vc, vw], .int .i64 gi, .agg (csV s)] w fun e w' => e = .returned (.bool (Md.another st gi s.ch (!s.send))) ∧ Keeps [] w w' := by
  obtain ⟨q, hq⟩ : ∃ q, Md.another st gi s.ch (!s.send) = q := ⟨_, rfl⟩
  rw [hq]
  have HY : Hid (∀ x o, (x, o) ∈ r.waits → x ≠ gi → Md.any o (meetsP s.ch (!s.send)) = true → q = true) := Lib.hid (fun x o h1 h2 h3 => by rw [← hq]; exact Md.another_true ((hr.2 x o).2 h1) h2 h3)
  have HNO : Hid ((∀ x o, (x, o) ∈ r.waits → x ≠ gi → Md.any o (meetsP s.ch (!s.send)) = false) → q = false) := Lib.hid (fun hn => by
    rw [← hq]; exact Md.another_false (fun x o h1 h2 => hn x o ((hr.2 x o).1 h1) h2))
  obtain ⟨ac, cc, rfl⟩ := h.1.shape
  obtain ⟨ao, cap, rfl⟩ := h.2.shape
  have HV := Lib.hid h.2
  have hle := h.2.le
  unfold maxLen at hle
  obtain ⟨l, hl⟩ : ∃ l, r.waits = l := ⟨_, rfl⟩
  rw [hl] at HV HY HNO hle ⊢
  obtain ⟨lc, hlc⟩ : ∃ lc, r.chans.length = lc := ⟨_, rfl⟩
  rw [hlc]
  clear h hr hq hl hlc
  obtain ⟨w0, hw0⟩ : ∃ w0, (w.alloc (.cells #[.slice ac lc cc, .slice ao l.length cap] 67)).alloc (.cells (csV s) 131) = w0 := ⟨_, rfl⟩
  have K0 : Hid (Keeps [] w w0) := Lib.hid (hw0 ▸ ((Keeps.refl [] w).alloc _).alloc _)
  have HCB : Hid (Blk w0 (w.heap.size + 1) [.bool s.send, .int .i64 s.ch, .int .i64 s.v] 131) := Lib.hid (hw0 ▸ Blk.fresh _ [.bool s.send, .int .i64 s.ch, .int .i64 s.v] _ _ (by simp))
  have HMB : Hid (Blk w0 w.heap.size [.slice ac lc cc, .slice ao l.length cap] 67) := Lib.hid (hw0 ▸ (Blk.fresh w [.slice ac lc cc, .slice ao l.length cap] _ _ rfl).alloc _)
  have m1 : w0.cell? ⟨w.heap.size, 1, none⟩ = some (.slice ao l.length cap) := HMB.out.cell 1
  unfold csV at hw0
  unfold csV
  go_enter Try.func71, Try.ntmps71
  go_wp2_with fail
  clear hw0 m1
  go_loopw [15] (fun u wr => ∃ k : Nat, k ≤ l.length ∧ u = .int .i64 k ∧ Hid (Keeps [] w0 wr ∧ ∀ (j : Nat) p, j < k → l[j]? = some p → p.1 = gi ∨ Md.any p.2 (meetsP s.ch (!s.send)) = false)) (fun u _ => l.length - (intOf u).toNat)
  case atStart => exact ⟨0, Nat.zero_le _, rfl, Lib.hid ⟨Keeps.refl _ _, fun j p hj => by omega⟩⟩
  case round =>
    obtain ⟨k, hk, rfl, HI⟩ := hrel
    obtain ⟨wo, rfl⟩ : ∃ wo : World, wo = wr := ⟨_, rfl⟩
    by_cases hlt : k < l.length
    · obtain ⟨p, hx⟩ : ∃ p, l[k]? = some p := ⟨_, List.getElem?_eq_getElem hlt⟩
      obtain ⟨g, off, ac2, cc2, U, rfl, hg, hrg, hgv, hU⟩ := wt_var (HV.out.then wtE_kept (K0.out.then HI.out.1)) hx
      have hpl := hgv.le
      unfold maxLen at hpl
      obtain ⟨w3, hw3⟩ : ∃ w3, wo.alloc (.cells (wtC p (.slice ac2 p.2.cases.length cc2)).toArray 144) = w3 := ⟨_, rfl⟩
      have K3 : Hid (Keeps [] w0 w3) := Lib.hid (HI.out.1.then (hw3 ▸ (Keeps.refl [] wo).alloc _))
      have HB3 : Hid (Blk w3 wo.heap.size (wtC p (.slice ac2 p.2.cases.length cc2)) 144) := Lib.hid (hw3 ▸ Blk.fresh wo _ _ _ rfl)
      have HGV : Hid (GV caseE 3 w3 (.slice ac2 p.2.cases.length cc2) p.2.cases U) := Lib.hid (hgv.then caseE_kept (hw3 ▸ (Keeps.refl [] wo).alloc _))
      have HONE := wtC_one p ac2 p.2.cases.length cc2
      have HLT := Lib.hid hlt
      have HX := Lib.hid hx
      clear hgv hU hx
      go_wp2_with (first
          | (refine wpList_load_mid rfl 144 (.tmp 17) rfl g (off + k * 7) (by rfl) _ _ hrg Try.underlying144 rfl (by kernel_rfl) ?_)
          | (refine wpList_store_mid rfl 144 (.tmp 8) (.tmp 18) rfl wo.heap.size 0 _ (by rfl) (by rfl) (there_alloc_new wo _ _ (by rfl)) (by kernel_rfl) HONE ?_; rw [alloc_setCells wo _ _ _ (by rfl), hw3])
          | fail)
      clear hw3 hrg
      go_loopw [9] (fun u wr => ∃ i : Nat, i ≤ p.2.cases.length + 1 ∧ u = .int .i64 ((i : Int) - 1) ∧ Hid (Keeps [] w3 wr ∧ (p.1 = gi ∨ Md.anyUpto p.2 (meetsP s.ch (!s.send)) i = false))) (fun u _ => p.2.cases.length + 1 - (intOf u + 1).toNat)
      case atStart => exact ⟨0, Nat.zero_le _, rfl, Lib.hid ⟨Keeps.refl _ _, .inr rfl⟩⟩
      case round =>
        obtain ⟨i, hi, rfl, HJ⟩ := hrel
        obtain ⟨wi, rfl⟩ : ∃ wi : World, wi = wr := ⟨_, rfl⟩
        obtain ⟨x0, x1, x2, x3, x4, x5, x6⟩ := (HB3.out.keep HJ.out.1 (by simp)).wt
        by_cases hil : i ≤ p.2.cases.length
        · have hl1 : (i : Int) - 1 < (p.2.cases.length : Int) := by omega
          have HIL := Lib.hid hil
          clear hil
          go_wp2_with fail
          refine (ref20_side _ p.2 _ U ((i : Int) - 1) (HGV.out.then caseE_kept HJ.out.1)).mono ?_
          rintro e w5 ⟨rfl, k5⟩
          have K5 := Lib.hid (HJ.out.1.then k5)
          clear k5 x0 x1 x2 x3 x4 x5 x6
          cases hs : Md.side p.2 ((i : Int) - 1) with
          | none =>
            have HN : Hid (p.1 = gi ∨ Md.anyUpto p.2 (meetsP s.ch (!s.send)) (i + 1) = false) := Lib.hid (HJ.out.2.imp_right (fun h => by rw [Md.any_step h, hs]))
            unfold csV Md.noSide
            simp only [Option.getD_none, Option.isSome_none]
            go_wp2_with fail
            go_roundw
            case rel => exact ⟨i + 1, by have := HIL.out; omega, by go_num, Lib.hid ⟨K5.out.alloc _, HN.out⟩⟩
            case measure =>
              have := HIL.out
              simp [intOf]; omega
          | some t =>
            have HT := Lib.hid hs
            clear hs
            unfold csV
            simp only [Option.getD_some, Option.isSome_some]
            obtain ⟨w6, hw6⟩ : ∃ w6, w5.alloc (.cells #[.bool t.send, .int .i64 t.ch, .int .i64 t.v] 131) = w6 := ⟨_, rfl⟩
            have K6 : Hid (Keeps [] w3 w6) := Lib.hid (K5.out.then (hw6 ▸ (Keeps.refl [] w5).alloc _))
            have HDB : Hid (Blk w6 w5.heap.size [.bool t.send, .int .i64 t.ch, .int .i64 t.v] 131) := Lib.hid (hw6 ▸ Blk.fresh w5 [.bool t.send, .int .i64 t.ch, .int .i64 t.v] _ _ rfl)
            obtain ⟨⟨d0, d1, d2⟩, _⟩ := Blk.three HDB.out
            obtain ⟨⟨c0, c1, c2⟩, _⟩ := Blk.three (HCB.out.keep (K3.out.then K6.out) (by simp))
            have x0 : w6.cell? ⟨wo.heap.size, 0, none⟩ = some (.int .i64 p.1) := (HB3.out.keep K6.out (by simp)).wt.1
            have HE : Hid (meetsP s.ch (!s.send) ((i : Int) - 1) t = (t.ch == s.ch && (t.send != s.send))) := Lib.hid mr_meets
            have HN : Hid ((t.ch == s.ch && (t.send != s.send)) = false → p.1 = gi ∨ Md.anyUpto p.2 (meetsP s.ch (!s.send)) (i + 1) = false) := Lib.hid (fun h => HJ.out.2.imp_right (fun h2 => by rw [Md.any_step h2, HT.out]; exact HE.out.trans h))
            have HYY : Hid ((t.ch == s.ch && (t.send != s.send)) = true → (p.1 == gi) = false → q = true) := Lib.hid (fun h h2 => HY.out p.1 p.2 (List.mem_of_getElem? HX.out) (by simpa using h2) (by
              have h3 : Md.anyUpto p.2 (meetsP s.ch (!s.send)) (i + 1) = true := by
                show (Md.anyUpto p.2 _ i || _) = true
                rw [HT.out]
                simp only [HE.out, h, Bool.or_true]
              exact Md.any_more h3 (by have := HIL.out; omega)))
            cases t1 : (p.1 == gi) with
            | true =>
              have HG : Hid (p.1 = gi) := Lib.hid (by simpa using t1)
              go_wp2_with fail
              go_roundw
              case rel => exact ⟨i + 1, by have := HIL.out; omega, by go_num, Lib.hid ⟨K6.out, .inl HG.out⟩⟩
              case measure =>
                have := HIL.out
                simp [intOf]; omega
            | false =>
              have t1n : (p.1 != gi) = true := by simp [bne, t1]
              cases t2 : (t.ch == s.ch) with
              | false =>
                have HNN := Lib.hid (HN.out (by rw [t2]; rfl))
                go_wp2_with fail
                go_roundw
                case rel => exact ⟨i + 1, by have := HIL.out; omega, by go_num, Lib.hid ⟨K6.out, HNN.out⟩⟩
                case measure =>
                  have := HIL.out
                  simp [intOf]; omega
              | true =>
                cases t3 : (t.send == s.send) with
                | false =>
                  have HQ : Hid (q = true) := Lib.hid (HYY.out (by rw [t2]; simp [bne, t3]) t1)
                  go_wp2_with fail
                  go_ret
                  exact ⟨by rw [HQ.out]; rfl, K0.out.then (K3.out.then K6.out)⟩
                | true =>
                  have HNN := Lib.hid (HN.out (by rw [t2]; simp [bne, t3]))
                  go_wp2_with fail
                  go_roundw
                  case rel => exact ⟨i + 1, by have := HIL.out; omega, by go_num, Lib.hid ⟨K6.out, HNN.out⟩⟩
                  case measure =>
                    have := HIL.out
                    simp [intOf]; omega
        · obtain rfl : i = p.2.cases.length + 1 := by omega
          go_wp2_with fail
          go_roundw
          case rel =>
            refine ⟨k + 1, by have := HLT.out; omega, by go_num, Lib.hid ⟨K3.out.then HJ.out.1, fun j p2 hj hp => ?_⟩⟩
            by_cases e : j = k
            · subst e
              rw [HX.out] at hp
              cases hp
              exact HJ.out.2
            · exact HI.out.2 j p2 (by omega) hp
          case measure => have := HLT.out; simp [intOf]; omega
    · obtain rfl : k = l.length := by omega
      have hn : q = false := HNO.out (fun x o ho hx => by
        obtain ⟨j, hj⟩ := List.mem_iff_getElem?.1 ho
        exact (HI.out.2 j _ (List.getElem?_eq_some_iff.1 hj).1 hj).resolve_left hx)
      go_wp2_with fail
      go_ret
      exact ⟨by rw [hn]; rfl, K0.out.then HI.out.1⟩
end Go.Proofs.Ytopkfhmdgheghaa
