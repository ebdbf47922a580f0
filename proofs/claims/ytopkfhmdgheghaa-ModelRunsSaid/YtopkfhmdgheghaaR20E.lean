/-
  handoffref20.without: its contract.
  Conditions: none.
-/
import Derived.Test.YtopkfhmdgheghaaR20C
namespace Go.Proofs.Ytopkfhmdgheghaa
open Go.RowKit
set_option linter.unusedVariables false
set_option linter.unusedSimpArgs false
set_option linter.unnecessarySimpa false

theorem elemWait : Elem Try.prog 65 144 7 72 (.agg #[.int .i64 0, .int .i64 0, .int .i64 0, .int .i64 0, .int .i64 0, .slice none 0 0, .bool false]) := ⟨Try.underlying65, by kernel_rfl, rfl, by decide, by decide⟩
def keepsG (g : Int) (l : List (Int × Pn.Op)) : List (Int × Pn.Op) := l.filter (fun p => p.1 != g)
theorem keepsG_more {g : Int} {l : List (Int × Pn.Op)} {k : Nat} {p : Int × Pn.Op} (h : l[k]? = some p) (hp : (p.1 == g) = false) : keepsG g (l.take (k + 1)) = keepsG g (l.take k) ++ [p] := by
  unfold keepsG
  rw [List.take_add_one, h, Option.toList_some, List.filter_append]
  simp [bne, hp]
theorem keepsG_same {g : Int} {l : List (Int × Pn.Op)} {k : Nat} {p : Int × Pn.Op} (h : l[k]? = some p) (hp : (p.1 == g) = true) : keepsG g (l.take (k + 1)) = keepsG g (l.take k) := by
  unfold keepsG
  rw [List.take_add_one, h, Option.toList_some, List.filter_append]
  simp [bne, hp]
theorem keepsG_len (g : Int) (l : List (Int × Pn.Op)) (k : Nat) : (keepsG g (l.take k)).length ≤ l.length := by
  unfold keepsG
  exact Nat.le_trans (List.length_filter_le _ _) (by rw [List.length_take]; omega)
/-- the list that is made -/
def WO (w : World) (S : List Nat) (l : List (Int × Pn.Op)) (v : Value) (wr : World) : Prop :=
  ∃ T S2, GR wtE 7 wr v 144 l T S2 ∧ Keeps [] w wr ∧ (∀ x ∈ T, w.heap.size ≤ x) ∧ (∀ x ∈ S2, x ∈ S) ∧ w.heap.size ≤ wr.heap.size

set_option maxRecDepth 100000 in
set_option maxHeartbeats 1600000 in
theorem ref20_without (w : World) (v : Value) (l : List (Int × Pn.Op)) (S : List Nat) (gi : Int) (h : GV wtE 7 w v l S) (hb : l.length ≤ 100000) :
    Calls Try.prog 65 #[v, .int .i64 gi] w fun e w' => ∃ v' S', e = .returned v' ∧ GV wtE 7 w' v' (keepsG gi l) S' ∧ Keeps [] w w' ∧ ∀ x ∈ S', x ∈ S ∨ w.heap.size ≤ x := by
  obtain ⟨ao, cap, rfl⟩ := h.shape
  have HV := Lib.hid h
  have HB := Lib.hid hb
  have hle := h.le
  unfold maxLen at hle
  have HSL := Lib.hid h.lt
  have H0 : Hid (WO w S [] (.slice (some ⟨w.heap.size, 0, none⟩) 0 0) (w.alloc (.cells #[] 144))) := Lib.hid ⟨_, _, GR.lit wtE 7 w 144 _ rfl, (Keeps.refl [] w).alloc _, by simp, by simp, by simp⟩
  clear h hb
  go_enter Try.func65, Try.ntmps65
  go_wp2_with fail
  go_loopw [5, 11] (fun out u wr => ∃ k : Nat, k ≤ l.length ∧ u = .int .i64 k ∧ Hid (WO w S (keepsG gi (l.take k)) out wr)) (fun _ u _ => l.length - (intOf u).toNat)
  case atStart => exact ⟨0, Nat.zero_le _, rfl, H0⟩
  case round =>
    obtain ⟨k, hk, rfl, HI⟩ := hrel
    obtain ⟨wo, rfl⟩ : ∃ wo : World, wo = wr := ⟨_, rfl⟩
    obtain ⟨T, S2, hgr, hkp, hT, hS2, hsz⟩ := HI.out
    have hll := keepsG_len gi l k
    obtain ⟨L, hL⟩ : ∃ L, keepsG gi (l.take k) = L := ⟨_, rfl⟩
    rw [hL] at hgr hll HI
    have HLQ := Lib.hid hL
    obtain ⟨aoo, capo, rfl⟩ := hgr.shape
    have HG := Lib.hid hgr
    have HKP := Lib.hid hkp
    have HT := Lib.hid hT
    have HS2 := Lib.hid hS2
    have HSZ := Lib.hid hsz
    have HLL := Lib.hid hll
    clear hgr hkp hT hS2 hsz hL hll
    by_cases hlt : k < l.length
    · obtain ⟨p, hx⟩ : ∃ p, l[k]? = some p := ⟨_, List.getElem?_eq_getElem hlt⟩
      obtain ⟨g, off, ac2, cc2, U, rfl, hg, hrg, hgv, hU⟩ := wt_var (HV.out.then wtE_kept HKP.out) hx
      obtain ⟨w3, hw3⟩ : ∃ w3, wo.alloc (.cells (wtC p (.slice ac2 p.2.cases.length cc2)).toArray 144) = w3 := ⟨_, rfl⟩
      have K3 : Hid (Keeps [] wo w3) := Lib.hid (hw3 ▸ (Keeps.refl [] wo).alloc _)
      have HB3 : Hid (Blk w3 wo.heap.size (wtC p (.slice ac2 p.2.cases.length cc2)) 144) := Lib.hid (hw3 ▸ Blk.fresh wo _ _ _ rfl)
      have x0 := HB3.out.wt.1
      have hrg3 : w3.rangeAt wo.heap.size 0 [.int .i64 p.1, .int .i64 p.2.kind, .int .i64 p.2.ch, .int .i64 p.2.n, .int .i64 p.2.v, .slice ac2 p.2.cases.length cc2, .bool p.2.els] := HB3.out.range
      have HONE := wtC_one p ac2 p.2.cases.length cc2
      have HLT := Lib.hid hlt
      have HX := Lib.hid hx
      have HGV := Lib.hid hgv
      have HU := Lib.hid hU
      have HZ3 : Hid (w3.heap.size = wo.heap.size + 1) := Lib.hid (by rw [← hw3]; simp)
      clear hgv hU hx
      cases hc : (p.1 == gi) with
      | true =>
        go_wp2_with (first
          | (refine wpList_load_mid rfl 144 (.tmp 13) rfl g (off + k * 7) (by rfl) _ _ hrg Try.underlying144 rfl (by kernel_rfl) ?_)
          | (refine wpList_store_mid rfl 144 (.tmp 7) (.tmp 14) rfl wo.heap.size 0 _ (by rfl) (by rfl) (there_alloc_new wo _ _ (by rfl)) (by kernel_rfl) HONE ?_; rw [alloc_setCells wo _ _ _ (by rfl), hw3])
          | fail)
        go_roundw
        case rel => exact ⟨k + 1, by have := HLT.out; omega, by go_num, Lib.hid (by
          rw [keepsG_same HX.out hc, HLQ.out]
          exact ⟨T, S2, HG.out.then wtE_kept K3.out, HKP.out.then K3.out, HT.out, HS2.out, Nat.le_trans HSZ.out K3.out.size⟩)⟩
        case measure => have := HLT.out; simp [intOf]; omega
      | false =>
        have HG3 := Lib.hid (HG.out.then wtE_kept K3.out)
        have HE3 : Hid (wtE w3 (wtC p (.slice ac2 p.2.cases.length cc2)) p U) := Lib.hid ⟨_, rfl, HGV.out.then caseE_kept K3.out⟩
        have HD : Hid (∀ y ∈ U, y ∉ T) := Lib.hid (fun y hy hm => by have := HSL.out y (HU.out y hy); have := HT.out y hm; omega)
        have HTL := Lib.hid HG.out.lt.1
        go_upto_region 6 with (first
          | (refine wpList_load_mid rfl 144 (.tmp 13) rfl g (off + k * 7) (by rfl) _ _ hrg Try.underlying144 rfl (by kernel_rfl) ?_)
          | (refine wpList_store_mid rfl 144 (.tmp 7) (.tmp 14) rfl wo.heap.size 0 _ (by rfl) (by rfl) (there_alloc_new wo _ _ (by rfl)) (by kernel_rfl) HONE ?_; rw [alloc_setCells wo _ _ _ (by rfl), hw3])
          | fail)
        clear hw3 hrg
        go_wp2_with (first
          | (refine wpList_load_mid rfl 144 (.tmp 7) rfl wo.heap.size 0 (by rfl) _ _ hrg3 Try.underlying144 rfl (by kernel_rfl) ?_)
          | (at_builtin; go_must (refine wp_gapp1 elemWait wtE_kept HG3.out (show wtE _ [.int .i64 p.1, .int .i64 p.2.kind, .int .i64 p.2.ch, .int .i64 p.2.n, .int .i64 p.2.v, .slice ac2 p.2.cases.length cc2, .bool p.2.els] p U from HE3.out) rfl HD.out (by simp [Value.oneCell']) (by have := HLL.out; have := HB.out; omega) ?_))
          | fail)
        intro ao7 cap7 w7 T7 r7 k7 s7
        have KW : Hid (Keeps [] w w7) := Lib.hid ((HKP.out.then K3.out).trans k7 (fun x hx => .inr (HT.out x hx)))
        have HN : Hid (WO w S (keepsG gi (l.take (k + 1))) (.slice ao7 (L.length + 1) cap7) w7) := Lib.hid (by
          rw [keepsG_more HX.out hc, HLQ.out]
          exact ⟨T7, S2 ++ U, r7, KW.out, fun x hx => (by
            rcases s7 x hx with h | h
            · exact HT.out x h
            · have := HZ3.out; have := HSZ.out; omega), fun x hx => (by
            rcases List.mem_append.1 hx with h | h
            · exact HS2.out x h
            · exact HU.out x h), KW.out.size⟩)
        clear r7 k7 s7 x0 hrg3
        go_wp2_with fail
        go_roundw
        case rel => exact ⟨k + 1, by have := HLT.out; omega, by go_num, HN⟩
        case measure => have := HLT.out; simp [intOf]; omega
    · obtain rfl : k = l.length := by omega
      have HGV := Lib.hid HG.out.gv
      have HEQ : Hid (L = keepsG gi l) := Lib.hid (by rw [← HLQ.out, List.take_length])
      go_wp2_with fail
      go_ret
      exact ⟨_, _, rfl, by rw [← HEQ.out]; exact HGV.out, HKP.out, fun x hx => by
        rcases List.mem_append.1 hx with h | h
        · exact .inr (HT.out x h)
        · exact .inl (HS2.out x h)⟩
end Go.Proofs.Ytopkfhmdgheghaa
