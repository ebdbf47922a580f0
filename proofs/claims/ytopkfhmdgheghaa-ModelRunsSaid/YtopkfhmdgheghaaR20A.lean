/-
  How handoffref20's models lie in memory; Side, Made, Waits: contracts.
  Conditions: none.
-/
import Derived.Test.YtopkfhmdgheghaaModelF
import Derived.Test.YtopkfhmdgheghaaCore
namespace Go.Proofs.Ytopkfhmdgheghaa
open Go.RowKit
set_option linter.unusedVariables false
set_option linter.unusedSimpArgs false
set_option linter.unnecessarySimpa false

namespace Mr
structure St where
  chans : List Md.Ch
  waits : List (Int × Pn.Op)
/-- the list of those who wait tells what the model's map tells -/
def Rel (st : Md.St) (r : St) : Prop := st.chans = r.chans ∧ ∀ h o, st.waits h = some o ↔ (h, o) ∈ r.waits
end Mr
/-- a number, whatever it is -/
def rawE (w : World) (cs : List Value) (n : Int) (U : List Nat) : Prop := cs = [.int .i64 n] ∧ U = []
theorem rawE_kept : Kept rawE := ⟨fun h _ _ => h, fun h x hx => by obtain ⟨_, rfl⟩ := h; simp at hx⟩
def chE (w : World) (cs : List Value) (c : Md.Ch) (U : List Nat) : Prop := ∃ vb, cs = [.int .i64 c.cap, vb, .bool c.closed] ∧ GV rawE 1 w vb c.buf U
def wtE (w : World) (cs : List Value) (p : Int × Pn.Op) (U : List Nat) : Prop :=
  ∃ vo, cs = [.int .i64 p.1, .int .i64 p.2.kind, .int .i64 p.2.ch, .int .i64 p.2.n, .int .i64 p.2.v, vo, .bool p.2.els] ∧ GV caseE 3 w vo p.2.cases U
theorem chE_kept : Kept chE :=
  ⟨fun h k hn => by obtain ⟨vb, h1, h2⟩ := h; exact ⟨vb, h1, h2.keep rawE_kept k hn⟩, fun h => by obtain ⟨vb, h1, h2⟩ := h; exact h2.lt⟩
theorem wtE_kept : Kept wtE :=
  ⟨fun h k hn => by obtain ⟨vb, h1, h2⟩ := h; exact ⟨vb, h1, h2.keep caseE_kept k hn⟩, fun h => by obtain ⟨vb, h1, h2⟩ := h; exact h2.lt⟩
def MR (w : World) (vc vw : Value) (r : Mr.St) (S : List Nat) : Prop := GV chE 3 w vc r.chans S ∧ GV wtE 7 w vw r.waits S
theorem MR.keep {w w' : World} {vc vw : Value} {r : Mr.St} {S T : List Nat} (h : MR w vc vw r S) (k : Keeps T w w') (hn : ∀ x ∈ S, x ∉ T) : MR w' vc vw r S := ⟨h.1.keep chE_kept k hn, h.2.keep wtE_kept k hn⟩
theorem MR.then {w w' : World} {vc vw : Value} {r : Mr.St} {S : List Nat} (h : MR w vc vw r S) (k : Keeps [] w w') : MR w' vc vw r S := h.keep k (by simp)
def wtC (p : Int × Pn.Op) (vo : Value) : List Value := [.int .i64 p.1, .int .i64 p.2.kind, .int .i64 p.2.ch, .int .i64 p.2.n, .int .i64 p.2.v, vo, .bool p.2.els]
theorem wtC_one (p : Int × Pn.Op) (ac : Option Addr) (n cc : Nat) : (wtC p (.slice ac n cc)).toArray.all (·.oneCell') = true := by kernel_rfl
theorem Blk.wt {w : World} {b : Nat} {p : Int × Pn.Op} {vo : Value} {t : TypeId} (h : Blk w b (wtC p vo) t) :
    w.cell? ⟨b, 0, none⟩ = some (.int .i64 p.1) ∧ w.cell? ⟨b, 1, none⟩ = some (.int .i64 p.2.kind) ∧ w.cell? ⟨b, 2, none⟩ = some (.int .i64 p.2.ch) ∧ w.cell? ⟨b, 3, none⟩ = some (.int .i64 p.2.n) ∧ w.cell? ⟨b, 4, none⟩ = some (.int .i64 p.2.v) ∧ w.cell? ⟨b, 5, none⟩ = some vo ∧ w.cell? ⟨b, 6, none⟩ = some (.bool p.2.els) :=
  ⟨h.cell 0, h.cell 1, h.cell 2, h.cell 3, h.cell 4, h.cell 5, h.cell 6⟩

/-- a side as the document's case -/
def csV (s : Md.Sd) : Array Value := #[.bool s.send, .int .i64 s.ch, .int .i64 s.v]
def RSidePost (s : Option Md.Sd) (w : World) (e : Ending) (w' : World) : Prop := e = .returned (.tuple #[.agg (csV (s.getD Md.noSide)), .bool s.isSome]) ∧ Keeps [] w w'
theorem rside_ret {s : Option Md.Sd} {w w' : World} {t : Md.Sd} (h : s = some t) (k : Keeps [] w w') : RSidePost s w (.returned (.tuple #[.agg #[.bool t.send, .int .i64 t.ch, .int .i64 t.v], .bool true])) w' := by
  subst h; exact ⟨rfl, k⟩
theorem rside_no {s : Option Md.Sd} {w w' : World} (h : s = none) (k : Keeps [] w w') : RSidePost s w (.returned (.tuple #[.agg #[.bool false, .int .i64 0, .int .i64 0], .bool false])) w' := by
  subst h; exact ⟨rfl, k⟩
set_option maxHeartbeats 1600000 in
theorem ref20_side (w : World) (o : Pn.Op) (vc : Value) (U : List Nat) (i : Int) (h : GV caseE 3 w vc o.cases U) :
    Calls Try.prog 68 #[.agg (opV o vc), .int .i64 i] w (RSidePost (Md.side o i) w) := by
  have hle := h.le
  unfold maxLen at hle
  obtain ⟨ao, cap, rfl⟩ := h.shape
  obtain ⟨s, hs⟩ : ∃ s, Md.side o i = s := ⟨_, rfl⟩
  rw [hs]
  have HS := Lib.hid hs
  have HO := Lib.hid h
  obtain ⟨kind, ch, n, v, cases, els⟩ := o
  simp only [opV] at *
  clear h hs
  by_cases h2 : kind = 2
  · subst h2
    by_cases hi : i = -1
    · subst hi
      go_enter Try.func68, Try.ntmps68
      go_wp2_with fail
      refine bodyPost_ret (v := .tuple #[.agg #[.bool true, .int .i64 ch, .int .i64 v], .bool true]) (by simp [results, Try.results68, go_sem]) rfl ?_
      exact rside_ret (t := ⟨ch, true, v⟩) (by rw [← HS.out]; rfl) (((Keeps.refl [] w).alloc _).alloc _)
    · have hb : (i == -1) = false := by simp [hi]
      go_enter Try.func68, Try.ntmps68
      go_wp2_with fail
      refine bodyPost_ret (v := .tuple #[.agg #[.bool false, .int .i64 0, .int .i64 0], .bool false]) (by simp [results, Try.results68, go_sem]) rfl ?_
      exact rside_no (by rw [← HS.out]; simp [Md.side, *]) (((Keeps.refl [] w).alloc _).alloc _)
  by_cases h4 : kind = 4
  · subst h4
    by_cases hi : i = -1
    · subst hi
      go_enter Try.func68, Try.ntmps68
      go_wp2_with fail
      refine bodyPost_ret (v := .tuple #[.agg #[.bool true, .int .i64 ch, .int .i64 v], .bool true]) (by simp [results, Try.results68, go_sem]) rfl ?_
      exact rside_ret (t := ⟨ch, true, v⟩) (by rw [← HS.out]; rfl) (((Keeps.refl [] w).alloc _).alloc _)
    · have hb : (i == -1) = false := by simp [hi]
      go_enter Try.func68, Try.ntmps68
      go_wp2_with fail
      refine bodyPost_ret (v := .tuple #[.agg #[.bool false, .int .i64 0, .int .i64 0], .bool false]) (by simp [results, Try.results68, go_sem]) rfl ?_
      exact rside_no (by rw [← HS.out]; simp [Md.side, *]) (((Keeps.refl [] w).alloc _).alloc _)
  by_cases h3 : kind = 3
  · subst h3
    by_cases hi : i = -1
    · subst hi
      go_enter Try.func68, Try.ntmps68
      go_wp2_with fail
      refine bodyPost_ret (v := .tuple #[.agg #[.bool false, .int .i64 ch, .int .i64 0], .bool true]) (by simp [results, Try.results68, go_sem]) rfl ?_
      exact rside_ret (t := ⟨ch, false, 0⟩) (by rw [← HS.out]; rfl) (((Keeps.refl [] w).alloc _).alloc _)
    · have hb : (i == -1) = false := by simp [hi]
      go_enter Try.func68, Try.ntmps68
      go_wp2_with fail
      refine bodyPost_ret (v := .tuple #[.agg #[.bool false, .int .i64 0, .int .i64 0], .bool false]) (by simp [results, Try.results68, go_sem]) rfl ?_
      exact rside_no (by rw [← HS.out]; simp [Md.side, *]) (((Keeps.refl [] w).alloc _).alloc _)
  by_cases h5 : kind = 5
  · subst h5
    by_cases hi : i = -1
    · subst hi
      go_enter Try.func68, Try.ntmps68
      go_wp2_with fail
      refine bodyPost_ret (v := .tuple #[.agg #[.bool false, .int .i64 ch, .int .i64 0], .bool true]) (by simp [results, Try.results68, go_sem]) rfl ?_
      exact rside_ret (t := ⟨ch, false, 0⟩) (by rw [← HS.out]; rfl) (((Keeps.refl [] w).alloc _).alloc _)
    · have hb : (i == -1) = false := by simp [hi]
      go_enter Try.func68, Try.ntmps68
      go_wp2_with fail
      refine bodyPost_ret (v := .tuple #[.agg #[.bool false, .int .i64 0, .int .i64 0], .bool false]) (by simp [results, Try.results68, go_sem]) rfl ?_
      exact rside_no (by rw [← HS.out]; simp [Md.side, *]) (((Keeps.refl [] w).alloc _).alloc _)
  have b2 : (kind == 2) = false := by simp [h2]
  have b4 : (kind == 4) = false := by simp [h4]
  have b3 : (kind == 3) = false := by simp [h3]
  have b5 : (kind == 5) = false := by simp [h5]
  by_cases h9 : kind = 9
  · subst h9
    by_cases hi : 0 ≤ i
    · obtain ⟨k, rfl⟩ : ∃ k : Nat, i = (k : Int) := ⟨i.toNat, by omega⟩
      by_cases hk : k < cases.length
      · obtain ⟨c, hc⟩ : ∃ c, cases[k]? = some c := ⟨_, List.getElem?_eq_getElem hk⟩
        obtain ⟨g, off, rfl, _, hg, a0, a1, a2⟩ := HO.out.case hc
        have HE : Hid (s = some ⟨c.ch, c.send, c.v⟩) := Lib.hid (by rw [← HS.out, Md.side_case rfl (by omega)]; simp [hc])
        have i0 : (0 : Int) ≤ (k : Int) := by omega
        have i1 : (k : Int) < (cases.length : Int) := by omega
        clear hc
        go_enter Try.func68, Try.ntmps68
        go_wp2_with fail
        refine bodyPost_ret (v := .tuple #[.agg #[.bool c.send, .int .i64 c.ch, .int .i64 c.v], .bool true]) (by simp [results, Try.results68, go_sem]) rfl ?_
        exact rside_ret HE.out (((Keeps.refl [] w).alloc _).alloc _)
      · have HE : Hid (s = none) := Lib.hid (by rw [← HS.out, Md.side_case rfl (by omega)]; simp; omega)
        go_enter Try.func68, Try.ntmps68
        go_wp2_with fail
        refine bodyPost_ret (v := .tuple #[.agg #[.bool false, .int .i64 0, .int .i64 0], .bool false]) (by simp [results, Try.results68, go_sem]) rfl ?_
        exact rside_no HE.out (((Keeps.refl [] w).alloc _).alloc _)
    · have HE : Hid (s = none) := Lib.hid (by rw [← HS.out]; simp [Md.side]; omega)
      go_enter Try.func68, Try.ntmps68
      go_wp2_with fail
      refine bodyPost_ret (v := .tuple #[.agg #[.bool false, .int .i64 0, .int .i64 0], .bool false]) (by simp [results, Try.results68, go_sem]) rfl ?_
      exact rside_no HE.out (((Keeps.refl [] w).alloc _).alloc _)
  · have b9 : (kind == 9) = false := by simp [h9]
    have HE : Hid (s = none) := Lib.hid (by rw [← HS.out]; simp [Md.side, *])
    go_enter Try.func68, Try.ntmps68
    go_wp2_with fail
    refine bodyPost_ret (v := .tuple #[.agg #[.bool false, .int .i64 0, .int .i64 0], .bool false]) (by simp [results, Try.results68, go_sem]) rfl ?_
    exact rside_no HE.out (((Keeps.refl [] w).alloc _).alloc _)

theorem ref20_made (w : World) (vc vw : Value) (r : Mr.St) (S : List Nat) (ch : Int) (h : MR w vc vw r S) :
    Calls Try.prog 66 #[.agg #[vc, vw], .int .i64 ch] w fun e w' => e = .returned (.bool (Md.chan r.chans ch).isSome) ∧ Keeps [] w w' := by
  obtain ⟨ao, cap, rfl⟩ := h.1.shape
  obtain ⟨aw, cw, rfl⟩ := h.2.shape
  have hle := h.1.le
  unfold maxLen at hle
  clear h
  obtain ⟨q, hq⟩ : ∃ q, (Md.chan r.chans ch).isSome = q := ⟨_, rfl⟩
  rw [hq]
  have HQ := Lib.hid hq
  clear hq
  by_cases h1 : 1 ≤ ch
  · by_cases h2 : ch ≤ (r.chans.length : Int)
    · obtain ⟨c, hc, _⟩ := Md.chan_some h1 h2
      have HE : Hid (q = true) := Lib.hid (by rw [← HQ.out, hc]; rfl)
      clear hc
      go_enter Try.func66, Try.ntmps66
      go_wp2_with fail
      go_ret
      exact ⟨by rw [HE.out]; rfl, (Keeps.refl [] w).alloc _⟩
    · have HE : Hid (q = false) := Lib.hid (by rw [← HQ.out, Md.chan_none (by omega)]; rfl)
      go_enter Try.func66, Try.ntmps66
      go_wp2_with fail
      go_ret
      exact ⟨by rw [HE.out]; rfl, (Keeps.refl [] w).alloc _⟩
  · have HE : Hid (q = false) := Lib.hid (by rw [← HQ.out, Md.chan_none (by omega)]; rfl)
    go_enter Try.func66, Try.ntmps66
    go_wp2_with fail
    go_ret
    exact ⟨by rw [HE.out]; rfl, (Keeps.refl [] w).alloc _⟩

/-- the loop variable of a range over those who wait -/
theorem wt_var {w : World} {ao : Option Addr} {m cap k : Nat} {l : List (Int × Pn.Op)} {S : List Nat} {p : Int × Pn.Op} (h : GV wtE 7 w (.slice ao m cap) l S) (hk : l[k]? = some p) :
    ∃ g off ac cc U, ao = some ⟨g, off, none⟩ ∧ g < w.heap.size ∧ w.rangeAt g (off + k * 7) (wtC p (.slice ac p.2.cases.length cc)) ∧
      GV caseE 3 w (.slice ac p.2.cases.length cc) p.2.cases U ∧ ∀ x ∈ U, x ∈ S := by
  obtain ⟨g, off, cs, U, h1, h2, h3, h4, h5, ⟨vo, rfl, h6⟩, h7, _⟩ := h.rng hk
  obtain ⟨ac, cc, rfl⟩ := h6.shape
  exact ⟨g, off, ac, cc, U, h1, h3, h5, h6, h7⟩

set_option maxHeartbeats 1600000 in
theorem ref20_waits (w : World) (vc vw : Value) (st : Md.St) (r : Mr.St) (S : List Nat) (gi : Int) (h : MR w vc vw r S) (hr : Mr.Rel st r) :
    Calls Try.prog 31 #[.agg #[vc, vw], .int .i64 gi] w fun e w' => e = .returned (.bool (st.waits gi).isSome) ∧ Keeps [] w w' := by
  obtain ⟨q, hq⟩ : ∃ q, (st.waits gi).isSome = q := ⟨_, rfl⟩
  rw [hq]
  have HY : Hid (∀ o, (gi, o) ∈ r.waits → q = true) := Lib.hid (fun o ho => by rw [← hq, (hr.2 gi o).2 ho]; rfl)
  have HNO : Hid ((∀ o, (gi, o) ∉ r.waits) → q = false) := Lib.hid (fun hn => by
    rw [← hq]
    cases hw : st.waits gi with
    | none => rfl
    | some o => exact absurd ((hr.2 gi o).1 hw) (hn o))
  obtain ⟨ac, cc, rfl⟩ := h.1.shape
  obtain ⟨ao, cap, rfl⟩ := h.2.shape
  have HV := Lib.hid h.2
  have hle := h.2.le
  unfold maxLen at hle
  obtain ⟨l, hl⟩ : ∃ l, r.waits = l := ⟨_, rfl⟩
  rw [hl] at HV HY HNO hle ⊢
  obtain ⟨lc, hlc⟩ : ∃ lc, r.chans.length = lc := ⟨_, rfl⟩
  rw [hlc]
  clear h hr hq hl hlc
  go_enter Try.func31, Try.ntmps31
  go_wp2_with fail
  go_loopw [10] (fun u wr => ∃ k : Nat, k ≤ l.length ∧ u = .int .i64 k ∧ Hid (Keeps [] w wr ∧ ∀ (j : Nat) p, j < k → l[j]? = some p → p.1 ≠ gi)) (fun u _ => l.length - (intOf u).toNat)
  case atStart => exact ⟨0, Nat.zero_le _, rfl, Lib.hid ⟨(Keeps.refl [] w).alloc _, fun j p hj => by omega⟩⟩
  case round =>
    obtain ⟨k, hk, rfl, HI⟩ := hrel
    obtain ⟨wo, rfl⟩ : ∃ wo : World, wo = wr := ⟨_, rfl⟩
    by_cases hlt : k < l.length
    · obtain ⟨p, hx⟩ : ∃ p, l[k]? = some p := ⟨_, List.getElem?_eq_getElem hlt⟩
      obtain ⟨g, off, ac2, cc2, U, rfl, hg, hrg, hgv, hU⟩ := wt_var (HV.out.then wtE_kept HI.out.1) hx
      obtain ⟨w3, hw3⟩ : ∃ w3, wo.alloc (.cells (wtC p (.slice ac2 p.2.cases.length cc2)).toArray 144) = w3 := ⟨_, rfl⟩
      have K3 : Hid (Keeps [] w w3) := Lib.hid (HI.out.1.then (hw3 ▸ (Keeps.refl [] wo).alloc _))
      obtain ⟨x0, x1, x2, x3, x4, x5, x6⟩ := (show Blk w3 wo.heap.size (wtC p (.slice ac2 p.2.cases.length cc2)) 144 from hw3 ▸ Blk.fresh wo _ _ _ rfl).wt
      have HONE := wtC_one p ac2 p.2.cases.length cc2
      have HLT := Lib.hid hlt
      have HX := Lib.hid hx
      clear x1 x2 x3 x4 x5 x6 hgv hU hx
      cases hc : (p.1 == gi) with
      | true =>
        go_wp2_with (first
          | (refine wpList_load_mid rfl 144 (.tmp 12) rfl g (off + k * 7) (by rfl) _ _ hrg Try.underlying144 rfl (by kernel_rfl) ?_)
          | (refine wpList_store_mid rfl 144 (.tmp 6) (.tmp 13) rfl wo.heap.size 0 _ (by rfl) (by rfl) (there_alloc_new wo _ _ (by rfl)) (by kernel_rfl) HONE ?_; rw [alloc_setCells wo _ _ _ (by rfl), hw3])
          | fail)
        go_ret
        have hy : q = true := HY.out p.2 (by have := List.mem_of_getElem? HX.out; have e : p.1 = gi := by simpa using hc
                                             rw [← e]; exact this)
        exact ⟨by rw [hy]; rfl, K3.out⟩
      | false =>
        go_wp2_with (first
          | (refine wpList_load_mid rfl 144 (.tmp 12) rfl g (off + k * 7) (by rfl) _ _ hrg Try.underlying144 rfl (by kernel_rfl) ?_)
          | (refine wpList_store_mid rfl 144 (.tmp 6) (.tmp 13) rfl wo.heap.size 0 _ (by rfl) (by rfl) (there_alloc_new wo _ _ (by rfl)) (by kernel_rfl) HONE ?_; rw [alloc_setCells wo _ _ _ (by rfl), hw3])
          | fail)
        go_roundw
        case rel =>
          refine ⟨k + 1, by have := HLT.out; omega, by go_num, Lib.hid ⟨K3.out, fun j p2 hj hp => ?_⟩⟩
          by_cases e : j = k
          · subst e
            rw [HX.out] at hp
            cases hp
            simpa using hc
          · exact HI.out.2 j p2 (by omega) hp
        case measure => have := HLT.out; simp [intOf]; omega
    · obtain rfl : k = l.length := by omega
      have hn : q = false := HNO.out (fun o ho => by
        obtain ⟨j, hj⟩ := List.mem_iff_getElem?.1 ho
        exact HI.out.2 j _ (List.getElem?_eq_some_iff.1 hj).1 hj rfl)
      go_wp2_with fail
      go_ret
      exact ⟨by rw [hn]; rfl, HI.out.1⟩
end Go.Proofs.Ytopkfhmdgheghaa
