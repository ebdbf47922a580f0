/-
  handoffref20.May, Any, No: contracts.
  Conditions: none.
-/
import Derived.Test.YtopkfhmdgheghaaR20B
namespace Go.Proofs.Ytopkfhmdgheghaa
open Go.RowKit
set_option linter.unusedVariables false
set_option linter.unusedSimpArgs false
set_option linter.unnecessarySimpa false

theorem GV.ch {w : World} {ao : Option Addr} {m cap k : Nat} {S : List Nat} {l : List Md.Ch} {c : Md.Ch} (h : GV chE 3 w (.slice ao m cap) l S) (hk : l[k]? = some c) :
    ∃ g off ab cb U, ao = some ⟨g, off, none⟩ ∧ g < w.heap.size ∧ (w.cell? ⟨g, off + k * 3, none⟩ = some (.int .i64 c.cap) ∧ w.cell? ⟨g, off + k * 3 + 1, none⟩ = some (.slice ab c.buf.length cb) ∧ w.cell? ⟨g, off + k * 3 + 2, none⟩ = some (.bool c.closed)) ∧
      GV rawE 1 w (.slice ab c.buf.length cb) c.buf U ∧ ∀ x ∈ U, x ∈ S := by
  obtain ⟨g, off, cs, U, h1, h2, h3, h4, h5, ⟨vb, rfl, h6⟩, h7⟩ := h.get hk
  obtain ⟨ab, cb, rfl⟩ := h6.shape
  exact ⟨g, off, ab, cb, U, h1, h3, ⟨h5 0 (by omega), h5 1 (by omega), h5 2 (by omega)⟩, h6, h7⟩
theorem Md.may_none {st : Md.St} {g : Int} {s : Md.Sd} (h : Md.chan st.chans s.ch = none) : Md.may st g s = false := by unfold Md.may; rw [h]
theorem Md.may_some {st : Md.St} {g : Int} {s : Md.Sd} {c : Md.Ch} (h : Md.chan st.chans s.ch = some c) :
    Md.may st g s = (c.closed || (s.send && decide ((c.buf.length : Int) < c.cap)) || (!s.send && decide (0 < c.buf.length)) || (decide (c.cap = 0) && Md.another st g s.ch (!s.send))) := by unfold Md.may; rw [h]
theorem Md.chan_at {l : List Md.Ch} {ch : Int} {c : Md.Ch} (h : Md.chan l ch = some c) : ∃ k : Nat, ch = (k : Int) + 1 ∧ k < l.length ∧ l[k]? = some c := by
  unfold Md.chan at h
  split at h
  · exact ⟨(ch - 1).toNat, by omega, (List.getElem?_eq_some_iff.1 h).1, h⟩
  · cases h

set_option maxRecDepth 100000 in
set_option maxHeartbeats 3200000 in
theorem ref20_may (w : World) (vc vw vo : Value) (st : Md.St) (r : Mr.St) (S : List Nat) (gi : Int) (o : Pn.Op) (U : List Nat) (i : Int) (h : MR w vc vw r S) (hr : Mr.Rel st r) (ho : GV caseE 3 w vo o.cases U) :
    Calls Try.prog 32 #[.agg #[vc, vw], .int .i64 gi, .agg (opV o vo), .int .i64 i] w fun e w' => e = .returned (.bool (Md.mayAt st gi o i)) ∧ Keeps [] w w' := by
  have HM := Lib.hid h
  have HR := Lib.hid hr
  have HO := Lib.hid ho
  obtain ⟨ac, cc, rfl⟩ := h.1.shape
  obtain ⟨aw, cw, rfl⟩ := h.2.shape
  obtain ⟨ao, co, rfl⟩ := ho.shape
  have hle := h.1.le
  unfold maxLen at hle
  obtain ⟨q, hq⟩ : ∃ q, Md.mayAt st gi o i = q := ⟨_, rfl⟩
  rw [hq]
  unfold Md.mayAt at hq
  have HQ := Lib.hid hq
  clear h hr ho hq
  obtain ⟨w0, hw0⟩ : ∃ w0, (w.alloc (.cells #[.slice ac r.chans.length cc, .slice aw r.waits.length cw] 67)).alloc (.cells #[.int .i64 o.kind, .int .i64 o.ch, .int .i64 o.n, .int .i64 o.v, .slice ao o.cases.length co, .bool o.els] 33) = w0 := ⟨_, rfl⟩
  have K0 : Hid (Keeps [] w w0) := Lib.hid (hw0 ▸ ((Keeps.refl [] w).alloc _).alloc _)
  have HMB : Hid (Blk w0 w.heap.size [.slice ac r.chans.length cc, .slice aw r.waits.length cw] 67) := Lib.hid (hw0 ▸ (Blk.fresh w [.slice ac r.chans.length cc, .slice aw r.waits.length cw] _ _ rfl).alloc _)
  have HOB : Hid (Blk w0 (w.heap.size + 1) [.int .i64 o.kind, .int .i64 o.ch, .int .i64 o.n, .int .i64 o.v, .slice ao o.cases.length co, .bool o.els] 33) := Lib.hid (hw0 ▸ Blk.fresh _ [.int .i64 o.kind, .int .i64 o.ch, .int .i64 o.n, .int .i64 o.v, .slice ao o.cases.length co, .bool o.els] _ _ (by simp))
  obtain ⟨⟨o0, o1, o2, o3, o4, o5⟩, _⟩ := Blk.six HOB.out
  unfold opV
  go_enter Try.func32, Try.ntmps32
  go_wp2_with fail
  refine (ref20_side _ o _ U i (HO.out.then caseE_kept K0.out)).mono ?_
  rintro e w1 ⟨rfl, k1⟩
  have K1 := Lib.hid (K0.out.then k1)
  have HMB1 := Lib.hid (HMB.out.keep k1 (by simp))
  clear k1 o0 o1 o2 o3 o4 o5 hw0 HMB HOB
  cases hs : Md.side o i with
  | none =>
    have HF : Hid (q = false) := Lib.hid (by rw [← HQ.out, hs])
    unfold csV Md.noSide
    simp only [Option.getD_none, Option.isSome_none]
    go_wp2_with fail
    go_ret
    exact ⟨by rw [HF.out]; rfl, K1.out.alloc _⟩
  | some t =>
    have HQ2 : Hid (q = Md.may st gi t) := Lib.hid (by rw [← HQ.out, hs])
    clear hs HQ
    unfold csV
    simp only [Option.getD_some, Option.isSome_some]
    obtain ⟨w2, hw2⟩ : ∃ w2, w1.alloc (.cells #[.bool t.send, .int .i64 t.ch, .int .i64 t.v] 131) = w2 := ⟨_, rfl⟩
    have K2 : Hid (Keeps [] w w2) := Lib.hid (K1.out.then (hw2 ▸ (Keeps.refl [] w1).alloc _))
    have HMB2 := Lib.hid (hw2 ▸ HMB1.out.alloc (.cells #[.bool t.send, .int .i64 t.ch, .int .i64 t.v] 131))
    have HTB : Hid (Blk w2 w1.heap.size [.bool t.send, .int .i64 t.ch, .int .i64 t.v] 131) := Lib.hid (hw2 ▸ Blk.fresh w1 [.bool t.send, .int .i64 t.ch, .int .i64 t.v] _ _ rfl)
    have m0 : w2.cell? ⟨w.heap.size, 0, none⟩ = some (.slice ac r.chans.length cc) := HMB2.out.cell 0
    have m1 : w2.cell? ⟨w.heap.size, 1, none⟩ = some (.slice aw r.waits.length cw) := HMB2.out.cell 1
    obtain ⟨⟨t0, t1, t2⟩, _⟩ := Blk.three HTB.out
    go_wp2_with fail
    refine (ref20_made _ _ _ r S t.ch (HM.out.then K2.out)).mono ?_
    rintro e w3 ⟨rfl, k3⟩
    have K3 := Lib.hid (K2.out.then k3)
    have HMB3 := Lib.hid (HMB2.out.keep k3 (by simp))
    have HTB3 := Lib.hid (HTB.out.keep k3 (by simp))
    clear k3 hw2 m0 m1 t0 t1 t2 HMB1 HMB2 HTB
    cases hc : Md.chan r.chans t.ch with
    | none =>
      have HF : Hid (q = false) := Lib.hid (by rw [HQ2.out]; exact Md.may_none (by rw [HR.out.1]; exact hc))
      simp only [Option.isSome_none]
      go_wp2_with fail
      go_ret
      exact ⟨by rw [HF.out]; rfl, K3.out⟩
    | some c =>
      have HF : Hid (q = (c.closed || (t.send && decide ((c.buf.length : Int) < c.cap)) || (!t.send && decide (0 < c.buf.length)) || (decide (c.cap = 0) && Md.another st gi t.ch (!t.send)))) := Lib.hid (by rw [HQ2.out]; exact Md.may_some (by rw [HR.out.1]; exact hc))
      obtain ⟨k, hck, hkl, hx⟩ := Md.chan_at hc
      obtain ⟨g, off, ab, cb, U2, rfl, hg, ⟨e0, e1, e2⟩, hgv, _⟩ := GV.ch (HM.out.then K3.out).1 hx
      have hbl := hgv.le
      unfold maxLen at hbl
      simp only [Option.isSome_some]
      have i0 : (0 : Int) ≤ t.ch - 1 := by omega
      have i1 : t.ch - 1 < (r.chans.length : Int) := by omega
      have i2 : (t.ch - 1).toNat = k := by omega
      have HCK := Lib.hid hck
      obtain ⟨w4, hw4⟩ : ∃ w4, w3.alloc (.cells #[.int .i64 c.cap, .slice ab c.buf.length cb, .bool c.closed] 139) = w4 := ⟨_, rfl⟩
      have K4 : Hid (Keeps [] w w4) := Lib.hid (K3.out.then (hw4 ▸ (Keeps.refl [] w3).alloc _))
      have HMB4 := Lib.hid (hw4 ▸ HMB3.out.alloc (.cells #[.int .i64 c.cap, .slice ab c.buf.length cb, .bool c.closed] 139))
      have HTB4 := Lib.hid (hw4 ▸ HTB3.out.alloc (.cells #[.int .i64 c.cap, .slice ab c.buf.length cb, .bool c.closed] 139))
      have HCB4 : Hid (Blk w4 w3.heap.size [.int .i64 c.cap, .slice ab c.buf.length cb, .bool c.closed] 139) := Lib.hid (hw4 ▸ Blk.fresh w3 [.int .i64 c.cap, .slice ab c.buf.length cb, .bool c.closed] _ _ rfl)
      have m0 : w3.cell? ⟨w.heap.size, 0, none⟩ = some (.slice (some ⟨g, off, none⟩) r.chans.length cc) := HMB3.out.cell 0
      have t1 : w3.cell? ⟨w1.heap.size, 1, none⟩ = some (.int .i64 t.ch) := HTB3.out.cell 1
      have m40 : w4.cell? ⟨w.heap.size, 0, none⟩ = some (.slice (some ⟨g, off, none⟩) r.chans.length cc) := HMB4.out.cell 0
      have m41 : w4.cell? ⟨w.heap.size, 1, none⟩ = some (.slice aw r.waits.length cw) := HMB4.out.cell 1
      obtain ⟨⟨t40, t41, t42⟩, _⟩ := Blk.three HTB4.out
      obtain ⟨⟨c40, c41, c42⟩, _⟩ := Blk.three HCB4.out
      clear hgv hx hc hck
      go_upto_region 5 with fail
      clear hw4 e0 e1 e2 m0 t1
      cases b0 : c.closed with
      | true =>
        rw [b0] at c42
        have HT : Hid (q = true) := Lib.hid (by rw [HF.out, b0]; rfl)
        clear b0
        go_wp2_with fail
        go_ret
        exact ⟨by rw [HT.out]; rfl, K4.out⟩
      | false =>
        rw [b0] at c42
        have HF2 : Hid (q = ((t.send && decide ((c.buf.length : Int) < c.cap)) || (!t.send && decide (0 < c.buf.length)) || (decide (c.cap = 0) && Md.another st gi t.ch (!t.send)))) := Lib.hid (by rw [HF.out, b0, Bool.false_or])
        clear b0 HF
        cases b1 : (c.cap == 0) with
        | true =>
          have HZ : Hid (c.cap = 0) := Lib.hid (by simpa using b1)
          go_wp2_with fail
          refine (ref20_other _ _ _ st r S gi t (HM.out.then K4.out) HR.out).mono ?_
          rintro e w5 ⟨rfl, k5⟩
          have K5 := Lib.hid (K4.out.then k5)
          have t0 : w5.cell? ⟨w1.heap.size, 0, none⟩ = some (.bool t.send) := (HTB4.out.keep k5 (by simp)).cell 0
          obtain ⟨⟨c50, c51, c52⟩, _⟩ := Blk.three (HCB4.out.keep k5 (by simp))
          clear k5 m40 m41 t40 t41 t42 c40 c41 c42
          cases ha : Md.another st gi t.ch (!t.send) with
          | true =>
            have HT : Hid (q = true) := Lib.hid (by rw [HF2.out, ha, HZ.out]; simp)
            go_wp2_with fail
            go_ret
            exact ⟨by rw [HT.out]; rfl, K5.out⟩
          | false =>
            cases b2 : t.send with
            | true =>
              rw [b2] at t0
              have HT : Hid (q = decide ((c.buf.length : Int) < c.cap)) := Lib.hid (by rw [HF2.out, ha, b2]; simp)
              clear b2
              go_wp2_with fail
              go_ret
              exact ⟨by rw [HT.out]; rfl, K5.out⟩
            | false =>
              rw [b2] at t0
              have HT : Hid (q = decide ((0 : Int) < (c.buf.length : Int))) := Lib.hid (by rw [HF2.out, ha, b2]; simp)
              clear b2
              go_wp2_with fail
              go_ret
              exact ⟨by rw [HT.out]; simp [go_sem], K5.out⟩
        | false =>
          have HZ : Hid (decide (c.cap = 0) = false) := Lib.hid (by simpa using b1)
          cases b2 : t.send with
          | true =>
            rw [b2] at t40
            have HT : Hid (q = decide ((c.buf.length : Int) < c.cap)) := Lib.hid (by rw [HF2.out, HZ.out, b2]; simp)
            clear b2
            go_wp2_with fail
            go_ret
            exact ⟨by rw [HT.out]; rfl, K4.out⟩
          | false =>
            rw [b2] at t40
            have HT : Hid (q = decide ((0 : Int) < (c.buf.length : Int))) := Lib.hid (by rw [HF2.out, HZ.out, b2]; simp)
            clear b2
            go_wp2_with fail
            go_ret
            exact ⟨by rw [HT.out]; simp [go_sem], K4.out⟩
end Go.Proofs.Ytopkfhmdgheghaa
