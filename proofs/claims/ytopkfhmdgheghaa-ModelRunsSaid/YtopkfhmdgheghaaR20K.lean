/-
  Chans of package model, and chans of handofflaw20: contracts.
  Conditions: rows of no more than 100000.
-/
import Derived.Test.YtopkfhmdgheghaaR20J
import Derived.Deep.DrawnRows
namespace Go.Proofs.Ytopkfhmdgheghaa
open Go.RowKit
set_option linter.unusedVariables false
set_option linter.unusedSimpArgs false
set_option linter.unnecessarySimpa false

theorem chE_fld {w : World} {g off m cap : Nat} {e : TypeId} {l : List Md.Ch} {T S U : List Nat} (h : GR chE 3 w (.slice (some ⟨g, off, none⟩) m cap) e l T S) {k : Nat} {c : Md.Ch} (hk : l[k]? = some c) {vb : Value} (hv : GV rawE 1 w vb c.buf U) (hU : ∀ y ∈ U, y ∉ T) :
    GR chE 3 (w.setCell ⟨g, off + k * 3 + 1, none⟩ vb) (.slice (some ⟨g, off, none⟩) m cap) e l T (S ++ U) ∧ Keeps T w (w.setCell ⟨g, off + k * 3 + 1, none⟩ vb) := by
  obtain ⟨xs, h2, h3, h4, h5, h6⟩ := h
  have hlen := h2.len
  have hkl := (List.getElem?_eq_some_iff.1 hk).1
  obtain ⟨r1, r2⟩ := h2.stored (k * 3 + 1) (by omega) vb
  rw [← Nat.add_assoc] at r1 r2
  refine ⟨⟨xs.set (k * 3 + 1) vb, r1, ?_, ?_, ?_, ?_⟩, r2⟩
  · intro i b hi
    by_cases ei : k = i
    · subst ei
      rw [hk] at hi
      cases hi
      obtain ⟨V, ⟨vo, hc, _⟩, _⟩ := h3 k _ hk
      refine ⟨U, ⟨vb, ?_, hv.keep rawE_kept r2 hU⟩, fun y hy => by simp [hy]⟩
      apply List.ext_getElem?
      intro j
      by_cases hj : j < 3
      · rw [chunk_get hj]
        by_cases ej : j = 1
        · subst ej
          rw [List.getElem?_set_self (by omega)]
          rfl
        · rw [List.getElem?_set_ne (by omega), ← chunk_get hj, hc]
          match j, hj with
          | 0, _ => rfl
          | 1, _ => omega
          | 2, _ => rfl
      · rw [List.getElem?_eq_none (by unfold chunk; rw [List.length_take]; omega), List.getElem?_eq_none (by simp; omega)]
    · obtain ⟨V, v1, v2⟩ := h3 i b hi
      refine ⟨V, chE_kept.keep ?_ r2 (fun y hy hT => h5 y hT (v2 y hy)), fun y hy => by simp [v2 y hy]⟩
      have : chunk (xs.set (k * 3 + 1) vb) 3 i = chunk xs 3 i := by
        apply List.ext_getElem?
        intro j
        by_cases hj : j < 3
        · rw [chunk_get hj, chunk_get hj, List.getElem?_set_ne (by omega)]
        · rw [List.getElem?_eq_none (by unfold chunk; rw [List.length_take]; omega), List.getElem?_eq_none (by unfold chunk; rw [List.length_take]; omega)]
      rw [this]; exact v1
  · intro y hy
    have hsz := r2.size
    rcases List.mem_append.1 hy with h | h
    · have := h4 y h; omega
    · have := hv.lt y h; omega
  · intro y hy h
    rcases List.mem_append.1 h with h | h
    · exact h5 y hy h
    · exact hU y h hy
  · intro y hy
    rcases List.mem_or_eq_of_mem_set hy with h | rfl
    · exact h6 y h
    · obtain ⟨ao, cp, rfl⟩ := hv.shape
      rfl
/-- a channel of an owned row -/
theorem chE_at {w : World} {ao : Option Addr} {m cap : Nat} {e : TypeId} {l : List Md.Ch} {T S : List Nat} (h : GR chE 3 w (.slice ao m cap) e l T S) {k : Nat} {c : Md.Ch} (hk : l[k]? = some c) :
    ∃ g off ab cb U, ao = some ⟨g, off, none⟩ ∧ T = [g] ∧ g < w.heap.size ∧ w.cell? ⟨g, off + k * 3, none⟩ = some (.int .i64 c.cap) ∧ w.cell? ⟨g, off + k * 3 + 1, none⟩ = some (.slice ab c.buf.length cb) ∧ w.cell? ⟨g, off + k * 3 + 2, none⟩ = some (.bool c.closed) ∧ (∀ j, w.frozen? ⟨g, off + j, none⟩ = false) ∧ GV rawE 1 w (.slice ab c.buf.length cb) c.buf U ∧ ∀ x ∈ U, x ∈ S := by
  obtain ⟨xs, h2, h3, h4, h5, h6⟩ := h
  have hlen := h2.len
  have hkl := (List.getElem?_eq_some_iff.1 hk).1
  obtain ⟨g, off, rfl, rfl, hg, hc, hf⟩ := h2.cells (by omega)
  obtain ⟨U, ⟨vb, hch, hv⟩, hU⟩ := h3 k c hk
  obtain ⟨ab, cb, rfl⟩ := hv.shape
  have hx : ∀ j, j < 3 → w.cell? ⟨g, off + k * 3 + j, none⟩ = [Value.int .i64 c.cap, .slice ab c.buf.length cb, .bool c.closed][j]? := fun j hj => by
    rw [Nat.add_assoc, hc _ (by omega), ← chunk_get hj, hch]
  exact ⟨g, off, ab, cb, U, rfl, rfl, hg, hx 0 (by omega), hx 1 (by omega), hx 2 (by omega), hf, hv, hU⟩
/-- the clone, while its rows are cloned -/
def ChI (w : World) (S : List Nat) (l : List Md.Ch) (v : Value) (wr : World) : Prop := ∃ T S', GR chE 3 wr v 136 l T S' ∧ Keeps [] w wr ∧ (∀ x ∈ T, w.heap.size ≤ x) ∧ ∀ x ∈ S', x ∈ S ∨ w.heap.size ≤ x

set_option maxRecDepth 100000 in
set_option maxHeartbeats 1600000 in
theorem model_chans (w : World) (p : Value) (st : Md.St) (N : Nat) (S : List Nat) (h : Mo w p st N S) (hN : N ≤ 100000) (hc : st.chans.length ≤ 100000) :
    Calls Try.prog 70 #[p] w fun e w' => ∃ v S', e = .returned v ∧ GV chE 3 w' v st.chans S' ∧ Keeps [] w w' ∧ ∀ x ∈ S', x ∈ S ∨ w.heap.size ≤ x := by
  obtain ⟨b, bm, vh, T, Us, SW, f, col, rfl, hm⟩ := h
  have HG := Lib.hid hm.chans.gv
  have HSS : Hid (∀ x ∈ T ++ Us.flatten, x ∈ S) := Lib.hid (fun x hx => by
    rcases List.mem_append.1 hx with h | h
    · exact hm.st x h
    · obtain ⟨U, hU, hxU⟩ := List.mem_flatten.1 h
      exact hm.su U hU x hxU)
  have HLB : Hid (∀ c ∈ st.chans, c.buf.length ≤ 100000) := Lib.hid (fun c hcm => by
    obtain ⟨ao, cap, hv⟩ := hm.chans.shape
    obtain ⟨k, hk⟩ := List.mem_iff_getElem?.1 hcm
    have hh := hm.chans
    rw [hv] at hh
    obtain ⟨g, off, bv, U, _, _, _, _, _, _, _, _, _, h9⟩ := hh.get hk
    omega)
  obtain ⟨c0, _, _, _⟩ := hm.cells
  have HC := Lib.hid hc
  have hle := hm.chans.le
  unfold maxLen at hle
  obtain ⟨l, hl⟩ : ∃ l, st.chans = l := ⟨_, rfl⟩
  rw [hl] at HG HLB HC hle ⊢
  clear hm hl hc hN
  go_enter Try.func70, Try.ntmps70
  go_wp2_with fail
  refine (clone_chans _ _ l _ HG.out HC.out).mono ?_
  rintro e w1 ⟨v1, T1, S1, rfl, g1, k1, t1, s1⟩
  obtain ⟨ao1, cap1, rfl⟩ := g1.shape
  have HI1 : Hid (ChI w S l (.slice ao1 l.length cap1) w1) := Lib.hid ⟨T1, S1, g1, k1, t1, fun x hx => .inl (HSS.out x (s1 x hx))⟩
  clear g1 k1 t1 s1 c0
  go_wp2_with fail
  go_loopw [12] (fun u wr => ∃ k : Nat, k ≤ l.length ∧ u = .int .i64 k ∧ Hid (ChI w S l (.slice ao1 l.length cap1) wr)) (fun u _ => l.length - (intOf u).toNat)
  case atStart => exact ⟨0, Nat.zero_le _, rfl, HI1⟩
  case round =>
    obtain ⟨k, hk, rfl, HI⟩ := hrel
    obtain ⟨wo, rfl⟩ : ∃ wo : World, wo = wr := ⟨_, rfl⟩
    obtain ⟨T, S', hg, hkp, hT, hS'⟩ := HI.out
    have HGR := Lib.hid hg
    have HKP := Lib.hid hkp
    have HT := Lib.hid hT
    have HS' := Lib.hid hS'
    clear HI1 HI hS'
    by_cases hlt : k < l.length
    · obtain ⟨c, hx⟩ : ∃ c, l[k]? = some c := ⟨_, List.getElem?_eq_getElem hlt⟩
      obtain ⟨g, off, ab, cb, U, rfl, rfl, hgz, e0, e1, e2, hf, hv, hU⟩ := chE_at hg hx
      have HX := Lib.hid hx
      have HV := Lib.hid hv
      have HLT := Lib.hid hlt
      have i1 : (k : Int) < (l.length : Int) := by omega
      have HUS := Lib.hid hU
      have HUN : Hid (g ∉ U) := Lib.hid (fun hm => by
        obtain ⟨xs, _, _, _, h5, _⟩ := hg
        exact h5 g (by simp) (hU g hm))
      have HGZ := Lib.hid hgz
      clear hg hkp hT hv hU e0 e2 hx
      go_wp2_with fail
      refine (clone_i64s _ _ c.buf U HV.out (HLB.out c (List.mem_of_getElem? HX.out))).mono ?_
      rintro e w5 ⟨v5, T5, S5, rfl, g5, k5, t5, s5⟩
      have hg5 := HGR.out.then chE_kept k5
      obtain ⟨g', off', ab', cb', U', q1, q2, q3, e0, e1, e2, hf, _, _⟩ := chE_at hg5 HX.out
      obtain ⟨rfl, rfl⟩ := by simpa using q1
      have f1 : w5.frozen? ⟨g, off + k * 3 + 1, none⟩ = false := by rw [Nat.add_assoc]; exact hf _
      have hn := chE_fld hg5 HX.out g5.gv (fun y hy hm => by
        simp only [List.mem_singleton] at hm
        subst hm
        rcases List.mem_append.1 hy with h | h
        · have := t5 _ h; have := HGZ.out; omega
        · exact HUN.out (s5 _ h))
      have HN : Hid (ChI w S l (.slice (some ⟨g, off, none⟩) l.length cap1) (w5.setCell ⟨g, off + k * 3 + 1, none⟩ v5)) := Lib.hid ⟨_, _, hn.1, (HKP.out.then k5).trans hn.2 (fun x hx => .inr (HT.out x hx)), HT.out, fun x hx => by
        have := HKP.out.size
        rcases List.mem_append.1 hx with h | h
        · exact HS'.out x h
        · rcases List.mem_append.1 h with h | h
          · right; have := t5 x h; omega
          · exact HS'.out x (HUS.out x (s5 x h))⟩
      obtain ⟨a5, c5, rfl⟩ := g5.shape
      clear hg5 hn g5 k5 t5 s5 e0 e2 hf q1 q2 q3
      go_wp2_with fail
      go_roundw
      case rel => exact ⟨k + 1, by have := HLT.out; omega, by go_num, HN⟩
      case measure => have := HLT.out; simp [intOf]; omega
    · obtain rfl : k = l.length := by omega
      clear hg hkp hT
      go_wp2_with fail
      go_ret
      exact ⟨_, _, rfl, HGR.out.gv, HKP.out, fun x hx => by
        rcases List.mem_append.1 hx with h | h
        · exact .inr (HT.out x h)
        · exact HS'.out x h⟩

/-- the list that is made -/
def ChO (w w1 : World) (l : List Md.Ch) (v : Value) (wr : World) : Prop := ∃ T S', GR chE 3 wr v 139 l T S' ∧ Keeps [] w wr ∧ ∀ x ∈ T, x = w.heap.size ∨ w1.heap.size ≤ x
set_option maxRecDepth 100000 in
set_option maxHeartbeats 1600000 in
theorem law20_chans (w : World) (p : Value) (st : Md.St) (N : Nat) (S : List Nat) (h : Mo w p st N S) (hN : N ≤ 100000) (hc : st.chans.length ≤ 100000) :
    Calls Try.prog 30 #[p] w fun e w' => ∃ v S', e = .returned v ∧ GV chE 3 w' v st.chans S' ∧ Keeps [] w w' := by
  have HM := Lib.hid h
  have HC := Lib.hid hc
  have HN := Lib.hid hN
  have hle : st.chans.length ≤ 2 ^ 63 - 1 := by omega
  have HSL := Lib.hid h.lt
  obtain ⟨l, hl⟩ : ∃ l, st.chans = l := ⟨_, rfl⟩
  have HLE := Lib.hid hl
  rw [hl] at hle ⊢
  clear h hc hN hl
  go_enter Try.func30, Try.ntmps30
  go_wp2_with fail
  refine (model_chans _ p st N S (HM.out.then ((Keeps.refl [] w).alloc _)) HN.out HC.out).mono ?_
  rintro e w1 ⟨v1, S1, rfl, g1, k1, s1⟩
  rw [HLE.out] at g1 HC
  have HS1 : Hid (∀ x ∈ S1, x ≠ w.heap.size ∧ x < w1.heap.size) := Lib.hid (fun x hx => ⟨by
    rcases s1 x hx with h | h
    · have := HSL.out x h; omega
    · simp at h; omega, g1.lt x hx⟩)
  obtain ⟨ao1, cap1, rfl⟩ := g1.shape
  have HV := Lib.hid g1
  have HI1 : Hid (ChO w w1 [] (.slice (some ⟨w.heap.size, 0, none⟩) 0 0) w1) := Lib.hid ⟨_, _, (GR.lit chE 3 w 139 _ rfl).then chE_kept k1, ((Keeps.refl [] w).alloc _).then k1, by simp⟩
  have HZ1 : Hid (w.heap.size + 1 ≤ w1.heap.size) := Lib.hid (by have := k1.size; simpa using this)
  clear g1 k1 s1
  go_wp2_with fail
  go_loopw [3, 10] (fun out u wr => ∃ k : Nat, k ≤ l.length ∧ u = .int .i64 k ∧ Hid (ChO w w1 (l.take k) out wr ∧ Keeps [w.heap.size] w1 wr)) (fun _ u _ => l.length - (intOf u).toNat)
  case atStart => exact ⟨0, Nat.zero_le _, rfl, Lib.hid ⟨HI1.out, Keeps.refl _ _⟩⟩
  case round =>
    obtain ⟨k, hk, rfl, HI⟩ := hrel
    obtain ⟨wo, rfl⟩ : ∃ wo : World, wo = wr := ⟨_, rfl⟩
    obtain ⟨⟨T, S', hg, hkp, hT⟩, hk1⟩ := HI.out
    obtain ⟨L, hL⟩ : ∃ L, l.take k = L := ⟨_, rfl⟩
    have hLl : L.length = k := by rw [← hL, List.length_take]; omega
    rw [hL] at hg
    obtain ⟨aoo, capo, rfl⟩ := hg.shape
    have HGR := Lib.hid hg
    have HKP := Lib.hid hkp
    have HT := Lib.hid hT
    have HK1 := Lib.hid hk1
    have HLQ := Lib.hid hL
    have HLL := Lib.hid hLl
    clear hg hkp hT HI1 HI hk1 hL hLl
    by_cases hlt : k < l.length
    · obtain ⟨c, hx⟩ : ∃ c, l[k]? = some c := ⟨_, List.getElem?_eq_getElem hlt⟩
      obtain ⟨g, off, cs, U, rfl, _, hgz, hcl, hrg, ⟨vb, rfl, hvb⟩, hU, hone⟩ := (HV.out.keep chE_kept HK1.out (fun x hx hm => by simp at hm; exact (HS1.out x hx).1 hm)).rng hx
      obtain ⟨ab, cb, rfl⟩ := hvb.shape
      obtain ⟨w3, hw3⟩ : ∃ w3, wo.alloc (.cells [Value.int .i64 c.cap, .slice ab c.buf.length cb, .bool c.closed].toArray 136) = w3 := ⟨_, rfl⟩
      have K3 : Hid (Keeps [] wo w3) := Lib.hid (hw3 ▸ (Keeps.refl [] wo).alloc _)
      have hrg3 : w3.rangeAt wo.heap.size 0 [.int .i64 c.cap, .slice ab c.buf.length cb, .bool c.closed] := (show Blk w3 wo.heap.size [.int .i64 c.cap, .slice ab c.buf.length cb, .bool c.closed] 136 from hw3 ▸ Blk.fresh wo _ _ _ rfl).range
      have HONE : [Value.int .i64 c.cap, .slice ab c.buf.length cb, .bool c.closed].toArray.all (·.oneCell') = true := by kernel_rfl
      have HLT := Lib.hid hlt
      have HX := Lib.hid hx
      have HZ3 : Hid (w3.heap.size = wo.heap.size + 1) := Lib.hid (by rw [← hw3]; simp)
      have HG3 := Lib.hid (HGR.out.then chE_kept K3.out)
      have HE3 : Hid (chE w3 [.int .i64 c.cap, .slice ab c.buf.length cb, .bool c.closed] c U) := Lib.hid ⟨_, rfl, hvb.then rawE_kept K3.out⟩
      have HD : Hid (∀ y ∈ U, y ∉ T) := Lib.hid (fun y hy hm => by
        have h1 := HS1.out y (hU y hy)
        rcases HT.out y hm with h | h
        · exact h1.1 h
        · omega)
      have HUS := Lib.hid hU
      clear hvb hU hone hx hcl
      go_upto_region 5 with (first
        | (refine wpList_load_mid rfl 136 (.tmp 12) rfl g (off + k * 3) (by rfl) _ _ hrg Try.underlying136 rfl (by kernel_rfl) ?_)
        | (refine wpList_store_mid rfl 136 (.tmp 5) (.tmp 13) rfl wo.heap.size 0 _ (by rfl) (by rfl) (there_alloc_new wo _ _ (by rfl)) (by kernel_rfl) HONE ?_; rw [alloc_setCells wo _ _ _ (by rfl), hw3])
        | fail)
      clear hw3 hrg
      go_wp2_with (first
        | (refine wpList_load_mid rfl 136 (.tmp 5) rfl wo.heap.size 0 (by rfl) _ _ hrg3 Try.underlying136 rfl (by kernel_rfl) ?_)
        | (at_builtin; go_must (refine wp_gapp1 elemRChan chE_kept HG3.out HE3.out rfl HD.out (by simp [Value.oneCell']) (by have := HLL.out; have := HC.out; have := HLT.out; omega) ?_))
        | fail)
      intro ao7 cap7 w7 T7 r7 k7 s7
      have HN : Hid (ChO w w1 (l.take (k + 1)) (.slice ao7 (L.length + 1) cap7) w7 ∧ Keeps [w.heap.size] w1 w7) := Lib.hid (by
        have hz := HZ3.out
        have hz1 := HK1.out.size
        have hz2 := HZ1.out
        refine ⟨⟨T7, S' ++ U, ?_, (HKP.out.then K3.out).trans k7 (fun x hx => ?_), fun x hx => ?_⟩, (HK1.out.trans K3.out (by simp)).trans k7 (fun x hx => ?_)⟩
        · rw [List.take_add_one, HX.out, HLQ.out]
          exact r7
        · rcases HT.out x hx with h | h
          · exact .inr (by omega)
          · exact .inr (by omega)
        · rcases s7 x hx with h | h
          · exact HT.out x h
          · exact .inr (by omega)
        · rcases HT.out x hx with h | h
          · exact .inl (by simp [h])
          · exact .inr h)
      clear r7 k7 s7 hrg3
      go_wp2_with fail
      go_roundw
      case rel => exact ⟨k + 1, by have := HLT.out; omega, by go_num, HN⟩
      case measure => have := HLT.out; simp [intOf]; omega
    · obtain rfl : k = l.length := by omega
      have HGV := Lib.hid HGR.out.gv
      have HEQ : Hid (L = l) := Lib.hid (by rw [← HLQ.out, List.take_length])
      go_wp2_with fail
      go_ret
      exact ⟨_, _, rfl, by rw [HEQ.out] at HGV; rw [HEQ.out]; exact HGV.out, HKP.out⟩
end Go.Proofs.Ytopkfhmdgheghaa
