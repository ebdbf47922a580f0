/-
  handoffref20.with: its contract.
  Conditions: none.
-/
import Derived.Test.YtopkfhmdgheghaaR20E
import Derived.Test.YtopkfhmdgheghaaCore
namespace Go.Proofs.Ytopkfhmdgheghaa
open Go.RowKit
set_option linter.unusedVariables false
set_option linter.unusedSimpArgs false
set_option linter.unnecessarySimpa false

theorem elemRChan : Elem Try.prog 64 139 3 40 (.agg #[.int .i64 0, .slice none 0 0, .bool false]) := ⟨Try.underlying64, by kernel_rfl, rfl, by decide, by decide⟩
/-- a model that is answered -/
def MRto (w : World) (r : Mr.St) (R : Nat → Prop) (v : Value) (w' : World) : Prop :=
  ∃ vc vw S, v = .agg #[vc, vw] ∧ MR w' vc vw r S ∧ Keeps [] w w' ∧ (∀ x ∈ S, R x ∨ w.heap.size ≤ x) ∧ ∀ x ∈ S, x < w'.heap.size
theorem MR.lt {w : World} {vc vw : Value} {r : Mr.St} {S : List Nat} (h : MR w vc vw r S) : ∀ x ∈ S, x < w.heap.size := h.1.lt

set_option maxRecDepth 100000 in
set_option maxHeartbeats 1600000 in
theorem ref20_with (w : World) (vc vw vb : Value) (r : Mr.St) (S : List Nat) (k : Nat) (c : Md.Ch) (U : List Nat) (gi : Int) (h : MR w vc vw r S) (hk : k < r.chans.length) (hb : GV rawE 1 w vb c.buf U) (hn1 : r.chans.length ≤ 100000) (hn2 : r.waits.length ≤ 100000) :
    Calls Try.prog 67 #[.agg #[vc, vw], .int .i64 ((k : Int) + 1), .agg #[.int .i64 c.cap, vb, .bool c.closed], .int .i64 gi] w fun e w' => ∃ v, e = .returned v ∧ MRto w ⟨r.chans.set k c, keepsG gi r.waits⟩ (fun x => x ∈ S ∨ x ∈ U) v w' := by
  obtain ⟨ac, cc, rfl⟩ := h.1.shape
  obtain ⟨aw, cw, rfl⟩ := h.2.shape
  obtain ⟨ab, cb, rfl⟩ := hb.shape
  have HC := Lib.hid h.1
  have HW := Lib.hid h.2
  have HSL := Lib.hid h.lt
  have HB := Lib.hid hb
  have HUL := Lib.hid hb.lt
  have HN1 := Lib.hid hn1
  have HN2 := Lib.hid hn2
  have hle := h.1.le
  unfold maxLen at hle
  clear h hb hn1 hn2
  obtain ⟨w0, hw0⟩ : ∃ w0, ((w.alloc (.cells #[.slice ac r.chans.length cc, .slice aw r.waits.length cw] 67)).alloc (.cells #[.int .i64 c.cap, .slice ab c.buf.length cb, .bool c.closed] 139)).alloc (.cells #[.slice none 0 0, .slice none 0 0] 67) = w0 := ⟨_, rfl⟩
  have K0 : Hid (Keeps [] w w0) := Lib.hid (hw0 ▸ (((Keeps.refl [] w).alloc _).alloc _).alloc _)
  have HMB : Hid (Blk w0 w.heap.size [.slice ac r.chans.length cc, .slice aw r.waits.length cw] 67) := Lib.hid (hw0 ▸ ((Blk.fresh w [.slice ac r.chans.length cc, .slice aw r.waits.length cw] _ _ rfl).alloc _).alloc _)
  have HCB : Hid (Blk w0 (w.heap.size + 1) [.int .i64 c.cap, .slice ab c.buf.length cb, .bool c.closed] 139) := Lib.hid (hw0 ▸ (Blk.fresh _ [.int .i64 c.cap, .slice ab c.buf.length cb, .bool c.closed] _ _ (by simp)).alloc _)
  have HRB : Hid (Blk w0 (w.heap.size + 1 + 1) [.slice none 0 0, .slice none 0 0] 67) := Lib.hid (hw0 ▸ Blk.fresh _ [.slice none 0 0, .slice none 0 0] _ _ (by simp))
  have HZ0 : Hid (w0.heap.size = w.heap.size + 3) := Lib.hid (by rw [← hw0]; simp)
  have m0 : ∀ x : Obj, (w0.alloc x).cell? ⟨w.heap.size, 0, none⟩ = some (.slice ac r.chans.length cc) := fun x => (HMB.out.alloc x).cell 0
  go_enter Try.func67, Try.ntmps67
  go_upto_region 1 with fail
  clear hw0
  go_wp2_with (at_builtin; go_must (refine wp_gapps elemRChan chE_kept (GR.lit chE 3 w0 139 _ rfl) (HC.out.then chE_kept (K0.out.alloc _)) (fun y hy => by have := HSL.out y hy; have := HZ0.out; simp; omega) (by have := HN1.out; simp; omega) ?_))
  intro ao7 cap7 w7 T7 r7' k7 s7
  have r7 : GR chE 3 w7 (.slice ao7 r.chans.length cap7) 139 r.chans T7 S := by simpa using r7'
  clear r7'
  have HS7 : Hid (∀ x ∈ T7, w.heap.size + 3 ≤ x) := Lib.hid (fun x hx => by
    have := HZ0.out
    rcases s7 x hx with h | h
    · first | omega | (simp at h; omega)
    · first | omega | (simp at h; omega))
  obtain ⟨g7, o7, rfl, rfl, hg7⟩ := r7.addr (by omega)
  have HG7 : Hid (w.heap.size + 3 ≤ g7) := Lib.hid (HS7.out g7 (by simp))
  have K7 : Hid (Keeps [] w w7) := Lib.hid ((K0.out.alloc _).trans k7 (fun x hx => by simp at hx; have := HZ0.out; exact .inr (by omega)))
  have kk7 : Keeps [w0.heap.size] w0 w7 := ((Keeps.refl _ w0).alloc _).trans k7 (fun x hx => .inl hx)
  have HMB7 := Lib.hid (HMB.out.keep kk7 (by have := HZ0.out; simp; omega))
  have HCB7 := Lib.hid (HCB.out.keep kk7 (by have := HZ0.out; simp; omega))
  have HRB7 := Lib.hid (HRB.out.keep kk7 (by have := HZ0.out; simp; omega))
  have hbu : GV rawE 1 w7 (.slice ab c.buf.length cb) c.buf U := HB.out.then rawE_kept K7.out
  obtain ⟨r8, k8, th8⟩ := GR.puts chE_kept r7 k hk (cs := [.int .i64 c.cap, .slice ab c.buf.length cb, .bool c.closed]) (a := c) (U := U) rfl ⟨_, rfl, hbu⟩ (fun y hy hm => by simp at hm; subst hm; have := HUL.out _ hy; have := HG7.out; omega) (by simp [Value.oneCell'])
  obtain ⟨w8, hw8⟩ : ∃ w8, w7.setCells g7 (o7 + k * 3) (#[.int .i64 c.cap, .slice ab c.buf.length cb, .bool c.closed] : Array Value).toList = w8 := ⟨_, rfl⟩
  have R8 : Hid (GR chE 3 w8 (.slice (some ⟨g7, o7, none⟩) r.chans.length cap7) 139 (r.chans.set k c) [g7] (S ++ U)) := Lib.hid (hw8 ▸ r8)
  have K78 : Hid (Keeps [g7] w7 w8) := Lib.hid (hw8 ▸ k8)
  have K8 : Hid (Keeps [] w w8) := Lib.hid (K7.out.trans K78.out (fun x hx => by simp at hx; subst hx; exact .inr (by have := HG7.out; omega)))
  have HMB8 := Lib.hid (HMB7.out.keep K78.out (by have := HG7.out; simp; omega))
  have HRB8 := Lib.hid (HRB7.out.keep K78.out (by have := HG7.out; simp; omega))
  have m81 : w8.cell? ⟨w.heap.size, 1, none⟩ = some (.slice aw r.waits.length cw) := HMB8.out.cell 1
  obtain ⟨⟨c0, c1, c2⟩, _⟩ := Blk.three HCB7.out
  clear r7 k7 s7 kk7 hbu r8 k8 m0
  go_wp2_with (first
    | (refine wpList_store_mid rfl 139 (.tmp 18) (.tmp 17) rfl g7 (o7 + k * 3) #[.int .i64 c.cap, .slice ab c.buf.length cb, .bool c.closed] (by rfl) (by rfl) th8 (by kernel_rfl) (by kernel_rfl) ?_; rw [hw8])
    | fail)
  refine (ref20_without _ _ r.waits S gi (HW.out.then wtE_kept K8.out) HN2.out).mono ?_
  rintro e w9 ⟨v9, S9, rfl, gv9, k9, s9⟩
  obtain ⟨a9, c9, rfl⟩ := gv9.shape
  have R9 := Lib.hid (R8.out.then chE_kept k9)
  have HRB9 := Lib.hid (HRB8.out.keep k9 (by simp))
  have G9 := Lib.hid gv9
  have K9 := Lib.hid (K8.out.then k9)
  have S9' : Hid (∀ x ∈ S9, x ∈ S ∨ w.heap.size + 3 ≤ x) := Lib.hid (fun x hx => by
    rcases s9 x hx with h | h
    · exact .inl h
    · exact .inr (by have := K78.out.size; have := HG7.out; omega))
  have b0 : w9.cell? ⟨w.heap.size + 1 + 1, 0, none⟩ = some (.slice none 0 0) := HRB9.out.cell 0
  have b1 : w9.cell? ⟨w.heap.size + 1 + 1, 1, none⟩ = some (.slice none 0 0) := HRB9.out.cell 1
  have f0 : w9.frozen? ⟨w.heap.size + 1 + 1, 0, none⟩ = false := HRB9.out.free 0
  have f1 : w9.frozen? ⟨w.heap.size + 1 + 1, 1, none⟩ = false := HRB9.out.free 1
  clear gv9 k9 s9 m81 c0 c1 c2 hw8
  go_wp2_with fail
  have kf : Keeps [w.heap.size + 1 + 1] w9 ((w9.setCell ⟨w.heap.size + 1 + 1, 0, none⟩ (.slice (some ⟨g7, o7, none⟩) r.chans.length cap7)).setCell ⟨w.heap.size + 1 + 1, 1, none⟩ (.slice a9 (keepsG gi r.waits).length c9)) := ((Keeps.refl _ w9).setCell (by simp) _).setCell (by simp) _
  have HF := Lib.hid kf
  refine bodyPost_ret (v := .agg #[.slice (some ⟨g7, o7, none⟩) r.chans.length cap7, .slice a9 (keepsG gi r.waits).length c9]) (by simp [results, Try.results67, go_sem, *]) rfl ?_
  refine ⟨_, rfl, _, _, g7 :: (S ++ U) ++ S9, rfl, ⟨?_, ?_⟩, ?_, ?_, ?_⟩
  · exact (R9.out.gv.mono (fun x hx => by simp at hx ⊢; rcases hx with h | h | h <;> simp [h]) (fun x hx => by
      simp at hx
      rcases hx with h | h | h | h
      · subst h; exact R9.out.lt.1 _ (by simp)
      · exact R9.out.lt.2 x (by simp [h])
      · exact R9.out.lt.2 x (by simp [h])
      · exact G9.out.lt x h)).keep chE_kept HF.out (fun x hx hm => by
      simp at hx hm
      subst hm
      rcases hx with h | h | h | h
      · have := HG7.out; omega
      · have := HSL.out _ h; omega
      · have := HUL.out _ h; omega
      · rcases S9'.out _ h with h | h
        · have := HSL.out _ h; omega
        · omega)
  · exact (G9.out.mono (fun x hx => by simp [hx]) (fun x hx => by
      simp at hx
      rcases hx with h | h | h | h
      · subst h; exact R9.out.lt.1 _ (by simp)
      · exact R9.out.lt.2 x (by simp [h])
      · exact R9.out.lt.2 x (by simp [h])
      · exact G9.out.lt x h)).keep wtE_kept HF.out (fun x hx hm => by
      simp at hx hm
      subst hm
      rcases hx with h | h | h | h
      · have := HG7.out; omega
      · have := HSL.out _ h; omega
      · have := HUL.out _ h; omega
      · rcases S9'.out _ h with h | h
        · have := HSL.out _ h; omega
        · omega)
  · exact K9.out.trans HF.out (fun x hx => by simp at hx; subst hx; exact .inr (by omega))
  · intro x hx
    simp at hx
    rcases hx with h | h | h | h
    · right; have := HG7.out; omega
    · exact .inl (.inl h)
    · exact .inl (.inr h)
    · rcases S9'.out _ h with h | h
      · exact .inl (.inl h)
      · right; omega
  · intro x hx
    have hz := HF.out.size
    simp only [List.mem_append, List.mem_cons] at hx
    rcases hx with (h | h | h) | h
    · subst h; exact Nat.lt_of_lt_of_le (R9.out.lt.1 _ (by simp)) hz
    · exact Nat.lt_of_lt_of_le (R9.out.lt.2 x (by simp [h])) hz
    · exact Nat.lt_of_lt_of_le (R9.out.lt.2 x (by simp [h])) hz
    · exact Nat.lt_of_lt_of_le (G9.out.lt x h) hz
end Go.Proofs.Ytopkfhmdgheghaa
