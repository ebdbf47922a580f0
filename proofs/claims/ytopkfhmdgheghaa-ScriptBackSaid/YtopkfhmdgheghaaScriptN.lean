/-
  The small functions of scripts: the source of bytes and its next one; the document's byte at a place.
  Conditions: none.
-/
import Derived.Test.YtopkfhmdgheghaaPlanN
import Derived.Test.YtopkfhmdgheghaaKinds
namespace Go.Proofs.Ytopkfhmdgheghaa
open Go.RowKit
set_option linter.unusedVariables false
set_option linter.unusedSimpArgs false
set_option linter.unnecessarySimpa false

theorem View.drop1 {w : World} {n cap : Nat} {g off : Nat} {xs : List Value} {S : List Nat} (h : View w (.slice (some ⟨g, off, none⟩) n cap) 1 n xs S) (k : Nat) (hk : k ≤ n) :
    ∃ S', View w (.slice (if cap = k then some ⟨g, off, none⟩ else some ⟨g, off + k, none⟩) (n - k) (cap - k)) 1 (n - k) (xs.drop k) S' ∧ ∀ x ∈ S', x ∈ S := by
  obtain ⟨hl, ao, cap', e, h1, h2, h3⟩ := h
  obtain ⟨rfl, rfl⟩ : some (⟨g, off, none⟩ : Addr) = ao ∧ cap = cap' := by simpa using e
  by_cases hn : n = k
  · subst hn
    exact ⟨[], ⟨by simp [hl], _, _, by rw [Nat.sub_self], by omega, by omega, .inl ⟨by omega, rfl⟩⟩, by simp⟩
  · have hc : cap ≠ k := by omega
    rcases h3 with ⟨h3, _⟩ | ⟨g', off', e2, rfl, hg, hc2⟩
    · omega
    · obtain ⟨rfl, rfl⟩ : g = g' ∧ off = off' := by simpa using e2
      refine ⟨[g], ⟨by simp [hl], _, _, rfl, by omega, by omega, .inr ⟨g, off + k, by rw [if_neg hc], rfl, hg, fun j hj => ?_⟩⟩, fun x hx => hx⟩
      rw [show off + k + j = off + (k + j) by omega, hc2 (k + j) (by simp at hj; omega), List.getElem?_drop]
theorem GV.drop1 {q : IntKind} {w : World} {g off cap : Nat} {l : List Int} {S : List Nat} (h : GV (numE q) 1 w (.slice (some ⟨g, off, none⟩) l.length cap) l S) (k : Nat) (hk : k ≤ l.length) :
    ∃ S', GV (numE q) 1 w (.slice (if cap = k then some ⟨g, off, none⟩ else some ⟨g, off + k, none⟩) (l.length - k) (cap - k)) (l.drop k) S' ∧ ∀ x ∈ S', x ∈ S := by
  obtain ⟨T, h1, h2⟩ := h.view_nums
  have hw := h.wf
  obtain ⟨S', h3, h4⟩ := h1.drop1 k hk
  exact ⟨S', GV.of_nums (by rw [List.length_drop, List.map_drop]; exact h3) (fun x hx => hw x (List.mem_of_mem_drop hx)), fun x hx => h2 x (h4 x hx)⟩
theorem GV.cap_le {q : IntKind} {w : World} {ao : Option Addr} {n cap : Nat} {l : List Int} {S : List Nat} (h : GV (numE q) 1 w (.slice ao n cap) l S) : n = l.length ∧ l.length ≤ cap ∧ cap ≤ maxLen := by
  obtain ⟨T, h1, h2⟩ := h.view_nums
  obtain ⟨hl, ao', cap', e, h1, h2, h3⟩ := h1
  cases e
  exact ⟨rfl, h1, h2⟩
theorem Pn.byte_drop (l : List Int) (i j : Nat) : Pn.byte (l.drop i) j = Pn.byte l (i + j) := by
  simp [Pn.byte, List.getD, List.getElem?_drop]

/-- l[k:], whatever the address of a row without elements -/
theorem GV.dropx {q : IntKind} {w : World} {ao : Option Addr} {cap : Nat} {l : List Int} {S : List Nat} (h : GV (numE q) 1 w (.slice ao l.length cap) l S) (k : Nat) (hk : k ≤ l.length) (ao2 : Option Addr)
    (ha : ∀ g off, k < l.length → ao = some ⟨g, off, none⟩ → ao2 = some ⟨g, off + k, none⟩) :
    ∃ S', GV (numE q) 1 w (.slice ao2 (l.length - k) (cap - k)) (l.drop k) S' ∧ ∀ x ∈ S', x ∈ S := by
  obtain ⟨_, hc1, hc2⟩ := h.cap_le
  by_cases hlt : k < l.length
  · obtain ⟨g, off, rfl, _, _⟩ := h.addr (by omega)
    rw [ha g off hlt rfl]
    obtain ⟨S', h1, h2⟩ := h.drop1 k hk
    rw [if_neg (by omega)] at h1
    exact ⟨S', h1, h2⟩
  · obtain rfl : k = l.length := by omega
    refine ⟨[], GV.of_nums ⟨by simp, ao2, cap - l.length, by simp, by simp, by omega, .inl ⟨by simp, rfl⟩⟩ (by simp), by simp⟩

/-- the source of bytes, in the block bb; all else that it holds lies below B -/
def RowAt (B : Nat) (w : World) (bb : Nat) (l : List Int) (i : Nat) : Prop :=
  (∃ v S, Blk w bb [v] 118 ∧ GV (numE .u8) 1 w v (l.drop i) S ∧ ∀ x ∈ S, x < B) ∧ B ≤ bb
theorem RowAt.keep {B : Nat} {w w' : World} {bb : Nat} {l : List Int} {i : Nat} {T : List Nat} (h : RowAt B w bb l i) (k : Keeps T w w') (hT : ∀ x ∈ T, B ≤ x ∧ x ≠ bb) : RowAt B w' bb l i := by
  obtain ⟨⟨v, S, h2, h3, h5⟩, h8⟩ := h
  exact ⟨⟨v, S, h2.keep k (fun hm => (hT _ hm).2 rfl), h3.keep (numE_kept _) k (fun x hx hm => by have := (hT _ hm).1; have := h5 x hx; omega), h5⟩, h8⟩

def RNextPost (B : Nat) (bb : Nat) (l : List Int) (i : Nat) (w : World) (e : Ending) (w' : World) : Prop :=
  e = .returned (.int .i64 (Pn.byte l i)) ∧ RowAt B w' bb l (i + 1) ∧ Keeps [bb] w w'
set_option maxHeartbeats 800000 in
theorem row_next (B : Nat) (w : World) (bb : Nat) (l : List Int) (i : Nat) (h : RowAt B w bb l i) :
    Calls Try.prog 53 #[.pointer (some ⟨bb, 0, none⟩)] w (RNextPost B bb l i w) := by
  have H := Lib.hid h
  obtain ⟨⟨v, S, h2, h3, h5⟩, h8⟩ := h
  have h4 : bb ∉ S := fun hm => by have := h5 _ hm; omega
  have hle := h3.le
  unfold maxLen at hle
  have hcp : ∃ ao cap, v = .slice ao (l.drop i).length cap ∧ (l.drop i).length ≤ cap ∧ cap ≤ maxLen := by
    obtain ⟨ao, cap, rfl⟩ := h3.shape
    exact ⟨ao, cap, rfl, h3.cap_le.2⟩
  obtain ⟨ao, cap, rfl, hc1, hc2⟩ := hcp
  have hb0 := Pn.byte_drop l i 0
  rw [Nat.add_zero] at hb0
  have cb : w.cell? ⟨bb, 0, none⟩ = some (.slice ao (l.drop i).length cap) := h2.cell 0
  have fb : w.frozen? ⟨bb, 0, none⟩ = false := h2.free 0
  by_cases hlt : 0 < (l.drop i).length
  · obtain ⟨g, off, rfl, hgS, hg, hc⟩ := h3.num hlt
    have hr := wf8 (h3.wf _ (List.getElem_mem hlt))
    have e : (l.drop i)[0] = Pn.byte l i := by rw [← hb0, ← Pn.byte_get hlt]; simp only [List.getD, List.getElem?_eq_getElem hlt, Option.getD_some]
    rw [e] at hr
    rw [Pn.byte_get hlt, hb0, Nat.add_zero] at hc
    obtain ⟨S2, t2, t3⟩ := h3.drop1 1 hlt
    have HE : Hid (∀ v2, v2 = Value.slice (if cap = 1 then some ⟨g, off, none⟩ else some ⟨g, off + 1, none⟩) ((l.drop i).length - 1) (cap - 1) → RowAt B (w.setCell ⟨bb, 0, none⟩ v2) bb l (i + 1)) := Lib.hid (by
      intro v2 hv2
      rw [← hv2] at t2
      have k : Keeps [bb] w (w.setCell ⟨bb, 0, none⟩ v2) := (Keeps.refl [bb] w).setCell (by simp) _
      refine ⟨⟨v2, S2, ?_, ?_, ?_⟩, h8⟩
      · have := h2.set 0 v2
        simpa using this
      · rw [← List.drop_drop]
        exact t2.keep (numE_kept _) k (fun x hx hm => by simp at hm; subst hm; exact h4 (t3 _ hx))
      · exact fun x hx => h5 x (t3 x hx))
    have hcl : 0 < (l.drop i).length := hlt
    clear hlt h2 h3 h4 h5 e h8 hb0 t2 t3
    generalize hx : Pn.byte l i = x at *
    have HX := Lib.hid hx
    generalize (l.drop i).length = n at *
    obtain ⟨r0, r1⟩ := hr
    have hI1 : (1 : Int) ≤ (n : Int) := by omega
    have hI2 : (n : Int) ≤ (cap : Int) := by omega
    have hn0 : ((n : Int) == 0) = false := by simp; omega
    unfold maxLen at hc2
    clear hx
    go_enter Try.func53, Try.ntmps53
    go_wp2_with fail
    all_goals go_ret
    all_goals exact ⟨by rw [HX.out]; first | rfl | (congr 1), HE.out _ (by simp [*]), (Keeps.refl [bb] w).setCell (by simp) _⟩
  · have hge : l.length ≤ i := by simp at hlt; omega
    have HB : Hid (Pn.byte l i = 0) := Lib.hid (Pn.byte_out hge)
    have HE : Hid (RowAt B w bb l (i + 1)) := Lib.hid (by
      obtain ⟨⟨v, S, g2, g3, g5⟩, g8⟩ := H.out
      refine ⟨⟨v, S, g2, ?_, g5⟩, g8⟩
      rw [List.drop_eq_nil_of_le (by omega)]; rw [List.drop_eq_nil_of_le hge] at g3; exact g3)
    have e0 : (l.drop i).length = 0 := by omega
    rw [e0] at cb
    clear h2 h3 h4 h5 hb0 h8 hlt hc1
    go_enter Try.func53, Try.ntmps53
    go_wp2_with fail
    go_ret
    exact ⟨by rw [HB.out]; rfl, HE.out, Keeps.refl _ _⟩

theorem ref24_at (w : World) (v : Value) (l : List Int) (S : List Nat) (i : Nat) (h : GV (numE .u8) 1 w v l S) :
    Calls Try.prog 55 #[v, .int .i64 i] w fun e w' => e = .returned (.int .i64 (Pn.byte l i)) ∧ w = w' := by
  have hle := h.le
  unfold maxLen at hle
  obtain ⟨ao, cap, rfl⟩ := h.shape
  by_cases hlt : i < l.length
  · obtain ⟨g, off, rfl, _, _, hc⟩ := h.num hlt
    have hr := wf8 (h.wf _ (List.getElem_mem hlt))
    have e : l[i] = Pn.byte l i := by simp [Pn.byte, List.getD, hlt]
    rw [e] at hr
    rw [Pn.byte_get hlt] at hc
    generalize Pn.byte l i = x at *
    obtain ⟨r0, r1⟩ := hr
    clear h e
    go_enter Try.func55, Try.ntmps55
    go_wp2_with fail
    go_ret
    exact ⟨rfl, rfl⟩
  · have hge : l.length ≤ i := by omega
    rw [Pn.byte_out hge]
    clear h
    go_enter Try.func55, Try.ntmps55
    go_wp2_with fail
    go_ret
    exact ⟨rfl, rfl⟩
theorem ref24_at_of (w : World) (v : Value) (l : List Int) (S : List Nat) (n : Int) (i : Nat) (hn : n = (i : Int)) (h : GV (numE .u8) 1 w v l S) :
    Calls Try.prog 55 #[v, .int .i64 n] w fun e w' => e = .returned (.int .i64 (Pn.byte l i)) ∧ w = w' := by
  subst hn; exact ref24_at w v l S i h
theorem ref24_at_nat (w : World) (v : Value) (l : List Int) (S : List Nat) (n : Int) (hn : 0 ≤ n) (h : GV (numE .u8) 1 w v l S) :
    Calls Try.prog 55 #[v, .int .i64 n] w fun e w' => e = .returned (.int .i64 (Pn.byte l n.toNat)) ∧ w = w' := ref24_at_of w v l S n n.toNat (by omega) h
end Go.Proofs.Ytopkfhmdgheghaa
