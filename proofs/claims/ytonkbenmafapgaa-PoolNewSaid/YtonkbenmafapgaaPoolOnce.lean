/-
  The law PoolOnce: its walk.
  Conditions: none.
-/
import Derived.Test.YtonkbenmafapgaaPoolG
import Derived.Test.YtonkbenmafapgaaPoolAll
namespace Go.Proofs.Ytonkbenmafapgaa
open Go.RowKit
set_option linter.unusedVariables false
set_option linter.unusedSimpArgs false
set_option linter.unnecessarySimpa false

namespace Po
/-- what is out, thing by thing -/
def OutI (N : Nat) (s : St) (o : List Bool) : Prop := o.length = N ∧ ∀ a : Nat, a < N → o.getD a false = (decide (a < s.f) && decide (cnt s (a : Int) = 0))
theorem flat_set {α : Type} : ∀ (C : List (List α)) (g : Nat) (c c' : List α), C[g]? = some c → (C.set g c').flatten.length + c.length = C.flatten.length + c'.length
  | [], g, c, c', h => by simp at h
  | y :: r, 0, c, c', h => by
    simp at h; subst h
    simp; omega
  | y :: r, g + 1, c, c', h => by
    have := flat_set r g c c' (by simpa using h)
    simp at this ⊢; omega
theorem own_lens (most : Nat) (c M : List Int) : (own most c M).length + (mid most c M).length = c.length + M.length := by
  unfold own mid pulls
  simp
  split <;> omega
theorem take_ok {N most : Nat} {s : St} (v : Inv N most s) {g : Int} (hok : (take N most s g).2.2 = true) {o : List Bool} (h : OutI N s o) :
    0 ≤ (take N most s g).2.1 ∧ (take N most s g).2.1 < N ∧ o.getD (take N most s g).2.1.toNat false = false ∧ OutI N (take N most s g).1 (o.set (take N most s g).2.1.toNat true) ∧ outs (take N most s g).1.H (take N most s g).1.f = outs s.H s.f + 1 := by
  have v2 := v.take g
  have o1 := v.outs
  have o2 := v2.outs
  obtain ⟨hl, hh⟩ := h
  unfold Po.take at hok v2 o2 ⊢
  by_cases ht : taker s.C g = true
  · rw [if_pos ht] at hok v2 o2 ⊢
    simp only [taker, Bool.and_eq_true, decide_eq_true_eq] at ht
    have hg : s.C[g.toNat]? = some (s.C.getD g.toNat []) := by
      rw [List.getD_eq_getElem?_getD, List.getElem?_eq_getElem (by omega)]; simp
    by_cases h0 : own most (s.C.getD g.toNat []) s.M = []
    · rw [if_pos h0] at hok v2 o2 ⊢
      by_cases h1 : s.f < N
      · rw [if_pos h1] at hok v2 o2 ⊢
        simp only at v2 o2 ⊢
        have hz : cnt s (s.f : Int) = 0 := by
          have := v.bound (s.f : Int)
          omega
        refine ⟨by omega, by omega, ?_, ⟨by simpa using hl, fun a ha => ?_⟩, by omega⟩
        · rw [Int.toNat_natCast, hh _ h1]; simp
        · rw [Int.toNat_natCast, getD_set _ _ _ _ _ (by omega)]
          have h2 : cnt ⟨s.C, s.M, s.f + 1, s.H⟩ (a : Int) = cnt s (a : Int) := rfl
          rw [h2]
          by_cases e : s.f = a
          · rw [if_pos e]; subst e; simp [hz]
          · rw [if_neg e, hh a ha]
            have : decide (a < s.f + 1) = decide (a < s.f) := by simp only [decide_eq_decide]; omega
            rw [this]
      · rw [if_neg h1] at hok; cases hok
    · rw [if_neg h0] at hok v2 o2 ⊢
      simp only at v2 o2 ⊢
      have hb := v.last hg rfl h0
      have hcn := cnt_took (size := N) hg h0
      have hfl := v.fl
      have hx := hcn ((own most (s.C.getD g.toNat []) s.M).getLastD 0)
      have ho1 := v.one ((own most (s.C.getD g.toNat []) s.M).getLastD 0)
      have e1 := flat_set s.C g.toNat _ (own most (s.C.getD g.toNat []) s.M).dropLast hg
      have e2 := own_lens most (s.C.getD g.toNat []) s.M
      have e3 : (own most (s.C.getD g.toNat []) s.M).length = (own most (s.C.getD g.toNat []) s.M).dropLast.length + 1 := by
        rw [List.length_dropLast]; have := List.length_pos_iff.2 h0; omega
      have o3 : Po.outs (took s g.toNat (own most (s.C.getD g.toNat []) s.M) (mid most (s.C.getD g.toNat []) s.M)).H s.f + ((mid most (s.C.getD g.toNat []) s.M).length + (s.C.set g.toNat (own most (s.C.getD g.toNat []) s.M).dropLast).flatten.length) = s.f := o2
      generalize (own most (s.C.getD g.toNat []) s.M).getLastD 0 = x at *
      unfold ind at hx
      rw [if_pos rfl] at hx
      refine ⟨hb.1, by omega, ?_, ⟨by simpa using hl, fun a ha => ?_⟩, ?_⟩
      · rw [hh _ (by omega), Int.toNat_of_nonneg hb.1]
        simp; omega
      · rw [getD_set _ _ _ _ _ (by omega)]
        have hxa := hcn (a : Int)
        unfold ind at hxa
        show _ = (decide (a < s.f) && _)
        by_cases e : x.toNat = a
        · rw [if_pos e]
          have e2 : x = (a : Int) := by omega
          rw [if_pos e2] at hxa
          have := v.one (a : Int)
          have hz : cnt (took s g.toNat (own most (s.C.getD g.toNat []) s.M) (mid most (s.C.getD g.toNat []) s.M)) (a : Int) = 0 := by omega
          rw [hz]
          have ha2 : a < s.f := by omega
          simp [ha2]
        · rw [if_neg e, hh a ha]
          rw [if_neg (by omega)] at hxa
          have : cnt s (a : Int) = cnt (took s g.toNat (own most (s.C.getD g.toNat []) s.M) (mid most (s.C.getD g.toNat []) s.M)) (a : Int) := by omega
          rw [this]
      · show Po.outs _ s.f = _
        omega
  · rw [if_neg ht] at hok; cases hok
theorem take_fail {N most : Nat} {s : St} {g : Int} (hok : (take N most s g).2.2 = false) : (take N most s g).1 = s := by
  unfold Po.take at hok ⊢
  split
  · rename_i ht
    rw [if_pos ht] at hok
    split
    · rename_i h0
      rw [if_pos h0] at hok
      split
      · rename_i h1
        rw [if_pos h1] at hok; cases hok
      · rfl
    · rename_i h0
      rw [if_neg h0] at hok; cases hok
  · rfl
theorem give_ok {N most : Nat} {s : St} (v : Inv N most s) {g x : Int} (hok : (give most s g x).2 = true) {o : List Bool} (h : OutI N s o) :
    0 ≤ x ∧ x < N ∧ o.getD x.toNat false = true ∧ OutI N (give most s g x).1 (o.set x.toNat false) ∧ outs (give most s g x).1.H (give most s g x).1.f + 1 = outs s.H s.f := by
  have v2 := v.give g x
  have o1 := v.outs
  have o2 := v2.outs
  obtain ⟨hl, hh⟩ := h
  unfold Po.give at hok v2 o2 ⊢
  by_cases ht : (taker s.C g && live s.f s.H x) = true
  · rw [if_pos ht] at hok v2 o2 ⊢
    simp only at v2 o2 ⊢
    have ht2 := ht
    simp only [taker, Bool.and_eq_true, decide_eq_true_eq] at ht2
    have hlv := ht2.2
    rw [v.live] at hlv
    simp only [Bool.and_eq_true, decide_eq_true_eq] at hlv
    obtain ⟨⟨hx0, hx1⟩, hx2⟩ := hlv
    have hfl := v.fl
    have hg : s.C[g.toNat]? = some (s.C.getD g.toNat []) := by
      rw [List.getD_eq_getElem?_getD, List.getElem?_eq_getElem (by omega)]; simp
    have hcn := cnt_gave (most := most) hg x
    have e1 := flat_set s.C g.toNat _ ((s.C.getD g.toNat []).take ((s.C.getD g.toNat []).length - puts most (s.C.getD g.toNat [])) ++ [x]) hg
    have o3 : Po.outs (gave most s g.toNat (s.C.getD g.toNat []) x).H s.f + ((s.M ++ (s.C.getD g.toNat []).reverse.take (puts most (s.C.getD g.toNat []))).length + (s.C.set g.toNat ((s.C.getD g.toNat []).take ((s.C.getD g.toNat []).length - puts most (s.C.getD g.toNat [])) ++ [x])).flatten.length) = s.f := o2
    have hpl : puts most (s.C.getD g.toNat []) ≤ (s.C.getD g.toNat []).length := by unfold puts; split <;> omega
    simp only [List.length_append, List.length_take, List.length_reverse, List.length_singleton] at e1 o3
    refine ⟨hx0, by omega, ?_, ⟨by simpa using hl, fun a ha => ?_⟩, ?_⟩
    · rw [hh _ (by omega), Int.toNat_of_nonneg hx0, hx2]
      simp; omega
    · rw [getD_set _ _ _ _ _ (by omega), hcn]
      show _ = (decide (a < s.f) && _)
      unfold ind
      by_cases e : x.toNat = a
      · rw [if_pos e, if_pos (by omega)]; simp
      · rw [if_neg e, if_neg (by omega), hh a ha]; rfl
    · show Po.outs _ s.f + 1 = _
      omega
  · rw [if_neg ht] at hok; cases hok
theorem give_fail {most : Nat} {s : St} {g x : Int} (hok : (give most s g x).2 = false) : (give most s g x).1 = s := by
  unfold Po.give at hok ⊢
  split
  · rename_i ht
    rw [if_pos ht] at hok; cases hok
  · rfl
def lens (C : List (List Int)) (i : Nat) : Nat := (C.take i).flatten.length
theorem lens_succ (C : List (List Int)) (i : Nat) (h : i < C.length) : lens C (i + 1) = lens C i + (C.getD i []).length := by
  unfold lens
  rw [List.take_succ_eq_append_getElem h, List.flatten_append, List.length_append, List.getD_eq_getElem?_getD, List.getElem?_eq_getElem h]
  simp
theorem lens_all (C : List (List Int)) : lens C C.length = C.flatten.length := by unfold lens; rw [List.take_length]
theorem lens_le (C : List (List Int)) (i : Nat) : lens C i ≤ C.flatten.length := by
  unfold lens
  conv => rhs; rw [← List.take_append_drop i C]
  rw [List.flatten_append, List.length_append]; omega
theorem new_out (N T : Nat) : OutI N (new N T) (List.replicate N false) := by
  refine ⟨by simp, fun a ha => ?_⟩
  simp [new, List.getD, ha]
theorem new_outs (N T : Nat) : outs (new N T).H (new N T).f = 0 := rfl
end Po

theorem elemBool : Elem Try.prog 51 4 1 1 (.bool false) := ⟨Try.underlying51, by kernel_rfl, rfl, by decide, by decide⟩

/-- what holds between two acts -/
def POR (w : World) (b bw g N T mo : Nat) (v8 : Value) (A : List Nat) (v9 : Value) (wr : World) (s : Po.St) (S : List Nat) (o : List Bool) : Prop :=
  PS wr (.pointer (some ⟨b, 0, none⟩)) N mo s S ∧ Po.Inv N mo s ∧ s.C.length = T ∧ Fresh w wr S ∧ BR wr v8 o A ∧ (∀ k ∈ A, w.heap.size ≤ k) ∧ (∀ x ∈ S, x ∉ A) ∧ Po.OutI N s o ∧ v9 = .int .i64 ((Po.outs s.H s.f : Nat) : Int) ∧
    Blk wr bw [.int .i64 N, .int .i64 mo, .slice (some ⟨g, 0, none⟩) T T, .slice none 0 0, .int .i64 0] 38 ∧ bw ∉ S ∧ bw ∉ A ∧ w.heap.size ≤ bw
def PORe (w : World) (b bw g N T mo : Nat) (v8 : Value) (A : List Nat) (v9 : Value) (wr : World) : Prop := ∃ s S o, POR w b bw g N T mo v8 A v9 wr s S o
theorem POR.then {w wr w2 : World} {b bw g N T mo : Nat} {v8 v9 : Value} {A S : List Nat} {s : Po.St} {o : List Bool} (h : POR w b bw g N T mo v8 A v9 wr s S o) (k : Keeps [] wr w2) : POR w b bw g N T mo v8 A v9 w2 s S o := by
  obtain ⟨h1, h2, h3, h4, h5, h6, h7, h8, h9, h10, h11, h12, h13⟩ := h
  exact ⟨h1.then k, h2, h3, h4.then k, Row.then h5 k, h6, h7, h8, h9, h10.keep k (by simp), h11, h12, h13⟩

theorem POR.moved {w w4 w5 : World} {b bw g N T mo : Nat} {v9 v9' : Value} {s s' : Po.St} {S S6 : List Nat} {o : List Bool} (h : POR w b bw g N T mo (.slice (some ⟨bw + 1, 0, none⟩) N N) [bw + 1] v9 w4 s S o)
    (h6 : PS w5 (.pointer (some ⟨b, 0, none⟩)) N mo s' S6) (k6 : Keeps S w4 w5) (s6 : ∀ x ∈ S6, x ∈ S ∨ w4.heap.size ≤ x) (iv : Po.Inv N mo s') (hC : s'.C.length = s.C.length) (h9 : v9' = .int .i64 ((Po.outs s'.H s'.f : Nat) : Int)) (ho : Po.OutI N s' o) :
    POR w b bw g N T mo (.slice (some ⟨bw + 1, 0, none⟩) N N) [bw + 1] v9' w5 s' S6 o := by
  obtain ⟨h1, h2, h3, h4, h5, h6', h7, h8, h9', h10, h11, h12, h13⟩ := h
  refine ⟨h6, iv, by rw [hC]; exact h3, h4.step k6 s6, h5.keep k6 (fun x hx hs => h7 x hs hx), h6', disj_step h7 s6 h5.lt, ho, h9, h10.keep k6 h11, fun hb => ?_, h12, h13⟩
  rcases s6 bw hb with h | h
  · exact h11 h
  · have := h10.lt; omega
theorem POR.at {w5 : World} {bw N : Nat} {o : List Bool} {A : List Nat} (h : BR w5 (.slice (some ⟨bw + 1, 0, none⟩) N N) o A) (hl : o.length = N) {y : Nat} (hy : y < N) :
    w5.cell? ⟨bw + 1, y, none⟩ = some (.bool (o.getD y false)) ∧ w5.frozen? ⟨bw + 1, y, none⟩ = false := by
  obtain ⟨g', off', e, _, _, hc, hf⟩ := h.cells (List.getElem?_eq_getElem (show y < o.length by omega))
  obtain ⟨rfl, rfl⟩ := by simpa using e
  rw [Nat.zero_add] at hc hf
  exact ⟨by rw [hc, List.getD_eq_getElem?_getD, List.getElem?_eq_getElem (by omega)]; rfl, hf⟩
theorem POR.store {w w4 w5 : World} {b bw g N T mo : Nat} {v9 v9' : Value} {s s' : Po.St} {S S6 : List Nat} {o : List Bool} (h : POR w b bw g N T mo (.slice (some ⟨bw + 1, 0, none⟩) N N) [bw + 1] v9 w4 s S o)
    (h6 : PS w5 (.pointer (some ⟨b, 0, none⟩)) N mo s' S6) (k6 : Keeps S w4 w5) (s6 : ∀ x ∈ S6, x ∈ S ∨ w4.heap.size ≤ x) (iv : Po.Inv N mo s') (hC : s'.C.length = s.C.length) (h9 : v9' = .int .i64 ((Po.outs s'.H s'.f : Nat) : Int))
    {y : Nat} (hy : y < N) {t : Bool} (ho : Po.OutI N s' (o.set y t)) : POR w b bw g N T mo (.slice (some ⟨bw + 1, 0, none⟩) N N) [bw + 1] v9' (w5.setCell ⟨bw + 1, y, none⟩ (.bool t)) s' S6 (o.set y t) := by
  obtain ⟨h1, h2, h3, h4, h5, h6', h7, h8, h9', h10, h11, h12, h13⟩ := h
  have h5b := h5.keep k6 (fun x hx hs => h7 x hs hx)
  obtain ⟨h5', k5⟩ := h5b.stored y (by rw [h8.1]; exact hy) t
  rw [Nat.zero_add] at h5' k5
  have h7' := disj_step h7 s6 h5.lt
  refine ⟨h6.keep k5 h7', iv, by rw [hC]; exact h3, ⟨(h4.step k6 s6).1.trans k5 (fun x hx => .inr (h6' x hx)), (h4.step k6 s6).2⟩, h5', h6', h7', ho, h9, (h10.keep k6 h11).keep k5 h12, fun hb => ?_, h12, h13⟩
  rcases s6 bw hb with h | h
  · exact h11 h
  · have := h10.lt; omega

set_option maxRecDepth 100000 in
set_option maxHeartbeats 3200000 in
theorem poolOnce_walk (w : World) (a0 a1 a2 : Int) (w0 : (Lit.int .u8 a0).wf = true) (w1 : (Lit.int .u8 a1).wf = true) (w2 : (Lit.int .u8 a2).wf = true)
    (v : Value) (n : Nat) (xs : List Value) (S : List Nat) (hv : View w v 3 n xs S) (hx : ∀ k, k < n → ∀ (f : Nat) (q : Option IntKind), ([some .i64, some .i64, some .i64] : List (Option IntKind))[f]? = some q → ckOk q (xs.getD (k * 3 + f) undef)) :
    Calls Try.prog 5 #[.agg #[.int .u8 a0, .int .u8 a1, .int .u8 a2], v] w fun e w' => e = .returned (.bool true) ∧ Keeps [] w w' := by
  have b0 := wf8 w0
  have b1 := wf8 w1
  have b2 := wf8 w2
  clear w0 w1 w2
  obtain ⟨N, hN⟩ : ∃ N : Nat, a0 % 30 = (N : Int) := ⟨(a0 % 30).toNat, by omega⟩
  obtain ⟨T, hT⟩ : ∃ N : Nat, a1 % 9 = (N : Int) := ⟨(a1 % 9).toNat, by omega⟩
  obtain ⟨mo, hmo⟩ : ∃ N : Nat, 1 + a2 % 16 = (N : Int) := ⟨(1 + a2 % 16).toNat, by omega⟩
  have hN64 : N ≤ 30 := by omega
  have hT8 : T ≤ 8 := by omega
  have hm1 : 1 ≤ mo := by omega
  have hm2 : mo ≤ 16 := by omega
  have HOpen := Lib.hid (fun w' => pool_open w' a0 a1 a2 N T mo b0 b1 b2 hN hT hmo)
  have hm := hv.le
  unfold maxLen at hm
  obtain ⟨ao, cap, rfl⟩ := hv.shape
  have HX := Lib.hid hx
  have HV := Lib.hid hv
  clear hx hv b0 b1 b2 hN hT hmo
  cases hq1 : decide (200 < (n : Int)) with
  | true =>
    go_enter Try.func5, Try.ntmps5
    go_wp2_with fail
    refine (pool_alive _).mono ?_
    rintro e w1 ⟨rfl, k1⟩
    have hbx := (blk_new w [.int .u8 a0, .int .u8 a1, .int .u8 a2] 34 _ rfl).keep k1 (by simp)
    have c0 : w1.cell? ⟨w.heap.size, 0, none⟩ = some (.int .u8 a0) := hbx.cell 0
    have c1 : w1.cell? ⟨w.heap.size, 1, none⟩ = some (.int .u8 a1) := hbx.cell 1
    have c2 : w1.cell? ⟨w.heap.size, 2, none⟩ = some (.int .u8 a2) := hbx.cell 2
    have K1 := Lib.hid (((Keeps.refl [] w).alloc _).then k1)
    clear k1 hbx
    go_wp2_with fail
    refine (HOpen.out _).mono ?_
    rintro e w2 ⟨p, S2, g, rfl, f2, h2, r2, n2, t2⟩
    obtain ⟨b, rfl⟩ := h2.shape
    have F2 := Lib.hid f2
    clear f2 h2 r2 n2 t2
    go_wp2_with fail
    go_ret
    exact ⟨rfl, (K1.out.then F2.out.1).alloc _⟩
  | false =>
    have hn2 : n ≤ 200 := by simp at hq1; omega
    go_enter Try.func5, Try.ntmps5
    go_wp2_with fail
    refine (pool_alive _).mono ?_
    rintro e w1 ⟨rfl, k1⟩
    have hbx := (blk_new w [.int .u8 a0, .int .u8 a1, .int .u8 a2] 34 _ rfl).keep k1 (by simp)
    have c0 : w1.cell? ⟨w.heap.size, 0, none⟩ = some (.int .u8 a0) := hbx.cell 0
    have c1 : w1.cell? ⟨w.heap.size, 1, none⟩ = some (.int .u8 a1) := hbx.cell 1
    have c2 : w1.cell? ⟨w.heap.size, 2, none⟩ = some (.int .u8 a2) := hbx.cell 2
    have K1 := Lib.hid (((Keeps.refl [] w).alloc _).then k1)
    clear k1 hbx
    go_wp2_with fail
    refine (HOpen.out _).mono ?_
    rintro e w2 ⟨p, S2, g, rfl, f2, h2, r2, n2, t2⟩
    obtain ⟨b, rfl⟩ := h2.shape
    have F2 := Lib.hid f2
    have H2 := Lib.hid h2
    clear f2 h2 r2 n2 t2
    go_wp2_with (at_make; go_must (refine wp_make elemBool N (by omega) ?_ (hL := rfl) (hC := rfl)); intro w3 r3 k3)
    have HB : Hid (PORe w b w2.heap.size g N T mo (.slice (some ⟨w2.heap.size + 1, 0, none⟩) N N) [w2.heap.size + 1] (.int .i64 0) w3) := Lib.hid (by
      simp only [Nat.mul_one, Value.cells, toList_madeCells_one] at r3
      have kk : Keeps [] w2 w3 := ((Keeps.refl [] w2).alloc _).then k3
      have hlt := H2.out.lt
      have hsz := (K1.out.then F2.out.1).size
      have hsz1 := K1.out.size
      refine ⟨Po.new N T, S2, List.replicate N false, H2.out.then kk, Po.new_inv N T mo (by omega) hm1 hm2, by simp [Po.new], ⟨(K1.out.then F2.out.1).then kk, fun k hk => by have := F2.out.2 k hk; omega⟩, ?_, by simp; omega, ?_, Po.new_out N T, rfl, ?_, ?_, by simp, hsz⟩
      · unfold BR; simpa using r3
      · intro x hx h; have := hlt x hx; simp at h; omega
      · exact (blk_new w2 _ _ _ rfl).keep k3 (by simp)
      · intro h; have := hlt _ h; omega)
    have HKF : Hid (Keeps [] w w3) := Lib.hid ((K1.out.then F2.out.1).then (((Keeps.refl [] w2).alloc _).then k3))
    clear r3 k3 H2 F2 K1 c0 c1 c2
    generalize w2.heap.size = bw at *
    go_wp2_with fail
    go_loopw [9, 40] (fun v9 i wr => ∃ k : Nat, k ≤ n ∧ i = .int .i64 k ∧ PORe w b bw g N T mo (.slice (some ⟨bw + 1, 0, none⟩) N N) [bw + 1] v9 wr) (fun _ i _ => n - (intOf i).toNat)
    case atStart => exact ⟨0, Nat.zero_le _, rfl, HB.out⟩
    case round =>
      obtain ⟨k, hk, rfl, s, S5, o, hpor⟩ := hrel
      have HP := Lib.hid hpor
      obtain ⟨h1, h2, h3, h4, h5, h6, h7, h8, rfl, h10, h11, h12, h13⟩ := hpor
      obtain ⟨wo, rfl⟩ : ∃ wo : World, wo = wr := ⟨_, rfl⟩
      by_cases hlt : k < n
      · obtain ⟨gv, off, rfl, rfl, hgv, hc⟩ := HV.out.cell (by omega)
        have hlen := HV.out.len
        have c0 := View.at0 hlen hc hgv h4.1 (by simp) hlt (by decide)
        have c1 := View.at hlen hc hgv h4.1 (by simp) hlt (f := 1) (by decide)
        have c2 := View.at hlen hc hgv h4.1 (by simp) hlt (f := 2) (by decide)
        rw [show xs.getD (k * 3) undef = .int .i64 (num (xs.getD (k * 3) undef)) from (ck_int (HX.out k hlt 0 _ rfl)).1] at c0
        rw [(ck_int (HX.out k hlt 1 _ rfl)).1] at c1
        rw [(ck_int (HX.out k hlt 2 _ rfl)).1] at c2
        generalize num (xs.getD (k * 3) undef) = x0 at *
        generalize num (xs.getD (k * 3 + 1) undef) = x1 at *
        generalize num (xs.getD (k * 3 + 2) undef) = x2 at *
        have hlive : Po.outs s.H s.f ≤ 64 := by have := Po.outs_le s.H s.f; have := h2.fl; have := h2.s1; omega
        obtain ⟨L, hL⟩ : ∃ L, Po.outs s.H s.f = L := ⟨_, rfl⟩
        rw [hL] at hlive ⊢
        have HL := Lib.hid hL
        clear hc hlen h1 h2 h3 h4 h5 h6 h7 h8 h10 h11 h12 h13 HB hL
        go_upto_if 46 with fail
        go_cut [9] (fun v9 w' => PORe w b bw g N T mo (.slice (some ⟨bw + 1, 0, none⟩) N N) [bw + 1] v9 w')
        case first =>
          have hp4 := HP.out.then ((Keeps.refl [] wo).alloc (.cells #[.int .i64 x0, .int .i64 x1, .int .i64 x2] 42))
          have hb4 : bw ≠ wo.heap.size := by have := HP.out.2.2.2.2.2.2.2.2.2.1.lt; omega
          have HB4 := Lib.hid (blk_new wo [.int .i64 x0, .int .i64 x1, .int .i64 x2] 42 _ rfl)
          have hS4 : wo.heap.size ∉ S5 := fun h => by have := HP.out.1.lt _ h; omega
          have HP4 := Lib.hid hp4
          clear hp4 HP
          cases h0 : (x0 == 0) with
          | true =>
            go_wp2_with fail
            refine (pool_take _ _ N mo _ _ x1 HP4.out.1 HP4.out.2.1).mono ?_
            rintro e w5 ⟨rfl, S6, h6, k6, s6⟩
            have hbk := HB4.out.keep k6 hS4
            have hbr := HP4.out.2.2.2.2.1.keep k6 (fun x hx hs => HP4.out.2.2.2.2.2.2.1 x hs hx)
            have hol := HP4.out.2.2.2.2.2.2.2.1.1
            have hbb := HP4.out.2.2.2.2.2.2.2.2.2.1.keep k6 HP4.out.2.2.2.2.2.2.2.2.2.2.1
            have e60 : w5.cell? ⟨bw, 0, none⟩ = some (.int .i64 N) := hbb.cell 0
            cases hok : (Po.take N mo s x1).2.2 with
            | true =>
              obtain ⟨t1, t2, t3, t4, t5⟩ := Po.take_ok HP4.out.2.1 hok HP4.out.2.2.2.2.2.2.2.1
              obtain ⟨y, hy⟩ := Int.eq_ofNat_of_zero_le t1
              rw [hy] at t2 t3 t4 ⊢
              rw [Int.toNat_natCast] at t3 t4
              have hyN : y < N := by omega
              have hyI : (y : Int) < (N : Int) := t2
              have hyD : decide (N ≤ y) = false := by simp; omega
              obtain ⟨e7, f7⟩ := POR.at hbr hol hyN
              rw [t3] at e7
              have HPF : Hid (PORe w b bw g N T mo (.slice (some ⟨bw + 1, 0, none⟩) N N) [bw + 1] (.int .i64 ((L : Int) + 1)) (w5.setCell ⟨bw + 1, y, none⟩ (.bool true))) := Lib.hid
                ⟨_, S6, _, HP4.out.store h6 k6 s6 (HP4.out.2.1.take x1) (Po.take_C _ _ _ _) (by rw [t5, HL.out]; rfl) hyN t4⟩
              clear h6 k6 s6 c0 c1 c2 hbk hbr hol hbb t1 t2 t3 t4 t5 hy
              go_wp2_with fail
              go_meet
              exact HPF.out
            | false =>
              have HPF : Hid (PORe w b bw g N T mo (.slice (some ⟨bw + 1, 0, none⟩) N N) [bw + 1] (.int .i64 (L : Int)) w5) := Lib.hid (by
                have e1 := Po.take_fail hok
                rw [e1] at h6
                exact ⟨s, S6, o, HP4.out.moved h6 k6 s6 HP4.out.2.1 rfl (by rw [HL.out]) HP4.out.2.2.2.2.2.2.2.1⟩)
              clear h6 k6 s6 c0 c1 c2 hbk hbr hol hbb
              generalize (Po.take N mo s x1).2.1 = y at *
              go_wp2_with fail
              go_meet
              exact HPF.out
          | false =>
            go_wp2_with fail
            refine (pool_give _ _ N mo _ _ x1 x2 HP4.out.1 HP4.out.2.1).mono ?_
            rintro e w5 ⟨rfl, S6, h6, k6, s6⟩
            have hbk := HB4.out.keep k6 hS4
            have d2 : w5.cell? ⟨wo.heap.size, 2, none⟩ = some (.int .i64 x2) := hbk.cell 2
            have hbr := HP4.out.2.2.2.2.1.keep k6 (fun x hx hs => HP4.out.2.2.2.2.2.2.1 x hs hx)
            have hol := HP4.out.2.2.2.2.2.2.2.1.1
            have hbb := HP4.out.2.2.2.2.2.2.2.2.2.1.keep k6 HP4.out.2.2.2.2.2.2.2.2.2.2.1
            have e60 : w5.cell? ⟨bw, 0, none⟩ = some (.int .i64 N) := hbb.cell 0
            cases hok : (Po.give mo s x1 x2).2 with
            | true =>
              obtain ⟨t1, t2, t3, t4, t5⟩ := Po.give_ok HP4.out.2.1 hok HP4.out.2.2.2.2.2.2.2.1
              obtain ⟨y, rfl⟩ := Int.eq_ofNat_of_zero_le t1
              rw [Int.toNat_natCast] at t3 t4
              have hyN : y < N := by omega
              have hyI : (y : Int) < (N : Int) := t2
              have hyD : decide (N ≤ y) = false := by simp; omega
              obtain ⟨e7, f7⟩ := POR.at hbr hol hyN
              rw [t3] at e7
              have hL1 : 1 ≤ L := by have := HL.out; omega
              have HPF : Hid (PORe w b bw g N T mo (.slice (some ⟨bw + 1, 0, none⟩) N N) [bw + 1] (.int .i64 ((L : Int) - 1)) (w5.setCell ⟨bw + 1, y, none⟩ (.bool false))) := Lib.hid
                ⟨_, S6, _, HP4.out.store h6 k6 s6 (HP4.out.2.1.give x1 y) (Po.give_C _ _ _ _) (by have := HL.out; congr 1; omega) hyN t4⟩
              clear h6 k6 s6 c0 c1 c2 hbk hbr hol hbb t1 t2 t3 t4 t5
              go_wp2_with fail
              go_meet
              exact HPF.out
            | false =>
              have HPF : Hid (PORe w b bw g N T mo (.slice (some ⟨bw + 1, 0, none⟩) N N) [bw + 1] (.int .i64 (L : Int)) w5) := Lib.hid (by
                have e1 := Po.give_fail hok
                rw [e1] at h6
                exact ⟨s, S6, o, HP4.out.moved h6 k6 s6 HP4.out.2.1 rfl (by rw [HL.out]) HP4.out.2.2.2.2.2.2.2.1⟩)
              clear h6 k6 s6 c0 c1 c2 hbk hbr hol hbb
              go_wp2_with fail
              go_meet
              exact HPF.out
        case rest =>
          obtain ⟨s2, S7, o2, hp⟩ := hcut
          have HP7 := Lib.hid hp
          obtain ⟨h1, h2, h3, h4, h5, h6, h7, h8, rfl, h10, h11, h12, h13⟩ := hp
          obtain ⟨K, hK⟩ : ∃ K, s2.M.length = K := ⟨_, rfl⟩
          obtain ⟨L2, hL2⟩ : ∃ L, Po.outs s2.H s2.f = L := ⟨_, rfl⟩
          have hM64 := h2.lens.1
          have hF64 := h2.lens.2
          have houts := h2.outs
          rw [hL2] at houts ⊢
          rw [hK] at hM64
          have hfl := h2.fl
          have hhl := h2.hl
          have HOuts := Lib.hid houts
          have HL2 := Lib.hid hL2
          have HK := Lib.hid hK
          have hcl : ∀ l ∈ s2.C, l.length ≤ mo := h2.caches
          have HCL := Lib.hid hcl
          have HC := Lib.hid h3
          have hL264 : L2 ≤ 64 := by omega
          have c62 : wc.cell? ⟨bw, 2, none⟩ = some (.slice (some ⟨g, 0, none⟩) T T) := h10.cell 2
          have HBk := Lib.hid h10
          clear h1 h2 h3 h4 h5 h6 h7 h8 h10 h11 h12 h13 c0 c1 c2 HP HL hL2 hK houts hcl
          go_wp2_with fail
          refine (pool_middle _ _ _ _ _ _ _ _ _ HP7.out.1 (by rw [HK.out]; omega)).mono ?_
          rintro e w8 ⟨v8, S8, rfl, k8, i8, _⟩
          obtain ⟨ao8, cap8, rfl⟩ := i8.shape
          have K8 := Lib.hid k8
          have d62 : w8.cell? ⟨bw, 2, none⟩ = some (.slice (some ⟨g, 0, none⟩) T T) := K8.out.cell c62 (by simp)
          rw [HK.out]
          clear k8 i8 c62
          go_wp2_with fail
          go_loopw [14, 113] (fun v14 v113 wr => ∃ i : Nat, i ≤ T ∧ v113 = .int .i64 i ∧ v14 = .int .i64 ((K + Po.lens s2.C i : Nat) : Int) ∧ Keeps [] wc wr) (fun _ v113 _ => T - (intOf v113).toNat)
          case atStart => exact ⟨0, Nat.zero_le _, rfl, by simp [Po.lens], K8.out⟩
          case round =>
            obtain ⟨i, hi, rfl, rfl, hke⟩ := hrel
            have HKe := Lib.hid hke
            have hlens := Po.lens_le s2.C i
            obtain ⟨q, hq⟩ : ∃ q, K + Po.lens s2.C i = q := ⟨_, rfl⟩
            have hq128 : q ≤ 128 := by omega
            have HQ := Lib.hid hq
            rw [hq]
            clear hq hlens hke
            by_cases hlti : i < T
            · have hiC : i < s2.C.length := by have := HC.out; omega
              have HLS := Lib.hid (Po.lens_succ s2.C i hiC)
              have hcache : Po.cache s2.C i = s2.C.getD i [] := by simp [Po.cache, Po.taker, hiC]
              have hmem : s2.C.getD i [] ∈ s2.C := by rw [List.getD_eq_getElem?_getD, List.getElem?_eq_getElem hiC]; simp
              obtain ⟨m, hm9⟩ : ∃ m, (s2.C.getD i []).length = m := ⟨_, rfl⟩
              have hmmo : m ≤ mo := by have := HCL.out _ hmem; omega
              have hmD : decide (mo < m) = false := by simp; omega
              have HCa : Hid ((Po.cache s2.C i).length = m) := Lib.hid (by rw [hcache]; exact hm9)
              have HM9 := Lib.hid hm9
              have hm16 : m ≤ 16 := by omega
              clear hcache hmem hm9
              go_wp2_with fail
              refine (pool_cache _ _ _ _ _ _ _ _ _ _ (HP7.out.then HKe.out).1 (fun l hl => by have := HCL.out l hl; omega)).mono ?_
              rintro e w9 ⟨v9, S9, rfl, k9, i9, _⟩
              obtain ⟨ao9, cap9, rfl⟩ := i9.shape
              have HK9 := Lib.hid (HKe.out.then k9)
              rw [HCa.out]
              have d61 : w9.cell? ⟨bw, 1, none⟩ = some (.int .i64 mo) := HK9.out.cell (HBk.out.cell 1) (by simp)
              clear k9 i9
              go_wp2_with fail
              refine (pool_cache _ _ _ _ _ _ _ _ _ _ (HP7.out.then HK9.out).1 (fun l hl => by have := HCL.out l hl; omega)).mono ?_
              rintro e w10 ⟨v10, S10, rfl, k10, i10, _⟩
              obtain ⟨ao10, cap10, rfl⟩ := i10.shape
              have HK10 := Lib.hid (HK9.out.then k10)
              rw [HCa.out]
              clear k10 i10
              go_wp2_with fail
              go_roundw
              case rel => exact ⟨i + 1, by omega, by go_num, by have := HLS.out; have := HQ.out; have := HM9.out; congr 1; omega, HK10.out⟩
              case measure => simp [intOf]; omega
            · obtain rfl : i = T := by omega
              have HQ2 : Hid (q + L2 = s2.f) := Lib.hid (by
                have h1 := HQ.out
                rw [← HC.out, Po.lens_all] at h1
                have := HOuts.out
                have := HK.out
                omega)
              have hP9 := HP7.out.then HKe.out
              have HP9 := Lib.hid hP9
              have hqf : (((q : Int) + (L2 : Int)) != (s2.f : Int)) = false := by have := HQ2.out; simp; omega
              have hqN : decide (N < s2.f) = false := by simp; omega
              have hfH : s2.f ≤ s2.H.length := by omega
              have hf1 : s2.f ≤ 1000 := by omega
              have hwrap : IntKind.i64.wrap ((q : Int) + (L2 : Int)) = (q : Int) + (L2 : Int) := by rw [IntKind.wrap_i64]; omega
              have d60 : wr.cell? ⟨bw, 0, none⟩ = some (.int .i64 N) := HKe.out.cell (HBk.out.cell 0) (by simp)
              have HCnt : Hid (∀ n, Calls Try.prog 17 #[.pointer (some ⟨b, 0, none⟩)] (wr.drewN n) fun e w' => e = .returned (.int .i64 (L2 : Int)) ∧ wr.drewN n = w') := Lib.hid (fun n =>
                (pool_count _ _ _ _ _ _ _ _ _ (Pl.drewN HP9.out.1 n) hfH hf1).mono (fun e w' h => by rw [← HL2.out]; exact h))
              have HFr : Hid (∀ n, Calls Try.prog 27 #[.pointer (some ⟨b, 0, none⟩)] (wr.drewN n) fun e w' => e = .returned (.int .i64 (s2.f : Int)) ∧ wr.drewN n = w') := Lib.hid (fun n =>
                (pool_fresh _ _ _ _ _ _ _ _ _ (Pl.drewN HP9.out.1 n)))
              clear hP9
              go_wp2_with fail
              go_quiet ((first | (go_at_call 17; exact quiet_own (HCnt.out _)) | (go_at_call 27; exact quiet_own (HFr.out _))))
              clear hwrap
              go_wp2_with fail
              go_roundw
              case rel => exact ⟨k + 1, by omega, by go_num, s2, S7, o2, by have := HP9.out.then ((Keeps.refl [] wr).drewN nq); rw [← HL2.out]; exact this⟩
              case measure => simp [intOf]; omega
      · obtain rfl : k = n := by omega
        clear h1 h2 h3 h5 h6 h7 h8 h10 h11 h12 h13 HB
        have HK4 := Lib.hid h4.1
        clear h4
        go_wp2_with fail
        go_ret
        exact ⟨rfl, HK4.out⟩
end Go.Proofs.Ytonkbenmafapgaa
