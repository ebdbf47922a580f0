/-
  Contracts of handoffref06: Drop, Pop, Push.
  Conditions: Qu.Inv.
-/
import Derived.Test.YtonkbenmafapgaaRef06
namespace Go.Proofs.Ytonkbenmafapgaa
open Go.RowKit
set_option linter.unusedVariables false
set_option linter.unusedSimpArgs false
set_option linter.unnecessarySimpa false
attribute [local go_sem ↓] Go.wp_at_zero Go.wp_at_succ

def QRPost (r : List (List Int) × Bool) (nn : Int) (S : List Nat) (w : World) (e : Ending) (w' : World) : Prop :=
  ∃ vr S', e = .returned (.tuple #[.agg #[.int .i64 nn, vr], .bool r.2]) ∧ Keeps [] w w' ∧ QP w' vr r.1 S' ∧ ∀ x ∈ S', x ∈ S ∨ w.heap.size ≤ x
theorem QP.keep {w w' : World} {vr : Value} {R : List (List Int)} {S T : List Nat} (h : QP w vr R S) (k : Keeps T w w') (hn : ∀ x ∈ S, x ∉ T) : QP w' vr R S := GV.keep intsE_kept h k hn
theorem QP.then {w w' : World} {vr : Value} {R : List (List Int)} {S : List Nat} (h : QP w vr R S) (k : Keeps [] w w') : QP w' vr R S := h.keep k (by simp)
theorem qr_fin {w W Wf : World} {r : List (List Int) × Bool} {nn : Int} {S S' : List Nat} {vr : Value} {ok : Bool} {e : Ending} (hk : Keeps [] w W) (hr : QP W vr r.1 S') (hS : ∀ x ∈ S', x ∈ S ∨ w.heap.size + 2 ≤ x) (hlS : ∀ x ∈ S, x < w.heap.size)
    (kf : Keeps [w.heap.size, w.heap.size + 1] W Wf) (hok : ok = r.2) (he : e = .returned (.tuple #[.agg #[.int .i64 nn, vr], .bool ok])) : QRPost r nn S w e Wf := by
  subst hok
  refine ⟨vr, S', he, hk.trans kf (fun x hx => .inr (by simp at hx; omega)), hr.keep kf (fun y hy h => ?_), fun y hy => ?_⟩
  · simp at h
    rcases hS y hy with h1 | h1
    · have := hlS y h1; omega
    · omega
  · rcases hS y hy with h1 | h1
    · exact .inl h1
    · exact .inr (by omega)

set_option maxRecDepth 100000 in
set_option maxHeartbeats 1600000 in
theorem ref06_drop (w : World) (nn : Int) (n : Nat) (vr : Value) (R : List (List Int)) (S : List Nat) (x : Int) (h : QP w vr R S) (v : Qu.Inv n R) :
    Calls Try.prog 37 #[.agg #[.int .i64 nn, vr], .int .i64 x] w (QRPost (Qu.drop R x) nn S w) := by
  have H : Hid (QP w vr R S) := Lib.hid h
  have HV := Lib.hid v
  have hr64 := v.r64
  have hn64 := v.n64
  obtain ⟨ao, cap, rfl⟩ := GV.shape h
  have HLS := Lib.hid (GV.lt h)
  have hb1 := (blk_newq w [.int .i64 nn, .slice ao R.length cap] 60 _ rfl).alloc (.cells #[.int .i64 0, .slice none 0 0] 60)
  have hb2 := blk_newq (w.alloc (.cells #[.int .i64 nn, .slice ao R.length cap] 60)) [.int .i64 0, .slice none 0 0] 60 _ rfl
  simp only [World.size_alloc] at hb2
  have HB1 := Lib.hid hb1
  have HB2 := Lib.hid hb2
  clear hb1 hb2
  cases hl : Qu.loc R x with
  | none =>
    have HF : Hid (Qu.drop R x = (R, false)) := Lib.hid (by unfold Qu.drop; rw [hl])
    have HI : Hid (Qu.inn R x = (0, false)) := Lib.hid (by unfold Qu.inn; rw [hl])
    clear h v hl
    go_enter Try.func37, Try.ntmps37
    go_wp2_with fail
    refine (ref06_in _ nn n _ R S x (H.out.then (((Keeps.refl [] w).alloc _).alloc _)) HV.out).mono ?_
    rintro e w1 ⟨rfl, k1⟩
    rw [HI.out]
    have K1 := Lib.hid ((((Keeps.refl [] w).alloc _).alloc _).then k1)
    obtain ⟨⟨p0, p1⟩, _⟩ := (HB1.out.keep k1 (by simp)).cells2
    obtain ⟨⟨b0, b1⟩, e0, e1⟩ := (HB2.out.keep k1 (by simp)).cells2
    clear k1
    go_wp2_with fail
    refine bodyPost_ret (v := .tuple #[.agg #[.int .i64 nn, .slice ao R.length cap], .bool false]) (by simp [results, Try.results37, go_sem, b0, b1]) rfl ?_
    rw [HF.out]
    exact qr_fin (W := w1) (S' := S) K1.out (H.out.then K1.out) (fun x hx => .inl hx) HLS.out (((Keeps.refl _ w1).setCell (by simp) _).setCell (by simp) _) rfl rfl
  | some k =>
    obtain ⟨hk, hm⟩ := Qu.loc_some hl
    have HI : Hid (Qu.inn R x = ((k : Int), true)) := Lib.hid (by unfold Qu.inn; rw [hl])
    obtain ⟨l, hrow⟩ : ∃ l, R.getD k [] = l := ⟨_, rfl⟩
    have HE : Hid (Qu.drop R x = (R.set k (without l x), true)) := Lib.hid (by unfold Qu.drop; rw [hl]; simp only [hrow, without])
    have hone := fun a => Nat.le_trans (Qu.count_le hk (R := R) a) (v.one a)
    have hbd := fun z hz => v.bound z (Qu.mem_flat hk (y := z) hz)
    have hlen := Qu.len_bound hone hbd
    rw [hrow] at hlen
    obtain ⟨g, off, cs, U, rfl, hgS, hg, hcs, hcell, ⟨vk, rfl, hvk⟩, hUS⟩ := GV.get h (List.getElem?_eq_getElem hk)
    have c0 : w.cell? ⟨g, off + k, none⟩ = some vk := by have := hcell 0 (by omega); rwa [Nat.mul_one, Nat.add_zero] at this
    have hgd : R[k] = l := by rw [← hrow, List.getD_eq_getElem?_getD, List.getElem?_eq_getElem hk]; rfl
    rw [hgd] at hvk
    obtain ⟨aok, capk, rfl⟩ := hvk.shape
    have HVk := Lib.hid hvk
    have hkI : (k : Int) < (R.length : Int) := by omega
    have hR1k : R.length ≤ 1000 := by omega
    have hl1k : l.length ≤ 1000 := by omega
    clear h v hl hm hone hbd hrow hgd hvk hcs hcell hlen
    go_enter Try.func37, Try.ntmps37
    go_wp2_with fail
    refine (ref06_in _ nn n _ R S x (H.out.then (((Keeps.refl [] w).alloc _).alloc _)) HV.out).mono ?_
    rintro e w1 ⟨rfl, k1⟩
    rw [HI.out]
    have K1 := Lib.hid ((((Keeps.refl [] w).alloc _).alloc _).then k1)
    have B1 := Lib.hid (HB1.out.keep k1 (by simp))
    have B2 := Lib.hid (HB2.out.keep k1 (by simp))
    obtain ⟨⟨p0, p1⟩, _⟩ := B1.out.cells2
    have cT : w1.cell? ⟨g, off + k, none⟩ = some (.slice aok l.length capk) := K1.out.cell c0 (by simp)
    clear k1
    have hsz := B2.out.lt
    have hg1 : g ≠ w.heap.size + 1 := by omega
    have hg2 : w.heap.size + 1 ≠ g := by omega
    go_wp2_with fail
    go_region_held3 (fun w' => w'.cell? ⟨w.heap.size, 0, none⟩ = some (.int .i64 nn) ∧ w'.cell? ⟨w.heap.size, 1, none⟩ = some (.slice (some ⟨g, off, none⟩) R.length cap) ∧ w'.cell? ⟨g, off + k, none⟩ = some (.slice aok l.length capk))
      (first | (with_reducible exact ⟨p0, p1, cT⟩) | (with_reducible exact ⟨d0, d1, dT⟩) | (with_reducible exact ⟨f0, f1, fT⟩) | go_keep)
      (first
        | (go_at_call 44; (with_reducible refine (ref06_without _ _ l _ x (IV.then HVk.out (K1.out.drew)) hl1k).mono ?_); rintro e w3 ⟨v3, A3, rfl, k3, i3, s3⟩; obtain ⟨ao3, cap3, rfl⟩ := i3.shape; have K3 := Lib.hid ((K1.out.drew).then k3); have I3 := Lib.hid i3; have S3 := Lib.hid s3; have B31 := Lib.hid (B1.out.drew.keep k3 (by simp)); have B32 := Lib.hid (B2.out.drew.keep k3 (by simp)); obtain ⟨⟨d0, d1⟩, _⟩ := B31.out.cells2; have dT : w3.cell? ⟨g, off + k, none⟩ = some (.slice aok l.length capk) := K3.out.cell c0 (by simp); clear k3 i3 s3)
        | (go_at_call 69; (with_reducible refine (ref06_with _ nn _ _ R (without l x) S A3 k (QP.then H.out K3.out) hk I3.out hR1k).mono ?_); rintro e w5 ⟨vr5, S5, rfl, k5, r5, t5⟩; obtain ⟨ao5, cap5, rfl⟩ := GV.shape r5; have K5 := Lib.hid k5; have R5 : Hid (QP w5 (.slice ao5 (R.set k (without l x)).length cap5) (R.set k (without l x)) S5) := Lib.hid r5; have T5 := Lib.hid t5; obtain ⟨⟨f0, f1⟩, _⟩ := (B31.out.keep k5 (by simp)).cells2; obtain ⟨⟨b0, b1⟩, e0, e1⟩ := (B32.out.keep k5 (by simp)).cells2; have fT : w5.cell? ⟨g, off + k, none⟩ = some (.slice aok l.length capk) := (K3.out.then K5.out).cell c0 (by simp); clear k5 r5 t5)
        | fail)
    go_wp2_with fail
    refine bodyPost_ret (v := .tuple #[.agg #[.int .i64 nn, .slice ao5 R.length cap5], .bool true]) (by simp [results, Try.results37, go_sem, b0, b1]) rfl ?_
    rw [HE.out]
    exact qr_fin (W := w5) (S' := S5) (K3.out.then K5.out) R5.out (fun y hy => by
      rcases T5.out y hy with h | h | h
      · exact .inl h
      · have := S3.out y h; simp at this; right; omega
      · have := K3.out.size; have := B32.out.lt; right; omega) HLS.out (((Keeps.refl _ w5).setCell (by simp) _).setCell (by simp) _) rfl (by rw [List.length_set])

def QRPopPost (R' : List (List Int)) (f : Int × Bool) (nn : Int) (S : List Nat) (w : World) (e : Ending) (w' : World) : Prop :=
  ∃ vr S', e = .returned (.tuple #[.agg #[.int .i64 nn, vr], .int .i64 f.1, .bool f.2]) ∧ Keeps [] w w' ∧ QP w' vr R' S' ∧ ∀ x ∈ S', x ∈ S ∨ w.heap.size ≤ x

set_option maxRecDepth 100000 in
set_option maxHeartbeats 1600000 in
theorem ref06_pop (w : World) (nn : Int) (n : Nat) (vr : Value) (R : List (List Int)) (S : List Nat) (k : Int) (h : QP w vr R S) (v : Qu.Inv n R) :
    Calls Try.prog 35 #[.agg #[.int .i64 nn, vr], .int .i64 k] w (QRPopPost (Qu.pop R k) (Qu.first R k) nn S w) := by
  have H : Hid (QP w vr R S) := Lib.hid h
  have HV := Lib.hid v
  have hr64 := v.r64
  have hr1k : R.length ≤ 1000 := by omega
  obtain ⟨ao, cap, rfl⟩ := GV.shape h
  have HLS := Lib.hid (GV.lt h)
  have hb1 := (blk_newq w [.int .i64 nn, .slice ao R.length cap] 60 _ rfl).alloc (.cells #[.int .i64 0, .slice none 0 0] 60)
  have hb2 := blk_newq (w.alloc (.cells #[.int .i64 nn, .slice ao R.length cap] 60)) [.int .i64 0, .slice none 0 0] 60 _ rfl
  simp only [World.size_alloc] at hb2
  have HB1 := Lib.hid hb1
  have HB2 := Lib.hid hb2
  clear hb1 hb2 h v
  cases hf : (Qu.first R k).2 with
  | false =>
    have HP : Hid (Qu.pop R k = R) := Lib.hid (by unfold Qu.pop; rw [hf]; rfl)
    have H0 : Hid ((Qu.first R k).1 = 0) := Lib.hid (by unfold Qu.first at hf ⊢; split at hf <;> simp_all)
    go_enter Try.func35, Try.ntmps35
    go_wp2_with fail
    refine (ref06_first _ nn _ R S k (H.out.then (((Keeps.refl [] w).alloc _).alloc _)) hr1k).mono ?_
    rintro e w1 ⟨rfl, k1⟩
    rw [hf]
    obtain ⟨x, hx⟩ : ∃ x, (Qu.first R k).1 = x := ⟨_, rfl⟩
    rw [hx]
    have HX := Lib.hid hx
    have K1 := Lib.hid ((((Keeps.refl [] w).alloc _).alloc _).then k1)
    obtain ⟨⟨p0, p1⟩, _⟩ := (HB1.out.keep k1 (by simp)).cells2
    obtain ⟨⟨b0, b1⟩, e0, e1⟩ := (HB2.out.keep k1 (by simp)).cells2
    clear k1 hx
    go_wp2_with fail
    refine bodyPost_ret (v := .tuple #[.agg #[.int .i64 nn, .slice ao R.length cap], .int .i64 0, .bool false]) (by simp [results, Try.results35, go_sem, b0, b1]) rfl ?_
    have kf : Keeps [w.heap.size, w.heap.size + 1] w1 ((w1.setCell ⟨w.heap.size + 1, 0, none⟩ (.int .i64 nn)).setCell ⟨w.heap.size + 1, 1, none⟩ (.slice ao R.length cap)) := ((Keeps.refl _ w1).setCell (by simp) _).setCell (by simp) _
    refine ⟨.slice ao R.length cap, S, by rw [hf, H0.out], K1.out.trans kf (fun x hx => .inr (by simp at hx; omega)), ?_, fun x hx => .inl hx⟩
    rw [HP.out]
    exact (H.out.then K1.out).keep kf (fun y hy h => by have := HLS.out y hy; simp at h; omega)
  | true =>
    have HP : Hid (Qu.pop R k = (Qu.drop R (Qu.first R k).1).1) := Lib.hid (by unfold Qu.pop; rw [hf]; rfl)
    go_enter Try.func35, Try.ntmps35
    go_wp2_with fail
    refine (ref06_first _ nn _ R S k (H.out.then (((Keeps.refl [] w).alloc _).alloc _)) hr1k).mono ?_
    rintro e w1 ⟨rfl, k1⟩
    rw [hf]
    obtain ⟨x, hx⟩ : ∃ x, (Qu.first R k).1 = x := ⟨_, rfl⟩
    rw [hx] at HP ⊢
    have HX := Lib.hid hx
    have K1 := Lib.hid ((((Keeps.refl [] w).alloc _).alloc _).then k1)
    have B1 := Lib.hid (HB1.out.keep k1 (by simp))
    have B2 := Lib.hid (HB2.out.keep k1 (by simp))
    obtain ⟨⟨p0, p1⟩, _⟩ := B1.out.cells2
    clear k1 hx
    go_wp2_with fail
    refine (ref06_drop _ nn n _ R S x (H.out.then K1.out) HV.out).mono ?_
    rintro e w2 ⟨vr2, S2, rfl, k2, r2, s2⟩
    obtain ⟨ao2, cap2, rfl⟩ := GV.shape r2
    have K2 := Lib.hid (K1.out.then k2)
    have R2 : Hid (QP w2 (.slice ao2 (Qu.drop R x).1.length cap2) (Qu.drop R x).1 S2) := Lib.hid r2
    have hsz2 := B2.out.lt
    have S2' : Hid (∀ y ∈ S2, y ∈ S ∨ w.heap.size + 2 ≤ y) := Lib.hid (fun y hy => by
      rcases s2 y hy with h | h
      · exact .inl h
      · right; omega)
    obtain ⟨⟨b0, b1⟩, e0, e1⟩ := (B2.out.keep k2 (by simp)).cells2
    have hsz3 : w.heap.size + 1 < w2.heap.size := (B2.out.keep k2 (by simp)).lt
    have hne : w2.heap.size ≠ w.heap.size + 1 := by omega
    have hne2 : w.heap.size + 1 ≠ w2.heap.size := by omega
    clear k2 r2 s2 p0 p1
    go_wp2_with fail
    refine bodyPost_ret (v := .tuple #[.agg #[.int .i64 nn, .slice ao2 (Qu.drop R x).1.length cap2], .int .i64 x, .bool true]) (by simp [results, Try.results35, go_sem, b0, b1, hsz3]) rfl ?_
    have kf : Keeps [w.heap.size, w.heap.size + 1] w2 (((w2.setCell ⟨w.heap.size + 1, 0, none⟩ (.int .i64 nn)).setCell ⟨w.heap.size + 1, 1, none⟩ (.slice ao2 (Qu.drop R x).1.length cap2)).alloc (.cells #[.int .i64 nn, .slice ao2 (Qu.drop R x).1.length cap2] 60)) := (((Keeps.refl _ w2).setCell (by simp) _).setCell (by simp) _).alloc _
    refine ⟨.slice ao2 (Qu.drop R x).1.length cap2, S2, by rw [hf, HX.out], K2.out.trans kf (fun x hx => .inr (by simp at hx; omega)), ?_, fun y hy => by
      rcases S2'.out y hy with h | h
      · exact .inl h
      · right; omega⟩
    rw [HP.out]
    exact R2.out.keep kf (fun y hy h => by
      simp at h
      rcases S2'.out y hy with h1 | h1
      · have := HLS.out y h1; omega
      · omega)

set_option maxRecDepth 100000 in
set_option maxHeartbeats 3200000 in
theorem ref06_push (w : World) (n : Nat) (vr : Value) (R : List (List Int)) (S : List Nat) (k x : Int) (h : QP w vr R S) (v : Qu.Inv n R) :
    Calls Try.prog 33 #[.agg #[.int .i64 n, vr], .int .i64 k, .int .i64 x] w (QRPost (Qu.push n R k x) n S w) := by
  have H : Hid (QP w vr R S) := Lib.hid h
  have HV := Lib.hid v
  have hr64 := v.r64
  have hn64 := v.n64
  obtain ⟨ao, cap, rfl⟩ := GV.shape h
  have HLS := Lib.hid (GV.lt h)
  have hb1 := (blk_newq w [.int .i64 n, .slice ao R.length cap] 60 _ rfl).alloc (.cells #[.int .i64 0, .slice none 0 0] 60)
  have hb2 := blk_newq (w.alloc (.cells #[.int .i64 n, .slice ao R.length cap] 60)) [.int .i64 0, .slice none 0 0] 60 _ rfl
  simp only [World.size_alloc] at hb2
  have HB1 := Lib.hid hb1
  have HB2 := Lib.hid hb2
  clear hb1 hb2
  by_cases hok : Qu.line R k = true ∧ 0 ≤ x ∧ x < n ∧ Qu.loc R x = none
  · obtain ⟨hkl, hx0, hxn, hl⟩ := hok
    obtain ⟨j, rfl, hj⟩ := Qu.line_nat hkl
    have HI : Hid (Qu.inn R x = (0, false)) := Lib.hid (by unfold Qu.inn; rw [hl])
    obtain ⟨l, hrow⟩ : ∃ l, R.getD j [] = l := ⟨_, rfl⟩
    have HE : Hid (Qu.push n R j x = (R.set j (l ++ [x]), true)) := Lib.hid (by unfold Qu.push; rw [if_pos (by simp [hkl, hl, hx0, hxn]), Qu.row_nat hj, hrow]; rfl)
    have hone := fun a => Nat.le_trans (Qu.count_le hj (R := R) a) (v.one a)
    have hbd := fun z hz => v.bound z (Qu.mem_flat hj (y := z) hz)
    have hlen := Qu.len_bound hone hbd
    rw [hrow] at hlen
    obtain ⟨g, off, cs, U, rfl, hgS, hg, hcs, hcell, ⟨vk, rfl, hvk⟩, hUS⟩ := GV.get h (List.getElem?_eq_getElem hj)
    have c0 : w.cell? ⟨g, off + j, none⟩ = some vk := by have := hcell 0 (by omega); rwa [Nat.mul_one, Nat.add_zero] at this
    have hgd : R[j] = l := by rw [← hrow, List.getD_eq_getElem?_getD, List.getElem?_eq_getElem hj]; rfl
    rw [hgd] at hvk
    obtain ⟨aok, capk, rfl⟩ := hvk.shape
    have HVk := Lib.hid hvk
    have hkI : (j : Int) < (R.length : Int) := by omega
    have hkD : decide (R.length ≤ j) = false := by simp; omega
    have hk0 : decide ((j : Int) < 0) = false := by simp
    have hR1k : R.length ≤ 1000 := by omega
    have hl1k : l.length ≤ 1000 := by omega
    clear h v hl hone hbd hrow hgd hvk hcs hcell hlen hkl
    go_enter Try.func33, Try.ntmps33
    go_wp2_with fail
    refine (ref06_in _ n n _ R S x (H.out.then (((Keeps.refl [] w).alloc _).alloc _)) HV.out).mono ?_
    rintro e w1 ⟨rfl, k1⟩
    rw [HI.out]
    have K1 := Lib.hid ((((Keeps.refl [] w).alloc _).alloc _).then k1)
    have B1 := Lib.hid (HB1.out.keep k1 (by simp))
    have B2 := Lib.hid (HB2.out.keep k1 (by simp))
    obtain ⟨⟨p0, p1⟩, _⟩ := B1.out.cells2
    have cT : w1.cell? ⟨g, off + j, none⟩ = some (.slice aok l.length capk) := K1.out.cell c0 (by simp)
    have HVw := Lib.hid (HVk.out.then K1.out)
    clear k1
    have hsz := B2.out.lt
    have hg1 : g ≠ w.heap.size + 1 := by omega
    have hg2 : w.heap.size + 1 ≠ g := by omega
    have HS : Hid (∀ W, Keeps [] w1 W → (W.cell? ⟨w.heap.size, 0, none⟩ = some (.int .i64 n) ∧ W.cell? ⟨w.heap.size, 1, none⟩ = some (.slice (some ⟨g, off, none⟩) R.length cap) ∧ W.cell? ⟨g, off + j, none⟩ = some (.slice aok l.length capk))) := Lib.hid (fun W k => ⟨k.cell p0 (by simp), k.cell p1 (by simp), k.cell cT (by simp)⟩)
    have HRa := Lib.hid (IR.then (IR.lit w1 3 w1.heap.size rfl) ((Keeps.refl [] _).drew))
    have HTa := Lib.hid (IV.then HVw.out (((Keeps.refl [] w1).alloc (.cells #[] 3)).drew))
    have HRb := Lib.hid (IR.then (IR.alloc (IR.lit w1 3 w1.heap.size rfl) (.cells #[.int .i64 x] 3)) ((Keeps.refl [] _).drew))
    have HTb := Lib.hid (IV.then HVw.out ((((Keeps.refl [] w1).alloc (.cells #[] 3)).alloc (.cells #[.int .i64 x] 3)).drew))
    have HRc := Lib.hid (IR.then (IR.lit (w1.alloc (.cells #[.int .i64 x] 3)) 3 (w1.heap.size + 1) (by simp)) ((Keeps.refl [] _).drew))
    have HTc := Lib.hid (IV.then HVw.out ((((Keeps.refl [] w1).alloc (.cells #[.int .i64 x] 3)).alloc (.cells #[] 3)).drew))
    have HV2b := View.then (Row.view (Row.lit (w1.alloc (.cells #[] 3)) [.int .i64 x] 3 1 1 rfl one_le_max)) ((Keeps.refl [] _).drew)
    rw [World.size_alloc] at HV2b
    replace HV2b := Lib.hid HV2b
    have HV2c := Lib.hid (View.then (Row.view (Row.alloc (Row.lit w1 [.int .i64 x] 3 1 1 rfl one_le_max) (.cells #[] 3))) ((Keeps.refl [] _).drew))
    go_wp2_with fail
    go_region_held3 (fun w' => w'.cell? ⟨w.heap.size, 0, none⟩ = some (.int .i64 n) ∧ w'.cell? ⟨w.heap.size, 1, none⟩ = some (.slice (some ⟨g, off, none⟩) R.length cap) ∧ w'.cell? ⟨g, off + j, none⟩ = some (.slice aok l.length capk))
      (first | (with_reducible exact ⟨p0, p1, cT⟩) | (with_reducible exact HS.out _ (((Keeps.refl [] w1).alloc _).drew)) | (with_reducible exact HS.out _ ((((Keeps.refl [] w1).alloc _).alloc _).drew)) | (with_reducible exact HS.out _ K6.out) | (with_reducible exact HS.out _ (K6.out.alloc _)) | (with_reducible exact HS.out _ K7.out) | (with_reducible exact HS.out _ K5.out) | go_keep)
      (first
        | (refine step_apps elemInt HRa.out HTa.out (by rw [List.length_nil]; omega) ?_; intro ao6 cap6 w6 A6 r6 k6 s6; have K6 : Hid (Keeps [] w1 w6) := Lib.hid (Keeps.trans (((Keeps.refl [] w1).alloc _).drew) k6 (fun q hq => .inr (by simp at hq; omega))); have R6 := Lib.hid r6; have R6s : Hid (IR w6 (.slice ao6 l.length cap6) 3 l A6) := Lib.hid (by simpa using r6); have T6 : Hid (∀ q ∈ A6, w1.heap.size ≤ q) := Lib.hid (fun q hq => by rcases s6 q hq with h | h <;> (simp at h; omega)); clear r6 k6 s6)
        | (refine step_apps elemInt HRb.out HTb.out (by rw [List.length_nil]; omega) ?_; intro ao6 cap6 w6 A6 r6 k6 s6; have HV3 := Lib.hid (View.keep HV2b.out k6 (by simp)); have K6 : Hid (Keeps [] w1 w6) := Lib.hid (Keeps.trans ((((Keeps.refl [] w1).alloc _).alloc _).drew) k6 (fun q hq => .inr (by simp at hq; omega))); have R6 := Lib.hid r6; have R6s : Hid (IR w6 (.slice ao6 l.length cap6) 3 l A6) := Lib.hid (by simpa using r6); have T6 : Hid (∀ q ∈ A6, w1.heap.size ≤ q) := Lib.hid (fun q hq => by rcases s6 q hq with h | h <;> (simp at h; omega)); clear r6 k6 s6)
        | (refine step_apps elemInt HRc.out HTc.out (by rw [List.length_nil]; omega) ?_; intro ao6 cap6 w6 A6 r6 k6 s6; have HV3 := Lib.hid (View.keep HV2c.out k6 (by simp)); have K6 : Hid (Keeps [] w1 w6) := Lib.hid (Keeps.trans ((((Keeps.refl [] w1).alloc _).alloc _).drew) k6 (fun q hq => .inr (by simp at hq; omega))); have R6 := Lib.hid r6; have R6s : Hid (IR w6 (.slice ao6 l.length cap6) 3 l A6) := Lib.hid (by simpa using r6); have T6 : Hid (∀ q ∈ A6, w1.heap.size ≤ q) := Lib.hid (fun q hq => by rcases s6 q hq with h | h <;> (simp at h; omega)); clear r6 k6 s6)
        | (refine step_app elemInt R6s.out HV3.out oc_int (by omega) ?_; intro ao7 cap7 w7 A7 r7 k7 s7; have K7 : Hid (Keeps [] w1 w7) := Lib.hid (Keeps.trans K6.out k7 (fun q hq => .inr (T6.out q hq))); have I7 : Hid (IV w7 (.slice ao7 (l.length + 1) cap7) (l ++ [x]) A7) := Lib.hid (by unfold IV; simpa using r7.view); have I7r : Hid (IV w7 (.slice ao7 (([] ++ l : List Int).length + 1) cap7) (l ++ [x]) A7) := Lib.hid I7.out; have T7 : Hid (∀ q ∈ A7, w1.heap.size ≤ q) := Lib.hid (fun q hq => by rcases s7 q hq with h | h; exact T6.out q h; have := K6.out.size; omega); clear r7 k7 s7)
        | (refine step_app elemInt R6.out HV3.out oc_int (by simp only [List.nil_append]; omega) ?_; intro ao7 cap7 w7 A7 r7 k7 s7; have K7 : Hid (Keeps [] w1 w7) := Lib.hid (Keeps.trans K6.out k7 (fun q hq => .inr (T6.out q hq))); have I7 : Hid (IV w7 (.slice ao7 (l.length + 1) cap7) (l ++ [x]) A7) := Lib.hid (by unfold IV; simpa using r7.view); have I7r : Hid (IV w7 (.slice ao7 (([] ++ l : List Int).length + 1) cap7) (l ++ [x]) A7) := Lib.hid I7.out; have T7 : Hid (∀ q ∈ A7, w1.heap.size ≤ q) := Lib.hid (fun q hq => by rcases s7 q hq with h | h; exact T6.out q h; have := K6.out.size; omega); clear r7 k7 s7)
        | (refine step_app1 (m := 1) (ys := [.int .i64 x]) elemInt R6s.out rfl one_le_max oc_int (by omega) ?_; intro ao7 cap7 w7 A7 r7 k7 s7; have K7 : Hid (Keeps [] w1 w7) := Lib.hid (Keeps.trans K6.out k7 (fun q hq => .inr (T6.out q hq))); have I7 : Hid (IV w7 (.slice ao7 (l.length + 1) cap7) (l ++ [x]) A7) := Lib.hid (by unfold IV; simpa using r7.view); have I7r : Hid (IV w7 (.slice ao7 (([] ++ l : List Int).length + 1) cap7) (l ++ [x]) A7) := Lib.hid I7.out; have T7 : Hid (∀ q ∈ A7, w1.heap.size ≤ q) := Lib.hid (fun q hq => by rcases s7 q hq with h | h; exact T6.out q h; have := K6.out.size; omega); clear r7 k7 s7)
        | (refine step_app1 (m := 1) (ys := [.int .i64 x]) elemInt R6.out rfl one_le_max oc_int (by simp only [List.nil_append]; omega) ?_; intro ao7 cap7 w7 A7 r7 k7 s7; have K7 : Hid (Keeps [] w1 w7) := Lib.hid (Keeps.trans K6.out k7 (fun q hq => .inr (T6.out q hq))); have I7 : Hid (IV w7 (.slice ao7 (l.length + 1) cap7) (l ++ [x]) A7) := Lib.hid (by unfold IV; simpa using r7.view); have I7r : Hid (IV w7 (.slice ao7 (([] ++ l : List Int).length + 1) cap7) (l ++ [x]) A7) := Lib.hid I7.out; have T7 : Hid (∀ q ∈ A7, w1.heap.size ≤ q) := Lib.hid (fun q hq => by rcases s7 q hq with h | h; exact T6.out q h; have := K6.out.size; omega); clear r7 k7 s7)
        | (go_at_call 69; (with_reducible refine (ref06_with _ n _ _ R (l ++ [x]) S A7 j (QP.then H.out (K1.out.then K7.out)) hj I7.out hR1k).mono ?_); rintro e w5 ⟨vr5, S5, rfl, k5, r5, t5⟩; obtain ⟨ao5, cap5, rfl⟩ := GV.shape r5; have K5 : Hid (Keeps [] w1 w5) := Lib.hid (K7.out.then k5); have R5 : Hid (QP w5 (.slice ao5 (R.set j (l ++ [x])).length cap5) (R.set j (l ++ [x])) S5) := Lib.hid r5; have T5 := Lib.hid t5; obtain ⟨⟨b0, b1⟩, e0, e1⟩ := (B2.out.keep K5.out (by simp)).cells2; clear k5 r5 t5)
        | (go_at_call 69; (with_reducible refine (ref06_with _ n _ _ R (l ++ [x]) S A7 j (QP.then H.out (K1.out.then K7.out)) hj I7r.out hR1k).mono ?_); rintro e w5 ⟨vr5, S5, rfl, k5, r5, t5⟩; obtain ⟨ao5, cap5, rfl⟩ := GV.shape r5; have K5 : Hid (Keeps [] w1 w5) := Lib.hid (K7.out.then k5); have R5 : Hid (QP w5 (.slice ao5 (R.set j (l ++ [x])).length cap5) (R.set j (l ++ [x])) S5) := Lib.hid r5; have T5 := Lib.hid t5; obtain ⟨⟨b0, b1⟩, e0, e1⟩ := (B2.out.keep K5.out (by simp)).cells2; clear k5 r5 t5)
        | fail)
    all_goals
      go_wp2_with fail
      refine bodyPost_ret (v := .tuple #[.agg #[.int .i64 n, .slice ao5 R.length cap5], .bool true]) (by simp [results, Try.results33, go_sem, b0, b1]) rfl ?_
      rw [HE.out]
      exact qr_fin (W := w5) (S' := S5) (K1.out.then K5.out) R5.out (fun y hy => by
        rcases T5.out y hy with h | h | h
        · exact .inl h
        · have := T7.out y h; right; omega
        · have := K7.out.size; right; omega) HLS.out (((Keeps.refl _ w5).setCell (by simp) _).setCell (by simp) _) rfl (by rw [List.length_set])
  · have HF : Hid (Qu.push n R k x = (R, false)) := Lib.hid (by
      unfold Qu.push; rw [if_neg]
      intro hc
      simp only [Bool.and_eq_true, decide_eq_true_eq, Option.isNone_iff_eq_none] at hc
      exact hok ⟨hc.1.1.1, hc.1.1.2, hc.1.2, hc.2⟩)
    have hcase : (∃ i, Qu.inn R x = (i, true)) ∨ (Qu.inn R x = (0, false) ∧ (k < 0 ∨ (0 ≤ k ∧ (R.length : Int) ≤ k) ∨ (0 ≤ k ∧ k < (R.length : Int) ∧ x < 0) ∨ (0 ≤ k ∧ k < (R.length : Int) ∧ 0 ≤ x ∧ (n : Int) ≤ x))) := by
      unfold Qu.inn
      cases hl : Qu.loc R x with
      | some i => exact .inl ⟨_, rfl⟩
      | none =>
        right
        refine ⟨rfl, ?_⟩
        by_cases h1 : k < 0
        · exact .inl h1
        · by_cases h2 : k < (R.length : Int)
          · by_cases h3 : x < 0
            · exact .inr (.inr (.inl ⟨by omega, h2, h3⟩))
            · by_cases h4 : x < n
              · exact absurd ⟨by simp [Qu.line]; omega, by omega, h4, hl⟩ hok
              · exact .inr (.inr (.inr ⟨by omega, h2, by omega, by omega⟩))
          · exact .inr (.inl ⟨by omega, by omega⟩)
    clear hok h v
    rcases hcase with ⟨i, hI⟩ | ⟨hI, h1 | ⟨h1, h2⟩ | ⟨h1, h2, h3⟩ | ⟨h1, h2, h3, h4⟩⟩
    all_goals
      have HI := Lib.hid hI
      clear hI
      go_enter Try.func33, Try.ntmps33
      go_wp2_with fail
      refine (ref06_in _ n n _ R S x (H.out.then (((Keeps.refl [] w).alloc _).alloc _)) HV.out).mono ?_
      rintro e w1 ⟨rfl, k1⟩
      rw [HI.out]
      have K1 := Lib.hid ((((Keeps.refl [] w).alloc _).alloc _).then k1)
      obtain ⟨⟨p0, p1⟩, _⟩ := (HB1.out.keep k1 (by simp)).cells2
      obtain ⟨⟨b0, b1⟩, e0, e1⟩ := (HB2.out.keep k1 (by simp)).cells2
      clear k1
      go_wp2_with fail
      refine bodyPost_ret (v := .tuple #[.agg #[.int .i64 n, .slice ao R.length cap], .bool false]) (by simp [results, Try.results33, go_sem, b0, b1]) rfl ?_
      rw [HF.out]
      exact qr_fin (W := w1) (S' := S) K1.out (H.out.then K1.out) (fun x hx => .inl hx) HLS.out (((Keeps.refl _ w1).setCell (by simp) _).setCell (by simp) _) rfl rfl
end Go.Proofs.Ytonkbenmafapgaa
