/-
  Contracts of package queue: Drop, Pop.
  Conditions: Qu.Inv.
-/
import Derived.Test.YtonkbenmafapgaaQueueB
namespace Go.Proofs.Ytonkbenmafapgaa
open Go.RowKit
set_option linter.unusedVariables false
set_option linter.unusedSimpArgs false
set_option linter.unnecessarySimpa false
attribute [local go_sem ↓] Go.wp_at_zero Go.wp_at_succ

namespace Qu
theorem last_mem' {a : List Int} (h : a ≠ []) : a.getLastD (-1) ∈ a := by
  rw [List.getLastD_eq_getLast?, List.getLast?_eq_some_getLast h]; exact List.getLast_mem h
theorem head_mem' {b : List Int} (h : b ≠ []) : b.headD (-1) ∈ b := by
  cases b with
  | nil => exact absurd rfl h
  | cons z r => simp
structure DropF (n : Nat) (R : List (List Int)) (k : Nat) (x : Int) (a b : List Int) : Prop where
  x0 : 0 ≤ x ∧ x < n
  tx : tc R x = ((k : Int), b.headD (-1), a.getLastD (-1))
  pa : a ≠ [] → 0 ≤ a.getLastD (-1) ∧ a.getLastD (-1) < n ∧ a.getLastD (-1) ≠ x ∧ tc R (a.getLastD (-1)) = ((k : Int), x, prv a (a.getLastD (-1)))
  hb : b ≠ [] → 0 ≤ b.headD (-1) ∧ b.headD (-1) < n ∧ b.headD (-1) ≠ x ∧ tc R (b.headD (-1)) = ((k : Int), nxt b (b.headD (-1)), x)
  ab : a ≠ [] → b ≠ [] → a.getLastD (-1) ≠ b.headD (-1)
  len : (a ++ x :: b).length ≤ 64
theorem dropF {n : Nat} {R : List (List Int)} {k : Nat} {x : Int} {a b : List Int} (v : Inv n R) (hk : k < R.length) (hl : R.getD k [] = a ++ x :: b) : DropF n R k x a b := by
  have ho : ∀ y, (a ++ x :: b).count y ≤ 1 := fun y => by rw [← hl]; exact Nat.le_trans (count_le hk y) (v.one y)
  have hbd : ∀ y, y ∈ a ++ x :: b → 0 ≤ y ∧ y < n := fun y hy => v.bound y (mem_flat hk (by rw [hl]; exact hy))
  have hof := fun y => tc_of v hk (y := y)
  rw [hl] at hof
  have cnt : ∀ y, a.count y + ((if x = y then 1 else 0) + b.count y) ≤ 1 := fun y => by
    have := ho y
    rw [List.count_append, List.count_cons] at this
    by_cases e : x = y
    · subst e; simp at this ⊢; omega
    · have e2 : (x == y) = false := by simpa using e
      rw [e2] at this
      rw [if_neg e]; simp at this; omega
  have hxa : x ∉ a := fun h => by have := List.count_pos_iff.2 h; have := cnt x; rw [if_pos rfl] at this; omega
  have hxb : x ∉ b := fun h => by have := List.count_pos_iff.2 h; have := cnt x; rw [if_pos rfl] at this; omega
  have hab : ∀ y, y ∈ a → y ∉ b := fun y h1 h2 => by
    have := List.count_pos_iff.2 h1; have := List.count_pos_iff.2 h2; have := cnt y; omega
  have ca : ∀ y, a.count y ≤ 1 := fun y => by have := cnt y; omega
  refine ⟨hbd x (by simp), ?_, fun h => ?_, fun h => ?_, fun h1 h2 e => hab _ (last_mem' h1) (by rw [e]; exact head_mem' h2), ?_⟩
  · rw [hof x (by simp), nxt_right hxa, prv, prvA_right hxa, nxt, if_pos rfl, prvA, if_pos rfl]
  · have hm := last_mem' h
    have h2 := hbd _ (List.mem_append_left _ hm)
    refine ⟨h2.1, h2.2, fun e => hxa (e ▸ hm), ?_⟩
    rw [hof _ (List.mem_append_left _ hm), nxt_left hm (ca _), if_pos rfl, prv_left hm]; rfl
  · have hm := head_mem' h
    have h2 := hbd _ (List.mem_append_right _ (List.mem_cons_of_mem _ hm))
    have hne : b.headD (-1) ≠ x := fun e => hxb (e ▸ hm)
    have hna : b.headD (-1) ∉ a := fun e => hab _ e hm
    refine ⟨h2.1, h2.2, hne, ?_⟩
    rw [hof _ (List.mem_append_right _ (List.mem_cons_of_mem _ hm)), nxt_right hna, prv, prvA_right hna, nxt, if_neg (fun e => hne e.symm), prvA, if_neg (fun e => hne e.symm), prvA_head (q := x) hm, if_pos rfl]
  · have := len_bound ho hbd
    have := v.n64
    omega
def drop (R : List (List Int)) (x : Int) : List (List Int) × Bool := match loc R x with
  | some k => (R.set k ((R.getD k []).filter (fun y => y != x)), true)
  | none => (R, false)
theorem filter_split {x : Int} {a b : List Int} (h1 : x ∉ a) (h2 : x ∉ b) : (a ++ x :: b).filter (fun y => y != x) = a ++ b := by
  rw [List.filter_append, List.filter_cons]
  have e1 : a.filter (fun y => y != x) = a := List.filter_eq_self.2 (fun y hy => by simp; exact fun e => h1 (e ▸ hy))
  have e2 : b.filter (fun y => y != x) = b := List.filter_eq_self.2 (fun y hy => by simp; exact fun e => h2 (e ▸ hy))
  rw [e1, e2]; simp
theorem drop_split {n : Nat} {R : List (List Int)} {x : Int} {k : Nat} (v : Inv n R) (h : loc R x = some k) : ∃ a b, k < R.length ∧ R.getD k [] = a ++ x :: b ∧ drop R x = (R.set k (a ++ b), true) := by
  obtain ⟨hk, hm⟩ := loc_some h
  obtain ⟨a, b, hl, hxa⟩ := split_at hm
  have ho : (a ++ x :: b).count x ≤ 1 := by rw [← hl]; exact Nat.le_trans (count_le hk x) (v.one x)
  have hxb : x ∉ b := fun hb => by
    have := List.count_pos_iff.2 hb
    rw [List.count_append, List.count_cons_self] at ho
    omega
  refine ⟨a, b, hk, hl, ?_⟩
  unfold drop
  rw [h]
  simp only [hl, filter_split hxa hxb]
theorem drop_inv' {n : Nat} {R : List (List Int)} (v : Inv n R) (x : Int) : Inv n (drop R x).1 := by
  cases h : loc R x with
  | none => unfold drop; rw [h]; exact v
  | some k =>
    obtain ⟨a, b, hk, hl, e⟩ := drop_split v h
    rw [e]; exact drop_inv v hk hl
end Qu

theorem blk_newq (w : World) (cs : List Value) (e : TypeId) (b : Nat) (hb : b = w.heap.size) : Blk (w.alloc (.cells cs.toArray e)) b cs e := by subst hb; exact Blk.new w cs e
theorem blk_new3 (w : World) (cs : List Value) (e : TypeId) : Blk (w.alloc (.cells cs.toArray e)) w.heap.size cs e := Blk.new w cs e
theorem QRaw.then {w w' : World} {b g1 o1 c1 g2 o2 c2 : Nat} {A B : List (Int × Int × Int)} (h : QRaw w b g1 o1 c1 g2 o2 c2 A B) (k : Keeps [] w w') : QRaw w' b g1 o1 c1 g2 o2 c2 A B :=
  ⟨h.1.keep k (by simp), h.2.1.then k, h.2.2.1.then k, h.2.2.2⟩
theorem Qu.headD_app2 {a b : List Int} {y : Int} (h : a ≠ []) : (a ++ b).headD (-1) = (a ++ y :: b).headD (-1) := by
  cases a with
  | nil => exact absurd rfl h
  | cons z r => rfl
theorem Qu.lastD_app {a b : List Int} (h : b ≠ []) : (a ++ b).getLastD (-1) = b.getLastD (-1) := by
  rw [List.getLastD_eq_getLast?, List.getLastD_eq_getLast?, List.getLast?_append, List.getLast?_eq_some_getLast h]; rfl
theorem Qu.lastD_cons {y : Int} {b : List Int} (h : b ≠ []) : (y :: b).getLastD (-1) = b.getLastD (-1) := by
  cases b with
  | nil => exact absurd rfl h
  | cons z r => simp [List.getLastD_eq_getLast?]

set_option maxRecDepth 100000 in
set_option maxHeartbeats 3200000 in
theorem queue_drop (w : World) (p : Value) (n : Nat) (R : List (List Int)) (S : List Nat) (x : Int) (h : Qq w p n R S) :
    Calls Try.prog 38 #[p, .int .i64 x] w (QPost (Qu.drop R x) p n S w) := by
  obtain ⟨b, rfl⟩ := h.shape
  have H := Lib.hid h
  have hv := h.inv
  cases hl : Qu.loc R x with
  | none =>
    have HF : Hid (Qu.drop R x = (R, false)) := Lib.hid (by unfold Qu.drop; rw [hl])
    have HI : Hid (Qu.inn R x = (0, false)) := Lib.hid (by unfold Qu.inn; rw [hl])
    clear h hv hl
    go_enter Try.func38, Try.ntmps38
    go_wp2_with fail
    refine (queue_in _ _ _ _ _ _ H.out).mono ?_
    rintro e w1 ⟨rfl, rfl⟩
    rw [HI.out]
    go_wp2_with fail
    go_ret
    unfold QPost
    rw [HF.out]
    exact ⟨rfl, Keeps.refl _ _, H.out⟩
  | some k =>
    obtain ⟨a, bb, hk, hrow, he⟩ := Qu.drop_split hv hl
    have F := Qu.dropF hv hk hrow
    have HI : Hid (Qu.inn R x = ((k : Int), true)) := Lib.hid (by unfold Qu.inn; rw [hl])
    obtain ⟨y, rfl⟩ := Int.eq_ofNat_of_zero_le F.x0.1
    have hyn : y < n := by have := F.x0.2; omega
    obtain ⟨g1, o1, c1, g2, o2, c2, rfl, hraw⟩ := h.raw (by omega) (by omega)
    have hdt := Qu.drop_th hv hk hrow
    rw [Int.toNat_natCast] at hdt
    have HDI := Lib.hid (Qu.drop_inv hv hk hrow)
    have htg := Qu.th_get (R := R) hyn
    rw [F.tx] at htg
    have hlg := Qu.ln_get hk
    rw [hrow] at hlg
    have hlnl : (Qu.ln R).length = R.length := by simp [Qu.ln]
    obtain ⟨⟨e0, e1, e2⟩, f0, f1, f2⟩ := hraw.thing htg
    obtain ⟨⟨d0, d1, d2⟩, q0, q1, q2⟩ := hraw.line hlg
    obtain ⟨hh0, hh1⟩ := hraw.head
    rw [Qu.th_len] at hh0
    rw [hlnl] at hh1
    have hlt := h.lt
    have HR := Lib.hid hraw
    have HDT := Lib.hid hdt
    have HLG := Lib.hid hlg
    have HF := Lib.hid F
    have HE := Lib.hid he
    obtain ⟨n1, n2, n3⟩ := (⟨hraw.2.2.2.1, hraw.2.2.2.2.1, hraw.2.2.2.2.2⟩ : b ≠ g1 ∧ b ≠ g2 ∧ g1 ≠ g2)
    have n3' : g2 ≠ g1 := fun e => n3 e.symm
    have m1 : b < w.heap.size := hlt b (by simp)
    have m2 : g1 < w.heap.size := hlt g1 (by simp)
    have m3 : g2 < w.heap.size := hlt g2 (by simp)
    have m4 : w.heap.size ≠ b := by omega
    have m5 : w.heap.size ≠ g1 := by omega
    have m6 : w.heap.size ≠ g2 := by omega
    have hr64 := hv.r64
    have hn64 := hv.n64
    have hkI : (k : Int) < (R.length : Int) := by omega
    have hyI : (y : Int) < (n : Int) := by omega
    have hlen := F.len
    obtain ⟨L, hL⟩ : ∃ L, (a ++ (y : Int) :: bb).length = L + 1 := ⟨a.length + bb.length, by simp; omega⟩
    have HL := Lib.hid hL
    simp only [Qu.lc] at d0 d1 d2
    rw [hL] at d2 hlen
    obtain ⟨pa, hpa⟩ : ∃ pa, a.getLastD (-1) = pa := ⟨_, rfl⟩
    obtain ⟨hb, hhb⟩ : ∃ hb, bb.headD (-1) = hb := ⟨_, rfl⟩
    rw [hpa] at e2
    rw [hhb] at e1
    simp only at e0 e1 e2
    have HPA := Lib.hid hpa
    have HHB := Lib.hid hhb
    obtain ⟨qa, hqa⟩ : ∃ q, (pa == -1) = q := ⟨_, rfl⟩
    obtain ⟨qb, hqb⟩ : ∃ q, (hb == -1) = q := ⟨_, rfl⟩
    have HQa : Hid (qa = decide (a = [])) := Lib.hid (by
      rw [← hqa, ← hpa, Bool.eq_iff_iff]
      by_cases ha : a = []
      · subst ha; simp
      · have := F.pa ha
        simp only [beq_iff_eq, decide_eq_true_eq, ha, iff_false]; omega)
    have HQb : Hid (qb = decide (bb = [])) := Lib.hid (by
      rw [← hqb, ← hhb, Bool.eq_iff_iff]
      by_cases ha : bb = []
      · subst ha; simp
      · have := F.hb ha
        simp only [beq_iff_eq, decide_eq_true_eq, ha, iff_false]; omega)
    clear h hv hl hraw hdt htg hlg hlnl hlt F he hrow hL hpa hhb
    go_enter Try.func38, Try.ntmps38
    go_wp2_with fail
    refine (queue_in _ _ _ _ _ _ H.out).mono ?_
    rintro e w1 ⟨rfl, rfl⟩
    rw [HI.out]
    go_upto_if 32 with fail
    go_cut [40] (fun _ w' => QRaw w' b g1 o1 c1 g2 o2 c2 (if a = [] then Qu.th n R else (Qu.th n R).set pa.toNat ((k : Int), hb, Qu.prv a pa)) ((Qu.ln R).set k ((a ++ bb).headD (-1), (a ++ (y : Int) :: bb).getLastD (-1), (L : Int) + 1)) ∧ Keeps [b, g1, g2] w w' ∧ Blk w' w.heap.size [.int .i64 k, .int .i64 hb, .int .i64 pa] 104)
    case first =>
      have hra := HR.out.then ((Keeps.refl [] w).alloc (.cells #[.int .i64 k, .int .i64 hb, .int .i64 pa] 104))
      have HRA := Lib.hid hra
      have hbx := blk_new3 w [.int .i64 k, .int .i64 hb, .int .i64 pa] 104
      have HBX := Lib.hid hbx
      have hl2 : (a ++ (y : Int) :: bb).length = L + 1 := HL.out
      have HLG2 : Hid ((Qu.ln R)[k]? = some ((a ++ (y : Int) :: bb).headD (-1), (a ++ (y : Int) :: bb).getLastD (-1), (L : Int) + 1)) := Lib.hid (by rw [HLG.out]; unfold Qu.lc; rw [hl2]; simp)
      obtain ⟨⟨a0, a1, a2⟩, p0, p1, p2⟩ := hra.line HLG2.out
      obtain ⟨x0, x1⟩ := hra.head
      rw [Qu.th_len] at x0
      rw [show (Qu.ln R).length = R.length by simp [Qu.ln]] at x1
      have b1 : (w.alloc (.cells #[.int .i64 k, .int .i64 hb, .int .i64 pa] 104)).cell? ⟨w.heap.size, 1, none⟩ = some (.int .i64 hb) := hbx.cell 1
      have b2 : (w.alloc (.cells #[.int .i64 k, .int .i64 hb, .int .i64 pa] 104)).cell? ⟨w.heap.size, 2, none⟩ = some (.int .i64 pa) := hbx.cell 2
      clear hra hbx hl2
      generalize (a ++ (y : Int) :: bb).getLastD (-1) = lal at *
      cases qa with
      | true =>
        have ha : a = [] := by have := HQa.out; simpa using this
        subst ha
        have hhd : Hid (([] ++ bb).headD (-1) = hb) := Lib.hid (by rw [List.nil_append]; exact HHB.out)
        go_wp2_with fail
        go_meet
        refine ⟨?_, (((Keeps.refl _ w).setCell (by simp) _).alloc _), blk_newq _ _ _ _ (by simp)⟩
        rw [if_pos trivial, hhd.out]
        exact (HR.out.l0 HLG2.out hb).then ((Keeps.refl [] _).alloc _)
      | false =>
        have ha : a ≠ [] := by have := HQa.out; simpa using this
        have hf := HF.out.pa ha
        rw [HPA.out] at hf
        obtain ⟨z, rfl⟩ := Int.eq_ofNat_of_zero_le hf.1
        have hzn : z < n := by omega
        have hzg := Qu.th_get (R := R) hzn
        rw [hf.2.2.2] at hzg
        have HZ := Lib.hid hzg
        obtain ⟨⟨z0, z1, z2⟩, zf0, zf1, zf2⟩ := HRA.out.thing hzg
        have hzI : (z : Int) < (n : Int) := by omega
        have hhd : Hid ((a ++ bb).headD (-1) = (a ++ (y : Int) :: bb).headD (-1)) := Lib.hid (Qu.headD_app2 ha)
        have HA0 := Lib.hid ha
        clear hzg hf ha
        go_wp2_with fail
        go_region
        go_wp2_with fail
        go_meet
        refine ⟨?_, ((((Keeps.refl _ w).setCell (by simp) _).alloc _).drew), (blk_newq _ _ _ _ (by simp)).drew⟩
        rw [if_neg HA0.out, hhd.out, Int.toNat_natCast, List.set_getElem?_self' HLG2.out]
        exact ((HR.out.t1 HZ.out hb).then ((Keeps.refl [] _).alloc _)).drew
    case rest =>
      obtain ⟨hr1, hk1, hbx⟩ := hcut
      have HR1 := Lib.hid hr1
      have HK1 := Lib.hid hk1
      have HBX := Lib.hid hbx
      have hkl : k < (Qu.ln R).length := by simp [Qu.ln]; omega
      have HG1 : Hid (((Qu.ln R).set k ((a ++ bb).headD (-1), (a ++ (y : Int) :: bb).getLastD (-1), (L : Int) + 1))[k]? = some ((a ++ bb).headD (-1), (a ++ (y : Int) :: bb).getLastD (-1), (L : Int) + 1)) := Lib.hid (by simp [hkl])
      obtain ⟨⟨a0, a1, a2⟩, p0, p1, p2⟩ := hr1.line HG1.out
      obtain ⟨x0, x1⟩ := hr1.head
      rw [show (if a = [] then Qu.th n R else (Qu.th n R).set pa.toNat ((k : Int), hb, Qu.prv a pa)).length = n by split <;> simp [Qu.th_len]] at x0
      rw [List.length_set, show (Qu.ln R).length = R.length by simp [Qu.ln]] at x1
      have b1 : wc.cell? ⟨w.heap.size, 1, none⟩ = some (.int .i64 hb) := hbx.cell 1
      have b2 : wc.cell? ⟨w.heap.size, 2, none⟩ = some (.int .i64 pa) := hbx.cell 2
      clear hr1 hk1 hbx e0 e1 e2 f0 f1 f2 d0 d1 d2 q0 q1 q2 hh0 hh1
      go_upto_if 50 with fail
      go_cut [60] (fun _ w' => QRaw w' b g1 o1 c1 g2 o2 c2 (if bb = [] then (if a = [] then Qu.th n R else (Qu.th n R).set pa.toNat ((k : Int), hb, Qu.prv a pa)) else (if a = [] then Qu.th n R else (Qu.th n R).set pa.toNat ((k : Int), hb, Qu.prv a pa)).set hb.toNat ((k : Int), Qu.nxt bb hb, pa)) ((Qu.ln R).set k ((a ++ bb).headD (-1), (a ++ bb).getLastD (-1), (L : Int) + 1)) ∧ Keeps [b, g1, g2] w w')
      case first =>
        generalize (a ++ bb).headD (-1) = hd at *
        cases qb with
        | true =>
          have ha : bb = [] := by have := HQb.out; simpa using this
          subst ha
          have hla : Hid ((a ++ []).getLastD (-1) = pa) := Lib.hid (by rw [List.append_nil]; exact HPA.out)
          go_wp2_with fail
          go_meet
          refine ⟨?_, (HK1.out.setCell (by simp) _)⟩
          rw [if_pos trivial, hla.out]
          have := HR1.out.l1 HG1.out pa
          simp only [List.set_set] at this
          exact this
        | false =>
          have ha : bb ≠ [] := by have := HQb.out; simpa using this
          have hf := HF.out.hb ha
          have hab := HF.out.ab
          have hap := HF.out.pa
          rw [HHB.out] at hf hab
          rw [HPA.out] at hab hap
          obtain ⟨z, rfl⟩ := Int.eq_ofNat_of_zero_le hf.1
          have hzn : z < n := by omega
          have hzg : (if a = [] then Qu.th n R else (Qu.th n R).set pa.toNat ((k : Int), (z : Int), Qu.prv a pa))[z]? = some ((k : Int), Qu.nxt bb (z : Int), (y : Int)) := by
            rw [← hf.2.2.2]
            split
            · exact Qu.th_get hzn
            · rename_i h1
              have := hab h1 ha
              have := hap h1
              rw [List.getElem?_set_ne (by omega)]
              exact Qu.th_get hzn
          have HZ := Lib.hid hzg
          obtain ⟨⟨z0, z1, z2⟩, zf0, zf1, zf2⟩ := HR1.out.thing hzg
          have hzI : (z : Int) < (n : Int) := by omega
          have hla : Hid ((a ++ bb).getLastD (-1) = (a ++ (y : Int) :: bb).getLastD (-1)) := Lib.hid (by rw [Qu.lastD_app ha, Qu.lastD_app (by simp), Qu.lastD_cons ha])
          have HA0 := Lib.hid ha
          clear hzg hf ha hab hap
          generalize Qu.nxt bb (z : Int) = nz at *
          go_wp2_with fail
          go_region
          go_wp2_with fail
          go_meet
          refine ⟨?_, ((HK1.out.setCell (by simp) _).drew)⟩
          rw [if_neg HA0.out, hla.out, Int.toNat_natCast]
          exact (HR1.out.t2 HZ.out pa).drew
      case rest =>
        obtain ⟨hr2, hk2⟩ := hcut
        have HR2 := Lib.hid hr2
        have HK2 := Lib.hid hk2
        have HG2 : Hid (((Qu.ln R).set k ((a ++ bb).headD (-1), (a ++ bb).getLastD (-1), (L : Int) + 1))[k]? = some ((a ++ bb).headD (-1), (a ++ bb).getLastD (-1), (L : Int) + 1)) := Lib.hid (by simp [hkl])
        obtain ⟨⟨a0, a1, a2⟩, p0, p1, p2⟩ := hr2.line HG2.out
        obtain ⟨x0, x1⟩ := hr2.head
        rw [show (if bb = [] then (if a = [] then Qu.th n R else (Qu.th n R).set pa.toNat ((k : Int), hb, Qu.prv a pa)) else (if a = [] then Qu.th n R else (Qu.th n R).set pa.toNat ((k : Int), hb, Qu.prv a pa)).set hb.toNat ((k : Int), Qu.nxt bb hb, pa)).length = n by split <;> split <;> simp [Qu.th_len]] at x0
        rw [List.length_set, show (Qu.ln R).length = R.length by simp [Qu.ln]] at x1
        have hlen2 : (a ++ bb).length = L := by have := HL.out; simp at this ⊢; omega
        have HLN : Hid (Qu.ln (R.set k (a ++ bb)) = (Qu.ln R).set k ((a ++ bb).headD (-1), (a ++ bb).getLastD (-1), (L : Int))) := Lib.hid (by
          rw [Qu.ln_set]; unfold Qu.lc; rw [hlen2])
        have hAl : y < (if bb = [] then (if a = [] then Qu.th n R else (Qu.th n R).set pa.toNat ((k : Int), hb, Qu.prv a pa)) else (if a = [] then Qu.th n R else (Qu.th n R).set pa.toNat ((k : Int), hb, Qu.prv a pa)).set hb.toNat ((k : Int), Qu.nxt bb hb, pa)).length := by split <;> split <;> (simp [Qu.th_len]; exact hyn)
        have HAl := Lib.hid hAl
        obtain ⟨tt, htx⟩ := (⟨_, List.getElem?_eq_getElem hAl⟩ : ∃ tt, (if bb = [] then (if a = [] then Qu.th n R else (Qu.th n R).set pa.toNat ((k : Int), hb, Qu.prv a pa)) else (if a = [] then Qu.th n R else (Qu.th n R).set pa.toNat ((k : Int), hb, Qu.prv a pa)).set hb.toNat ((k : Int), Qu.nxt bb hb, pa))[y]? = some tt)
        obtain ⟨⟨t0, t1, t2⟩, tf0, tf1, tf2⟩ := hr2.thing htx
        clear hr2 hk2 hlen2 hAl htx
        have hdt := HDT.out
        rw [HPA.out, HHB.out] at hdt
        have HDT2 := Lib.hid hdt
        clear hdt
        generalize (a ++ bb).headD (-1) = hd at *
        generalize (a ++ bb).getLastD (-1) = la at *
        generalize (if bb = [] then (if a = [] then Qu.th n R else (Qu.th n R).set pa.toNat ((k : Int), hb, Qu.prv a pa)) else (if a = [] then Qu.th n R else (Qu.th n R).set pa.toNat ((k : Int), hb, Qu.prv a pa)).set hb.toNat ((k : Int), Qu.nxt bb hb, pa)) = A2 at *
        go_wp2_with fail
        go_ret
        unfold QPost
        rw [HE.out]
        refine ⟨rfl, ((((HK2.out.setCell (by simp) _).setCell (by simp) _).setCell (by simp) _).setCell (by simp) _), ?_⟩
        have r1 := HR2.out.l2 HG2.out ((L : Int))
        have r2 := r1.tAll (x := y) HAl.out (-1) (-1) (-1)
        simp only [List.set_set] at r2
        exact r2.q HDT2.out.symm HLN.out.symm HDI.out
end Go.Proofs.Ytonkbenmafapgaa
