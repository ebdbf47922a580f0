/-
  Contracts of package queue: New; the chapter's example.
  Conditions: none.
-/
import Derived.Test.YtofnbflkhgammaaQueueD
namespace Go.Proofs.Ytofnbflkhgammaa
open Go.RowKit
set_option linter.unusedVariables false
set_option linter.unusedSimpArgs false
set_option linter.unnecessarySimpa false

theorem run_make3 {P : Program} (t e : TypeId) (z : Value) (bytes : Nat) (ht : P.underlying t = some (.slice e)) (hinfo : (P.info? e).map (fun i => (i.zero, i.size, i.bytes)) = some (some z, 3, bytes))
    (n : Nat) (hbytes : bytes * n ≤ 281474976710656) (h63 : n ≤ 1000) (w : World) :
    (Instr.makeSlice t (.int .i64 (n : Int)) (.int .i64 (n : Int))).run P w = .ok (.slice (some ⟨w.heap.size, 0, none⟩) n n) (w.alloc (.cells (madeCells z.cells (n * 3)) e)) := by
  obtain ⟨i, hi, hzz⟩ := Option.map_eq_some_iff.1 hinfo
  simp only [Prod.mk.injEq] at hzz
  obtain ⟨hz, hs, hb⟩ := hzz
  have hb' : (i.bytes : Int) * (n : Int) ≤ 281474976710656 := by
    have h : ((i.bytes * n : Nat) : Int) ≤ 281474976710656 := by rw [hb]; omega
    rwa [Int.natCast_mul] at h
  have hr := run_make (P := P) w t e i z ht hi hz .i64 .i64 n n (by omega) (Int.le_refl _) hb' (by omega)
  simp only [Int.toNat_natCast, hs] at hr
  exact hr
theorem row_made (w : World) (z : Array Value) (n : Nat) (e : TypeId) (b : Nat) (hn : n ≤ 1000) (hb : b = w.heap.size) : Row (w.alloc (.cells (madeCells z (n * 3)) e)) (.slice (some ⟨b, 0, none⟩) n n) e 3 n (madeCells z (n * 3)).toList [b] := by
  subst hb
  have := Row.lit w (madeCells z (n * 3)).toList e 3 n (by simp [size_madeCells]) (by simp [maxLen]; omega)
  rwa [Array.toArray_toList] at this
theorem fill_set {α : Type} (a b : α) (N k : Nat) (h : k < N) : (List.replicate k a ++ List.replicate (N - k) b).set k a = List.replicate (k + 1) a ++ List.replicate (N - (k + 1)) b := by
  rw [List.set_append_right _ _ (by simp), List.replicate_succ', List.append_assoc]
  congr 1
  rw [show N - k = (N - (k + 1)) + 1 by omega, List.replicate_succ]
  simp

theorem QRaw.lAll {w : World} {b g1 o1 c1 g2 o2 c2 : Nat} {A B : List (Int × Int × Int)} (h : QRaw w b g1 o1 c1 g2 o2 c2 A B) {x : Nat} (hx : x < B.length) (a c d : Int) :
    QRaw (((w.setCell ⟨g2, o2 + x * 3, none⟩ (.int .i64 a)).setCell ⟨g2, o2 + x * 3 + 1, none⟩ (.int .i64 c)).setCell ⟨g2, o2 + x * 3 + 2, none⟩ (.int .i64 d)) b g1 o1 c1 g2 o2 c2 A (B.set x (a, c, d)) := by
  have e := List.getElem?_eq_getElem hx
  have h1 := h.l0 e a
  have h2 := h1.l1 (x := x) (t := (a, B[x].2)) (by simp [hx]) c
  have h3 := h2.l2 (x := x) (t := (a, c, B[x].2.2)) (by simp [hx]) d
  simpa using h3

namespace Qu
def can (n m : Int) : Bool := decide (0 ≤ n ∧ n ≤ 64 ∧ 0 ≤ m ∧ m ≤ 64)
theorem new_flat (m : Nat) : (List.replicate m ([] : List Int)).flatten = [] := by
  induction m with
  | zero => rfl
  | succ n ih => rw [List.replicate_succ, List.flatten_cons, ih]; rfl
theorem new_inv (n m : Nat) (h1 : n ≤ 64) (h2 : m ≤ 64) : Inv n (List.replicate m []) :=
  ⟨h1, by simpa using h2, fun a => by rw [new_flat]; simp, fun a h => by rw [new_flat] at h; simp at h⟩
theorem new_th (n m : Nat) : th n (List.replicate m []) = List.replicate n (-1, -1, -1) := by
  symm
  refine th_ext (by simp) (fun x hx => ?_)
  rw [tc_none (loc_none.2 (by rw [new_flat]; simp))]
  simp [hx]
theorem new_ln (m : Nat) : ln (List.replicate m []) = List.replicate m (-1, -1, 0) := by simp [ln, lc]
end Qu

def QNewPost (n m : Nat) (w : World) (e : Ending) (w' : World) : Prop :=
  ∃ p S, e = .returned (.tuple #[p, .int .i64 0]) ∧ Fresh w w' S ∧ Qq w' p n (List.replicate m []) S
def QNew1 (n m : Nat) (w : World) (v : Value) (w' : World) : Prop :=
  ∃ b g1 g2, v = .pointer (some ⟨b, 0, none⟩) ∧ QRaw w' b g1 0 n g2 0 m (List.replicate n (0, 0, 0)) (List.replicate m (0, 0, 0)) ∧ Fresh w w' [b, g1, g2]

theorem qnew1 {w W : World} {n m b g1 g2 : Nat} (hb : Blk W b [.slice (some ⟨g1, 0, none⟩) n n, .slice (some ⟨g2, 0, none⟩) m m] 100)
    (h1 : Row W (.slice (some ⟨g1, 0, none⟩) n n) 102 3 n (madeCells #[.int .i64 0, .int .i64 0, .int .i64 0] (n * 3)).toList [g1]) (h2 : Row W (.slice (some ⟨g2, 0, none⟩) m m) 104 3 m (madeCells #[.int .i64 0, .int .i64 0, .int .i64 0] (m * 3)).toList [g2])
    (hk : Keeps [] w W) (a1 : w.heap.size ≤ b) (a2 : w.heap.size ≤ g1) (a3 : w.heap.size ≤ g2) (d1 : b ≠ g1) (d2 : b ≠ g2) (d3 : g1 ≠ g2) : QNew1 n m w (.pointer (some ⟨b, 0, none⟩)) W := by
  refine ⟨b, g1, g2, rfl, ⟨?_, ?_, ?_, d1, d2, d3⟩, hk, fun k h => ?_⟩
  · rw [List.length_replicate, List.length_replicate]; exact hb
  · have := ER.made t3_len (x0 := (0, 0, 0)) rfl (by omega) h1
    rw [List.length_replicate]; exact this
  · have := ER.made t3_len (x0 := (0, 0, 0)) rfl (by omega) h2
    rw [List.length_replicate]; exact this
  · simp at h; rcases h with rfl | rfl | rfl <;> assumption

set_option maxHeartbeats 1600000 in
theorem queue_new (w : World) (n m : Nat) (h1 : n ≤ 64) (h2 : m ≤ 64) :
    Calls Try.prog 11 #[.int .i64 n, .int .i64 m] w (QNewPost n m w) := by
  have mk1 : ∀ w : World, (Instr.makeSlice 97 (.int .i64 (n : Int)) (.int .i64 (n : Int))).run Try.prog w = .ok (.slice (some ⟨w.heap.size, 0, none⟩) n n) (w.alloc (.cells (madeCells #[.int .i64 0, .int .i64 0, .int .i64 0] (n * 3)) 102)) := fun w =>
    run_make3 97 102 (.agg #[.int .i64 0, .int .i64 0, .int .i64 0]) 24 Try.underlying97 (by kernel_rfl) n (by omega) (by omega) w
  have mk2 : ∀ w : World, (Instr.makeSlice 98 (.int .i64 (m : Int)) (.int .i64 (m : Int))).run Try.prog w = .ok (.slice (some ⟨w.heap.size, 0, none⟩) m m) (w.alloc (.cells (madeCells #[.int .i64 0, .int .i64 0, .int .i64 0] (m * 3)) 104)) := fun w =>
    run_make3 98 104 (.agg #[.int .i64 0, .int .i64 0, .int .i64 0]) 24 Try.underlying98 (by kernel_rfl) m (by omega) (by omega) w
  have b1 : (n : Int) ≤ 64 := by omega
  have b2 : (m : Int) ≤ 64 := by omega
  have z1 : decide ((n : Int) < 0) = false := by simp
  have z2 : decide ((m : Int) < 0) = false := by simp
  have z3 : decide ((64 : Int) < (n : Int)) = false := by simp; omega
  have z4 : decide ((64 : Int) < (m : Int)) = false := by simp; omega
  go_enter Try.func11, Try.ntmps11
  go_upto_region 4 with fail
  go_cut [6] (fun v6 w' => QNew1 n m w v6 w')
  case first =>
    go_wp2_with fail
    go_region
    all_goals go_wp2_with fail
    all_goals go_meet
    · exact qnew1 (blk_newq _ _ _ _ (by simp)).drew (Row.then (Row.alloc (Row.alloc (row_made w _ n _ _ (by omega) rfl) _) _) (Keeps.refl [] _).drew) (Row.then (Row.alloc (row_made _ _ m _ _ (by omega) (by simp)) _) (Keeps.refl [] _).drew) (((((Keeps.refl [] w).alloc _).alloc _).alloc _).drew) (by omega) (by omega) (by omega) (by omega) (by omega) (by omega)
    · exact qnew1 (blk_newq _ _ _ _ (by simp)).drew (Row.then (Row.alloc (row_made _ _ n _ _ (by omega) (by simp)) _) (Keeps.refl [] _).drew) (Row.then (Row.alloc (Row.alloc (row_made w _ m _ _ (by omega) rfl) _) _) (Keeps.refl [] _).drew) (((((Keeps.refl [] w).alloc _).alloc _).alloc _).drew) (by omega) (by omega) (by omega) (by omega) (by omega) (by omega)
  case rest =>
    obtain ⟨b, g1, g2, rfl, hraw, hfr⟩ := hcut
    have HFr := Lib.hid hfr.2
    have HR0 : Hid (QRaw wc b g1 0 n g2 0 m (List.replicate 0 (-1, -1, -1) ++ List.replicate (n - 0) (0, 0, 0)) (List.replicate m (0, 0, 0))) := Lib.hid (by simpa using hraw)
    have HK0 := Lib.hid hfr.1
    obtain ⟨n1, n2, n3⟩ := (⟨hraw.2.2.2.1, hraw.2.2.2.2.1, hraw.2.2.2.2.2⟩ : b ≠ g1 ∧ b ≠ g2 ∧ g1 ≠ g2)
    obtain ⟨hh0, hh1⟩ := hraw.head
    rw [List.length_replicate] at hh0 hh1
    clear hraw hfr mk1 mk2
    go_wp2_with fail
    go_loopw [7, 34] (fun _ v34 wr => ∃ i : Nat, i ≤ n ∧ v34 = .int .i64 i ∧ QRaw wr b g1 0 n g2 0 m (List.replicate i (-1, -1, -1) ++ List.replicate (n - i) (0, 0, 0)) (List.replicate m (0, 0, 0)) ∧ Keeps [] w wr) (fun _ v34 _ => n - (intOf v34).toNat)
    case atStart => exact ⟨0, Nat.zero_le _, rfl, HR0.out, HK0.out⟩
    case round =>
      obtain ⟨i, hi, rfl, hraw, hke⟩ := hrel
      have HRw := Lib.hid hraw
      have HKe := Lib.hid hke
      obtain ⟨hh0, hh1⟩ := hraw.head
      rw [List.length_replicate] at hh1
      have hl1 : (List.replicate i ((-1 : Int), (-1 : Int), (-1 : Int)) ++ List.replicate (n - i) ((0 : Int), (0 : Int), (0 : Int))).length = n := by simp; omega
      rw [hl1] at hh0
      by_cases hlt : i < n
      · have hal : i < (List.replicate i ((-1 : Int), (-1 : Int), (-1 : Int)) ++ List.replicate (n - i) (0, 0, 0)).length := by simp; omega
        obtain ⟨tt, htt⟩ : ∃ tt, (List.replicate i ((-1 : Int), (-1 : Int), (-1 : Int)) ++ List.replicate (n - i) (0, 0, 0))[i]? = some tt := ⟨_, List.getElem?_eq_getElem hal⟩
        obtain ⟨⟨t0, t1, t2⟩, f0, f1, f2⟩ := hraw.thing htt
        have HN := Lib.hid (hraw.tAll hal (-1) (-1) (-1))
        rw [fill_set _ _ _ _ hlt] at HN
        rw [Nat.zero_add] at t0 t1 t2 f0 f1 f2 HN
        have hiI : (i : Int) < (n : Int) := by omega
        clear hraw hke hal htt hl1
        go_wp2_with fail
        go_roundw
        case rel => exact ⟨i + 1, by omega, by go_num, HN.out, (((HKe.out.trans ((Keeps.refl [g1] _).setCell (by simp) _) (fun x hx => .inr (by simp at hx; subst hx; exact HFr.out _ (by simp)))).setCell (.inr (HFr.out _ (by simp))) _).setCell (.inr (HFr.out _ (by simp))) _)⟩
        case measure => simp [intOf]; omega
      · obtain rfl : i = n := by omega
        have HR1 : Hid (QRaw wr b g1 0 i g2 0 m (List.replicate i (-1, -1, -1)) (List.replicate 0 (-1, -1, 0) ++ List.replicate (m - 0) (0, 0, 0))) := Lib.hid (by simpa using hraw)
        obtain ⟨wo, rfl⟩ : ∃ wo : World, wo = wr := ⟨_, rfl⟩
        clear hraw hke HR0 HK0
        go_wp2_with fail
        go_loopw [8, 50] (fun _ v50 wr => ∃ j : Nat, j ≤ m ∧ v50 = .int .i64 j ∧ QRaw wr b g1 0 i g2 0 m (List.replicate i (-1, -1, -1)) (List.replicate j (-1, -1, 0) ++ List.replicate (m - j) (0, 0, 0)) ∧ Keeps [] w wr) (fun _ v50 _ => m - (intOf v50).toNat)
        case atStart => exact ⟨0, Nat.zero_le _, rfl, HR1.out, HKe.out⟩
        case round =>
          obtain ⟨j, hj, rfl, hraw, hke⟩ := hrel
          have HRw := Lib.hid hraw
          have HKe2 := Lib.hid hke
          obtain ⟨hh0, hh1⟩ := hraw.head
          rw [List.length_replicate] at hh0
          have hl2 : (List.replicate j ((-1 : Int), (-1 : Int), (0 : Int)) ++ List.replicate (m - j) ((0 : Int), (0 : Int), (0 : Int))).length = m := by simp; omega
          rw [hl2] at hh1
          by_cases hlt2 : j < m
          · have hal : j < (List.replicate j ((-1 : Int), (-1 : Int), (0 : Int)) ++ List.replicate (m - j) (0, 0, 0)).length := by simp; omega
            obtain ⟨tt, htt⟩ : ∃ tt, (List.replicate j ((-1 : Int), (-1 : Int), (0 : Int)) ++ List.replicate (m - j) (0, 0, 0))[j]? = some tt := ⟨_, List.getElem?_eq_getElem hal⟩
            obtain ⟨⟨t0, t1, t2⟩, f0, f1, f2⟩ := hraw.line htt
            have HN := Lib.hid (hraw.lAll hal (-1) (-1) 0)
            rw [fill_set _ _ _ _ hlt2] at HN
            rw [Nat.zero_add] at t0 t1 t2 f0 f1 f2 HN
            have hiI : (j : Int) < (m : Int) := by omega
            clear hraw hke hal htt hl2
            go_wp2_with fail
            go_roundw
            case rel => exact ⟨j + 1, by omega, by go_num, HN.out, (((HKe2.out.trans ((Keeps.refl [g2] _).setCell (by simp) _) (fun x hx => .inr (by simp at hx; subst hx; exact HFr.out _ (by simp)))).setCell (.inr (HFr.out _ (by simp))) _).setCell (.inr (HFr.out _ (by simp))) _)⟩
            case measure => simp [intOf]; omega
          · obtain rfl : j = m := by omega
            have HQ : Hid (Qq wr (.pointer (some ⟨b, 0, none⟩)) i (List.replicate j []) [b, g1, g2]) := Lib.hid (by
              have h : QRaw wr b g1 0 i g2 0 j (List.replicate i (-1, -1, -1)) (List.replicate j (-1, -1, 0)) := by simpa using hraw
              exact h.q (Qu.new_th i j).symm (Qu.new_ln j).symm (Qu.new_inv i j h1 h2))
            clear hraw hke
            go_wp2_with fail
            go_ret2
            exact ⟨_, _, rfl, ⟨HKe2.out, HFr.out⟩, HQ.out⟩

def QNoPost (w : World) (e : Ending) (w' : World) : Prop := e = .returned (.tuple #[.pointer none, .int .i64 1]) ∧ w = w'
theorem queue_new_no (w : World) (n m : Int) (h : Qu.can n m = false) :
    Calls Try.prog 11 #[.int .i64 n, .int .i64 m] w (QNoPost w) := by
  have hcase : n < 0 ∨ (0 ≤ n ∧ 64 < n) ∨ (0 ≤ n ∧ n ≤ 64 ∧ m < 0) ∨ (0 ≤ n ∧ n ≤ 64 ∧ 0 ≤ m ∧ 64 < m) := by
    simp [Qu.can] at h; omega
  clear h
  rcases hcase with h1 | ⟨h1, h2⟩ | ⟨h1, h2, h3⟩ | ⟨h1, h2, h3, h4⟩
  all_goals go_enter Try.func11, Try.ntmps11
  all_goals go_wp2_with fail
  all_goals go_ret2
  all_goals exact ⟨rfl, rfl⟩
end Go.Proofs.Ytofnbflkhgammaa
