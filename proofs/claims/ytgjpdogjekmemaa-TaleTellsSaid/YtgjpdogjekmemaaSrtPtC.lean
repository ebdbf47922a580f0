/-
  slices.SortStableFunc at elements of type handoff/tale.Point: it is the stable sort.
  Conditions: none.
-/
import Derived.Test.YtgjpdogjekmemaaSrtPtB
namespace Go.Proofs.Ytgjpdogjekmemaa
open Go.RowKit
set_option linter.unusedVariables false
set_option linter.unusedSimpArgs false
set_option linter.unnecessarySimpa false
namespace Fl
set_option maxRecDepth 100000
set_option maxHeartbeats 4000000
section
variable {α : Type} {enc : α → List A} {key : α → Int} {fv : Value} {C : List Res}
theorem s_symCPt (CF : CmpFn Try.prog fv C enc key) (hz : ∀ x, (enc x).length = 3) (v : Value) (s : Nat) (IH : ∀ (l X A0 B0 Y : List α) (a m b : Nat), A0.length + B0.length ≤ s → l = X ++ A0 ++ B0 ++ Y → a = X.length → m = a + A0.length → b = m + B0.length → A0.length ≠ 0 → B0.length ≠ 0 → Ss.Srt key A0 → Ss.Srt key B0 → l.length ≤ 1000000 →
    Con Try.prog 93 [.c (.v v), .c (nI a), .c (nI m), .c (nI b), .c (.v fv)] (.row v 38 3 (l.map enc) :: C) (fun _ : Unit => (.tup [], .row v 38 3 ((X ++ Ss.mg key A0 B0 ++ Y).map enc) :: C))) (l X A0 B0 Y : List α) (a m b : Nat) (hs : A0.length + B0.length ≤ s + 1) (hl : l = X ++ A0 ++ B0 ++ Y) (ha : a = X.length) (hm : m = a + A0.length) (hb : b = m + B0.length) (nA : A0.length ≠ 0) (nB : B0.length ≠ 0) (sA : Ss.Srt key A0) (sB : Ss.Srt key B0) (hn : l.length ≤ 1000000) (h1 : A0.length ≠ 1) (h2 : B0.length ≠ 1) :
    Con Try.prog 93 [.c (.v v), .c (nI a), .c (nI m), .c (nI b), .c (.v fv)] (.row v 38 3 (l.map enc) :: C) (fun _ : Unit => (.tup [], .row v 38 3 ((X ++ Ss.mg key A0 B0 ++ Y).map enc) :: C)) := by
  have len : l.length = b + Y.length := by rw [hl]; simp; omega
  have w0 (_ : Unit) : IntKind.i64.wrap ((m : Int) - (a : Int)) = (A0.length : Int) := by rw [w64 (by omega) (by omega)]; omega
  have w1 (_ : Unit) : IntKind.i64.wrap ((b : Int) - (m : Int)) = (B0.length : Int) := by rw [w64 (by omega) (by omega)]; omega
  refine Con.intro Try.func93 rfl rfl rfl (fun ok e => ?_)
  have t0 : ((A0.length : Int) == 1) = false := by simp; omega
  have t9 : ((B0.length : Int) == 1) = false := by simp; omega
  obtain ⟨mid, hmid⟩ : ∃ mid, (a + b) / 2 = mid := ⟨_, rfl⟩
  obtain ⟨n, hn'⟩ : ∃ n, mid + m = n := ⟨_, rfl⟩
  obtain ⟨s0, r0, h0⟩ : ∃ s0 r0, m > mid ∧ s0 = n - b ∧ r0 = mid ∨ ¬ m > mid ∧ s0 = a ∧ r0 = m := by
    by_cases c : m > mid
    · exact ⟨_, _, .inl ⟨c, rfl, rfl⟩⟩
    · exact ⟨_, _, .inr ⟨c, rfl, rfl⟩⟩
  generalize hp : (fun c => !decide (Ss.ky key l (n - 1 - c) < Ss.ky key l c)) = p
  obtain ⟨A1, A2, B1, B2, eA, eB, k1, k2, k3, k4, k5⟩ := Ss.parts X A0 B0 Y a m b ha hm hb sA sB (by rintro rfl; exact nA rfl) (by rintro rfl; exact nB rfl) mid n s0 r0 hmid.symm hn'.symm h0 p (fun c _ _ => by rw [← hp, ← hl])
  have lA : A0.length = A1.length + A2.length := by rw [eA, List.length_append]
  have lB : B0.length = B1.length + B2.length := by rw [eB, List.length_append]
  have sA' := eA ▸ sA
  have sB' := eB ▸ sB
  have em : Ss.mg key A0 B0 = Ss.mg key A1 B1 ++ Ss.mg key A2 B2 := by rw [eA, eB]; exact Ss.mg_parts k4 k5
  rw [em]
  have w2 (_ : Unit) : IntKind.i64.wrap ((a : Int) + (b : Int)) = ((a + b : Nat) : Int) := s_half (by omega)
  have w3 (_ : Unit) : IntKind.u64.wrap ((a + b : Nat) : Int) = ((a + b : Nat) : Int) := s_u64 (by omega)
  have w4 (_ : Unit) : IntKind.i64.wrap (((a + b) / 2 : Nat) : Int) = (mid : Int) := by rw [hmid]; exact w64 (by omega) (by omega)
  have w5 (_ : Unit) : IntKind.i64.wrap ((mid : Int) + (m : Int)) = (n : Int) := by rw [s_half (by omega), hn']
  have w6 (_ : Unit) : IntKind.i64.wrap ((n : Int) - (b : Int)) = (n : Int) - (b : Int) := w64 (by omega) (by omega)
  have w7 (_ : Unit) : IntKind.i64.wrap ((n : Int) - 1) = ((n - 1 : Nat) : Int) := by rw [w64 (by omega) (by omega)]; omega
  have hh : a + b ≤ 4000000 := by omega
  obtain ⟨g, hg⟩ : ∃ g, decide ((m : Int) > (mid : Int)) = g := ⟨_, rfl⟩
  repeat (first
      | (refine K.move ?_; refine JO.q rfl rfl (Nat.le_of_ble_eq_true rfl) (Qt.move rfl) ?_)
      | (refine K.assign ?_; refine JO.q rfl rfl (Nat.le_of_ble_eq_true rfl) (Qt.assign rfl) ?_)
      | (refine K.binOp ?_; first | refine JO.q rfl rfl (Nat.le_of_ble_eq_true rfl) (Qt.cmp rfl rfl (congrArg some t0)) ?_ | refine JO.q rfl rfl (Nat.le_of_ble_eq_true rfl) (Qt.cmp rfl rfl (congrArg some t9)) ?_ | refine JO.q rfl rfl (Nat.le_of_ble_eq_true rfl) (Qt.cmp rfl rfl (congrArg some hg)) ?_ | refine JO.q rfl rfl (Nat.le_of_ble_eq_true rfl) ((Qt.ari rfl rfl rfl (w0 ()))) ?_ | refine JO.q rfl rfl (Nat.le_of_ble_eq_true rfl) ((Qt.ari rfl rfl rfl (w1 ()))) ?_ | refine JO.q rfl rfl (Nat.le_of_ble_eq_true rfl) ((Qt.ari rfl rfl rfl (w2 ()))) ?_ | refine JO.q rfl rfl (Nat.le_of_ble_eq_true rfl) (Qt.bin rfl rfl (fun w => s_shr hh)) ?_ | refine JO.q rfl rfl (Nat.le_of_ble_eq_true rfl) ((Qt.ari rfl rfl rfl (w5 ()))) ?_)
      | (refine K.convert ?_; first | refine JO.q rfl rfl (Nat.le_of_ble_eq_true rfl) (Qt.conv rfl (w3 ())) ?_ | refine JO.q rfl rfl (Nat.le_of_ble_eq_true rfl) (Qt.conv rfl (w4 ())) ?_)
      | refine JO.nil ?_
      | refine J.seq ?_
      | refine J.region ?_
      | refine J.skip ?_
      | refine J.cond_f rfl ?_)
  refine J.joinS (ι := Unit) (fun _ => [(20, .c (nI s0)), (21, .c (nI r0)), (18, .c (nI mid)), (19, .c (nI n)), (0, .c (.v v)), (1, .c (nI a)), (2, .c (nI m)), (3, .c (nI b)), (4, .c (.v fv))]) (fun _ => .row v 38 3 (l.map enc) :: C) (fun _ => ?_) (fun KK rest => ?_)
  rotate_left
  · rcases h0 with ⟨c, rfl, rfl⟩ | ⟨c, rfl, rfl⟩
    · obtain rfl : g = true := by rw [← hg]; exact decide_eq_true (by omega)
      have w8 (_ : Unit) : IntKind.i64.wrap ((n : Int) - (b : Int)) = ((n - b : Nat) : Int) := by rw [w6 ()]; omega
      repeat (first
          | (refine K.move ?_; refine JO.q rfl rfl (Nat.le_of_ble_eq_true rfl) (Qt.move rfl) ?_)
          | (refine K.assign ?_; refine JO.q rfl rfl (Nat.le_of_ble_eq_true rfl) (Qt.assign rfl) ?_)
          | (refine K.binOp ?_; (refine JO.q rfl rfl (Nat.le_of_ble_eq_true rfl) ((Qt.ari rfl rfl rfl (w8 ()))) ?_))
          | refine JO.nil ?_
          | refine J.seq ?_
          | refine J.region ?_
          | refine J.cond_t rfl ?_)
      exact (rest ()).weak ⟨rfl, rfl, rfl, rfl, rfl, rfl, rfl, rfl, rfl, trivial⟩
    · obtain rfl : g = false := by rw [← hg]; exact decide_eq_false (by omega)
      repeat (first
          | (refine K.move ?_; refine JO.q rfl rfl (Nat.le_of_ble_eq_true rfl) (Qt.move rfl) ?_)
          | (refine K.assign ?_; refine JO.q rfl rfl (Nat.le_of_ble_eq_true rfl) (Qt.assign rfl) ?_)
          | refine JO.nil ?_
          | refine J.seq ?_
          | refine J.region ?_
          | refine J.cond_f rfl ?_)
      exact (rest ()).weak ⟨rfl, rfl, rfl, rfl, rfl, rfl, rfl, rfl, rfl, trivial⟩
  have hmb : a < mid ∧ mid < b := by omega
  have fc : s0 ≤ r0 ∧ r0 ≤ 1000000 ∧ n ≤ 2000000 := by omega
  have fd : ∀ c, s0 ≤ c → c < r0 → c < l.length ∧ n - 1 - c < l.length ∧ c + 1 ≤ n := by omega
  rw [k1] at k2
  have k2 : n = m + B1.length + (a + A1.length) := by omega
  clear h0 hmid hn' hg w6
  obtain ⟨fc1, fc2, fc3⟩ := fc
  repeat (first
      | (refine K.move ?_; refine JO.q rfl rfl (Nat.le_of_ble_eq_true rfl) (Qt.move rfl) ?_)
      | (refine K.assign ?_; refine JO.q rfl rfl (Nat.le_of_ble_eq_true rfl) (Qt.assign rfl) ?_)
      | (refine K.binOp ?_; (refine JO.q rfl rfl (Nat.le_of_ble_eq_true rfl) ((Qt.ari rfl rfl rfl (w7 ()))) ?_))
      | refine JO.nil ?_
      | refine J.seq ?_
      | refine J.region ?_
      | refine J.block ?_)
  refine J.loop (ι := { q : Nat × Nat // s0 ≤ q.1 ∧ q.1 ≤ q.2 ∧ q.2 ≤ r0 ∧ Ss.bs p q.1 q.2 = a + A1.length }) (fun q => [(20, .c (nI q.1.1)), (21, .c (nI q.1.2)), (22, .c (nI (n - 1 : Nat))), (18, .c (nI mid)), (19, .c (nI n)), (0, .c (.v v)), (1, .c (nI a)), (2, .c (nI m)), (3, .c (nI b)), (4, .c (.v fv))]) (fun q => .row v 38 3 (l.map enc) :: C) (fun q => q.1.2 - q.1.1) ⟨(s0, r0), Nat.le_refl _, fc1, Nat.le_refl _, k1⟩ (fun X h => h.weak ⟨rfl, rfl, rfl, rfl, rfl, rfl, rfl, rfl, rfl, rfl, trivial⟩) (fun q ih => ?_)
  obtain ⟨⟨i, j⟩, q1, q2, q3, q4⟩ := q
  simp only at q1 q2 q3 q4 ih ⊢
  by_cases hk : i < j
  · have t1 : decide ((i : Int) < (j : Int)) = true := decide_eq_true (by omega)
    obtain ⟨f1, f2, f3⟩ := fd ((i + j) / 2) (by omega) (by omega)
    obtain ⟨x, ax⟩ : ∃ x, l[(i + j) / 2]? = some x := ⟨_, List.getElem?_eq_getElem f1⟩
    obtain ⟨y, ay⟩ : ∃ y, l[n - 1 - (i + j) / 2]? = some y := ⟨_, List.getElem?_eq_getElem f2⟩
    have bx := s_at (enc := enc) ax
    have cx (_ : Unit) := s_lt' (enc := enc) ax
    have zx (_ : Unit) : (0 : Int) ≤ (((i + j) / 2 : Nat) : Int) := Int.natCast_nonneg _
    have by' := s_at (enc := enc) ay
    have cy (_ : Unit) := s_lt' (enc := enc) ay
    have zy (_ : Unit) : (0 : Int) ≤ ((n - 1 - (i + j) / 2 : Nat) : Int) := Int.natCast_nonneg _
    have py : p ((i + j) / 2) = !decide (key y < key x) := by rw [← hp]; simp only; rw [Ss.ky_some ax, Ss.ky_some ay]
    have v2 (_ : Unit) : IntKind.i64.wrap ((i : Int) + (j : Int)) = ((i + j : Nat) : Int) := s_half (by omega)
    have v3 (_ : Unit) : IntKind.u64.wrap ((i + j : Nat) : Int) = ((i + j : Nat) : Int) := s_u64 (by omega)
    have v4 (_ : Unit) : IntKind.i64.wrap (((i + j) / 2 : Nat) : Int) = (((i + j) / 2 : Nat) : Int) := w64 (by omega) (by omega)
    have v5 (_ : Unit) : IntKind.i64.wrap ((((i + j) / 2 : Nat) : Int) + 1) = (((i + j) / 2 + 1 : Nat) : Int) := by rw [w64 (by omega) (by omega)]; omega
    have v6 (_ : Unit) : IntKind.i64.wrap (((n - 1 : Nat) : Int) - (((i + j) / 2 : Nat) : Int)) = ((n - 1 - (i + j) / 2 : Nat) : Int) := by rw [w64 (by omega) (by omega)]; omega
    have hh' : i + j ≤ 4000000 := by omega
    repeat (first
        | (refine K.move ?_; refine JO.q rfl rfl (Nat.le_of_ble_eq_true rfl) (Qt.move rfl) ?_)
        | (refine K.assign ?_; refine JO.q rfl rfl (Nat.le_of_ble_eq_true rfl) (Qt.assign rfl) ?_)
        | (refine K.binOp ?_; first | refine JO.q rfl rfl (Nat.le_of_ble_eq_true rfl) (Qt.cmp rfl rfl (congrArg some t1)) ?_ | refine JO.q rfl rfl (Nat.le_of_ble_eq_true rfl) ((Qt.ari rfl rfl rfl (v2 ()))) ?_ | refine JO.q rfl rfl (Nat.le_of_ble_eq_true rfl) (Qt.bin rfl rfl (fun w => s_shr hh')) ?_)
        | (refine K.convert ?_; first | refine JO.q rfl rfl (Nat.le_of_ble_eq_true rfl) (Qt.conv rfl (v3 ())) ?_ | refine JO.q rfl rfl (Nat.le_of_ble_eq_true rfl) (Qt.conv rfl (v4 ())) ?_)
        | refine JO.nil ?_
        | refine J.seq ?_
        | refine J.region ?_
        | refine J.block ?_
        | refine J.skip ?_
        | refine J.cond_t rfl ?_)
    cases t3 : decide (key y < key x) with
    | true =>
      rw [t3] at py
      refine J.draw (by kernel_rfl) rfl ?_
      refine JW.base none ?_
      refine JD.take 0 rfl rfl (by kernel_rfl) rfl (Nat.le_of_ble_eq_true rfl) (Qt.move rfl) rfl ?_
      refine JD.take 1 rfl rfl (by kernel_rfl) rfl (Nat.le_of_ble_eq_true rfl) (Qt.move rfl) rfl ?_
      refine JD.take 2 rfl rfl (by kernel_rfl) rfl (Nat.le_of_ble_eq_true rfl) (Qt.move rfl) rfl ?_
      refine JD.take 3 rfl rfl (by kernel_rfl) rfl (Nat.le_of_ble_eq_true rfl) (Qt.move rfl) rfl ?_
      refine JD.take 4 rfl rfl (by kernel_rfl) rfl (Nat.le_of_ble_eq_true rfl) (Qt.ari rfl rfl rfl (v6 ())) rfl ?_
      refine JD.take 5 rfl rfl (by kernel_rfl) rfl (Nat.le_of_ble_eq_true rfl) (Qt.indexO rfl rfl (zy ()) (cy ())) rfl ?_
      refine JD.take 6 rfl rfl (by kernel_rfl) rfl (Nat.le_of_ble_eq_true rfl) (Qt.loadWo rfl by' (hz _)) rfl ?_
      refine JD.take 7 rfl rfl (by kernel_rfl) rfl (Nat.le_of_ble_eq_true rfl) (Qt.move rfl) rfl ?_
      refine JD.take 8 rfl rfl (by kernel_rfl) rfl (Nat.le_of_ble_eq_true rfl) (Qt.move rfl) rfl ?_
      refine JD.take 9 rfl rfl (by kernel_rfl) rfl (Nat.le_of_ble_eq_true rfl) (Qt.indexO rfl rfl (zx ()) (cx ())) rfl ?_
      refine JD.take 10 rfl rfl (by kernel_rfl) rfl (Nat.le_of_ble_eq_true rfl) (Qt.loadWo rfl bx (hz _)) rfl ?_
      refine JD.each1 (i := 11) (by kernel_rfl) ?_
      refine JS.loud rfl rfl rfl (Nat.le_of_ble_eq_true rfl) (Ld.cmpV CF y x ⟨[_], rfl⟩ (Nat.le_of_ble_eq_true rfl) rfl rfl rfl) (by (exact .none)) (fun _ => ?_)
      refine JD.each1 (i := 12) (by kernel_rfl) ?_
      refine JS.q rfl rfl rfl (Nat.le_of_ble_eq_true rfl) (Qt.cmp rfl rfl (congrArg some (cq_lt t3))) ?_
      refine JD.each1 (i := 13) (by kernel_rfl) ?_
      refine JS.q rfl rfl rfl (Nat.le_of_ble_eq_true rfl) (Qt.not rfl) ?_
      refine JD.done (by kernel_rfl) ?_
      repeat (first
          | (refine K.move ?_; refine JO.q rfl rfl (Nat.le_of_ble_eq_true rfl) (Qt.move rfl) ?_)
          | (refine K.assign ?_; refine JO.q rfl rfl (Nat.le_of_ble_eq_true rfl) (Qt.assign rfl) ?_)
          | refine JO.nil ?_
          | refine J.region ?_
          | refine J.inBlock ?_
          | refine J.cond_f rfl ?_)
      exact (ih ⟨(i, (i + j) / 2), q1, by simp only; omega, by simp only; omega, by simp only; rw [← Ss.bs_f hk py]; exact q4⟩ (by simp only; omega)).weak ⟨rfl, rfl, rfl, rfl, rfl, rfl, rfl, rfl, rfl, rfl, trivial⟩
    | false =>
      rw [t3] at py
      refine J.draw (by kernel_rfl) rfl ?_
      refine JW.base none ?_
      refine JD.take 0 rfl rfl (by kernel_rfl) rfl (Nat.le_of_ble_eq_true rfl) (Qt.move rfl) rfl ?_
      refine JD.take 1 rfl rfl (by kernel_rfl) rfl (Nat.le_of_ble_eq_true rfl) (Qt.move rfl) rfl ?_
      refine JD.take 2 rfl rfl (by kernel_rfl) rfl (Nat.le_of_ble_eq_true rfl) (Qt.move rfl) rfl ?_
      refine JD.take 3 rfl rfl (by kernel_rfl) rfl (Nat.le_of_ble_eq_true rfl) (Qt.move rfl) rfl ?_
      refine JD.take 4 rfl rfl (by kernel_rfl) rfl (Nat.le_of_ble_eq_true rfl) (Qt.ari rfl rfl rfl (v6 ())) rfl ?_
      refine JD.take 5 rfl rfl (by kernel_rfl) rfl (Nat.le_of_ble_eq_true rfl) (Qt.indexO rfl rfl (zy ()) (cy ())) rfl ?_
      refine JD.take 6 rfl rfl (by kernel_rfl) rfl (Nat.le_of_ble_eq_true rfl) (Qt.loadWo rfl by' (hz _)) rfl ?_
      refine JD.take 7 rfl rfl (by kernel_rfl) rfl (Nat.le_of_ble_eq_true rfl) (Qt.move rfl) rfl ?_
      refine JD.take 8 rfl rfl (by kernel_rfl) rfl (Nat.le_of_ble_eq_true rfl) (Qt.move rfl) rfl ?_
      refine JD.take 9 rfl rfl (by kernel_rfl) rfl (Nat.le_of_ble_eq_true rfl) (Qt.indexO rfl rfl (zx ()) (cx ())) rfl ?_
      refine JD.take 10 rfl rfl (by kernel_rfl) rfl (Nat.le_of_ble_eq_true rfl) (Qt.loadWo rfl bx (hz _)) rfl ?_
      refine JD.each1 (i := 11) (by kernel_rfl) ?_
      refine JS.loud rfl rfl rfl (Nat.le_of_ble_eq_true rfl) (Ld.cmpV CF y x ⟨[_], rfl⟩ (Nat.le_of_ble_eq_true rfl) rfl rfl rfl) (by (exact .none)) (fun _ => ?_)
      refine JD.each1 (i := 12) (by kernel_rfl) ?_
      refine JS.q rfl rfl rfl (Nat.le_of_ble_eq_true rfl) (Qt.cmp rfl rfl (congrArg some (cq_lt t3))) ?_
      refine JD.each1 (i := 13) (by kernel_rfl) ?_
      refine JS.q rfl rfl rfl (Nat.le_of_ble_eq_true rfl) (Qt.not rfl) ?_
      refine JD.done (by kernel_rfl) ?_
      repeat (first
          | (refine K.move ?_; refine JO.q rfl rfl (Nat.le_of_ble_eq_true rfl) (Qt.move rfl) ?_)
          | (refine K.assign ?_; refine JO.q rfl rfl (Nat.le_of_ble_eq_true rfl) (Qt.assign rfl) ?_)
          | (refine K.binOp ?_; (refine JO.q rfl rfl (Nat.le_of_ble_eq_true rfl) ((Qt.ari rfl rfl rfl (v5 ()))) ?_))
          | refine JO.nil ?_
          | refine J.region ?_
          | refine J.inBlock ?_
          | refine J.cond_t rfl ?_)
      exact (ih ⟨((i + j) / 2 + 1, j), by simp only; omega, by simp only; omega, q3, by simp only; rw [← Ss.bs_t hk py]; exact q4⟩ (by simp only; omega)).weak ⟨rfl, rfl, rfl, rfl, rfl, rfl, rfl, rfl, rfl, rfl, trivial⟩
  · have t1 : decide ((i : Int) < (j : Int)) = false := decide_eq_false (by omega)
    rw [Ss.bs_e hk] at q4
    subst q4
    clear ih q1 q2 q3 hk hp k1 fd
    have el : l = X ++ A1 ++ A2 ++ B1 ++ B2 ++ Y := by rw [hl, eA, eB]; simp
    have v2 (_ : Unit) : IntKind.i64.wrap ((n : Int) - ((a + A1.length : Nat) : Int)) = ((m + B1.length : Nat) : Int) := by rw [w64 (by omega) (by omega)]; omega
    obtain ⟨g1, hg1⟩ : ∃ g, decide (((a + A1.length : Nat) : Int) < (m : Int)) = g := ⟨_, rfl⟩
    obtain ⟨g2, hg2⟩ : ∃ g, decide ((m : Int) < ((m + B1.length : Nat) : Int)) = g := ⟨_, rfl⟩
    obtain ⟨g3, hg3⟩ : ∃ g, decide ((a : Int) < ((a + A1.length : Nat) : Int)) = g := ⟨_, rfl⟩
    obtain ⟨g4, hg4⟩ : ∃ g, decide (((a + A1.length : Nat) : Int) < (mid : Int)) = g := ⟨_, rfl⟩
    obtain ⟨g5, hg5⟩ : ∃ g, decide ((mid : Int) < ((m + B1.length : Nat) : Int)) = g := ⟨_, rfl⟩
    obtain ⟨g6, hg6⟩ : ∃ g, decide (((m + B1.length : Nat) : Int) < (b : Int)) = g := ⟨_, rfl⟩
    repeat (first
        | (refine K.move ?_; refine JO.q rfl rfl (Nat.le_of_ble_eq_true rfl) (Qt.move rfl) ?_)
        | (refine K.assign ?_; refine JO.q rfl rfl (Nat.le_of_ble_eq_true rfl) (Qt.assign rfl) ?_)
        | (refine K.binOp ?_; first | refine JO.q rfl rfl (Nat.le_of_ble_eq_true rfl) (Qt.cmp rfl rfl (congrArg some t1)) ?_ | refine JO.q rfl rfl (Nat.le_of_ble_eq_true rfl) ((Qt.ari rfl rfl rfl (v2 ()))) ?_ | refine JO.q rfl rfl (Nat.le_of_ble_eq_true rfl) (Qt.cmp rfl rfl (congrArg some hg1)) ?_)
        | refine JO.nil ?_
        | refine J.seq ?_
        | refine J.region ?_
        | refine J.exit rfl ?_
        | refine J.cond_f rfl ?_)
    refine JO.joinS (ι := Unit) (fun _ => [(24, .c (nI (m + B1.length : Nat))), (20, .c (nI (a + A1.length : Nat))), (18, .c (nI mid)), (0, .c (.v v)), (1, .c (nI a)), (2, .c (nI m)), (3, .c (nI b)), (4, .c (.v fv))]) (fun _ => .row v 38 3 ((X ++ A1 ++ B1 ++ A2 ++ B2 ++ Y).map enc) :: C) (fun _ => ?_) (fun KK rest => ?_)
    rotate_left
    · cases g1 with
      | true =>
        cases g2 with
        | true =>
          have r1 := of_decide_eq_true hg1
          have r2 := of_decide_eq_true hg2
          have CR := s_rotPt (fv := fv) hz v l (X ++ A1) A2 B1 (B2 ++ Y) (a + A1.length) m (m + B1.length) (by rw [el]; simp) (by simp; omega) (by omega) rfl (by omega) (by omega) hn
          repeat (first
              | (refine K.move ?_; refine JO.q rfl rfl (Nat.le_of_ble_eq_true rfl) (Qt.move rfl) ?_)
              | (refine K.binOp ?_; (refine JO.q rfl rfl (Nat.le_of_ble_eq_true rfl) (Qt.cmp rfl rfl (congrArg some hg2)) ?_))
              | (refine K.call ?_; (refine JO.ld (Ld.callT (CR) (Nat.le_of_ble_eq_true rfl) rfl (.cons .refl (.cons .refl (.cons .refl (.cons .refl (.cons .refl .nil)))))) rfl (fun _ => ?_)))
              | (refine K.pick ?_; refine JO.q rfl rfl (Nat.le_of_ble_eq_true rfl) (Qt.pick rfl rfl) ?_)
              | refine JO.nil ?_
              | refine J.region ?_
              | refine J.cond_t rfl ?_)
          refine J.congL ?_ ((rest ()).weak ⟨rfl, rfl, rfl, rfl, rfl, rfl, rfl, rfl, trivial⟩)
          simp
        | false =>
          have r2 := of_decide_eq_false hg2
          have r3 : B1 = [] := List.length_eq_zero_iff.1 (by omega)
          repeat (first
              | (refine K.move ?_; refine JO.q rfl rfl (Nat.le_of_ble_eq_true rfl) (Qt.move rfl) ?_)
              | (refine K.binOp ?_; (refine JO.q rfl rfl (Nat.le_of_ble_eq_true rfl) (Qt.cmp rfl rfl (congrArg some hg2)) ?_))
              | (refine K.pick ?_; refine JO.q rfl rfl (Nat.le_of_ble_eq_true rfl) (Qt.pick rfl rfl) ?_)
              | refine JO.nil ?_
              | refine J.skip ?_
              | refine J.cond_f rfl ?_)
          refine J.congL ?_ ((rest ()).weak ⟨rfl, rfl, rfl, rfl, rfl, rfl, rfl, rfl, trivial⟩)
          rw [el, r3]; simp
      | false =>
        have r1 := of_decide_eq_false hg1
        have r3 : A2 = [] := List.length_eq_zero_iff.1 (by omega)
        repeat (first
            | (refine K.pick ?_; refine JO.q rfl rfl (Nat.le_of_ble_eq_true rfl) (Qt.pick rfl rfl) ?_)
            | refine JO.nil ?_
            | refine J.skip ?_
            | refine J.cond_f rfl ?_
            | refine JO.no rfl rfl (Nat.le_of_ble_eq_true rfl) ?_)
        refine J.congL ?_ ((rest ()).weak ⟨rfl, rfl, rfl, rfl, rfl, rfl, rfl, rfl, trivial⟩)
        rw [el, r3]; simp
    have ln1 : (X ++ A1 ++ B1 ++ A2 ++ B2 ++ Y).length ≤ 1000000 := by
      have : (X ++ A1 ++ B1 ++ A2 ++ B2 ++ Y).length = l.length := by rw [el]; simp; omega
      omega
    have ln2 : (X ++ Ss.mg key A1 B1 ++ A2 ++ B2 ++ Y).length ≤ 1000000 := by
      simp only [List.length_append, Ss.mg_length] at ln1 ⊢; omega
    clear hl el hg1 hg2
    repeat (first
        | (refine K.move ?_; refine JO.q rfl rfl (Nat.le_of_ble_eq_true rfl) (Qt.move rfl) ?_)
        | (refine K.binOp ?_; (refine JO.q rfl rfl (Nat.le_of_ble_eq_true rfl) (Qt.cmp rfl rfl (congrArg some hg3)) ?_))
        | refine J.seq ?_
        | refine J.region ?_)
    refine JO.joinS (ι := Unit) (fun _ => [(24, .c (nI (m + B1.length : Nat))), (18, .c (nI mid)), (0, .c (.v v)), (3, .c (nI b)), (4, .c (.v fv))]) (fun _ => .row v 38 3 ((X ++ Ss.mg key A1 B1 ++ A2 ++ B2 ++ Y).map enc) :: C) (fun _ => ?_) (fun KK rest => ?_)
    rotate_left
    · cases g3 with
      | true =>
        cases g4 with
        | true =>
          have r1 := of_decide_eq_true hg3
          have r2 := of_decide_eq_true hg4
          have CR := IH (X ++ A1 ++ B1 ++ A2 ++ B2 ++ Y) X A1 B1 (A2 ++ B2 ++ Y) a (a + A1.length) mid (by omega) (by simp) ha rfl (by omega) (by omega) (by omega) sA'.left sB'.left ln1
          repeat (first
              | (refine K.move ?_; refine JO.q rfl rfl (Nat.le_of_ble_eq_true rfl) (Qt.move rfl) ?_)
              | (refine K.binOp ?_; (refine JO.q rfl rfl (Nat.le_of_ble_eq_true rfl) (Qt.cmp rfl rfl (congrArg some hg4)) ?_))
              | (refine K.call ?_; (refine JO.ld (Ld.callA (CR) (Nat.le_of_ble_eq_true rfl) rfl (.cons .refl (.cons .refl (.cons .refl (.cons .refl (.cons .refl .nil)))))) rfl (fun _ => ?_)))
              | (refine K.pick ?_; refine JO.q rfl rfl (Nat.le_of_ble_eq_true rfl) (Qt.pick rfl rfl) ?_)
              | refine JO.nil ?_
              | refine J.region ?_
              | refine J.cond_t rfl ?_)
          refine J.congL ?_ ((rest ()).weak ⟨rfl, rfl, rfl, rfl, rfl, trivial⟩)
          simp
        | false =>
          have r2 := of_decide_eq_false hg4
          have r3 : B1 = [] := List.length_eq_zero_iff.1 (by omega)
          repeat (first
              | (refine K.move ?_; refine JO.q rfl rfl (Nat.le_of_ble_eq_true rfl) (Qt.move rfl) ?_)
              | (refine K.binOp ?_; (refine JO.q rfl rfl (Nat.le_of_ble_eq_true rfl) (Qt.cmp rfl rfl (congrArg some hg4)) ?_))
              | (refine K.pick ?_; refine JO.q rfl rfl (Nat.le_of_ble_eq_true rfl) (Qt.pick rfl rfl) ?_)
              | refine JO.nil ?_
              | refine J.skip ?_
              | refine J.cond_f rfl ?_)
          refine J.congL ?_ ((rest ()).weak ⟨rfl, rfl, rfl, rfl, rfl, trivial⟩)
          rw [r3, Ss.mg_nilR]; simp
      | false =>
        have r1 := of_decide_eq_false hg3
        have r3 : A1 = [] := List.length_eq_zero_iff.1 (by omega)
        repeat (first
            | (refine K.pick ?_; refine JO.q rfl rfl (Nat.le_of_ble_eq_true rfl) (Qt.pick rfl rfl) ?_)
            | refine JO.nil ?_
            | refine J.skip ?_
            | refine J.cond_f rfl ?_
            | refine JO.no rfl rfl (Nat.le_of_ble_eq_true rfl) ?_)
        refine J.congL ?_ ((rest ()).weak ⟨rfl, rfl, rfl, rfl, rfl, trivial⟩)
        rw [r3, Ss.mg_nilL]; simp
    have lm := Ss.mg_length (key := key) A1 B1
    cases g5 with
    | true =>
      cases g6 with
      | true =>
        have r1 := of_decide_eq_true hg5
        have r2 := of_decide_eq_true hg6
        have CR := IH (X ++ Ss.mg key A1 B1 ++ A2 ++ B2 ++ Y) (X ++ Ss.mg key A1 B1) A2 B2 Y mid (m + B1.length) b (by omega) rfl (by rw [List.length_append, lm]; omega) (by omega) (by omega) (by omega) (by omega) sA'.right sB'.right ln2
        repeat (first
            | (refine K.move ?_; refine JO.q rfl rfl (Nat.le_of_ble_eq_true rfl) (Qt.move rfl) ?_)
            | (refine K.binOp ?_; first | refine JO.q rfl rfl (Nat.le_of_ble_eq_true rfl) (Qt.cmp rfl rfl (congrArg some hg5)) ?_ | refine JO.q rfl rfl (Nat.le_of_ble_eq_true rfl) (Qt.cmp rfl rfl (congrArg some hg6)) ?_)
            | (refine K.call ?_; (refine JO.ld (Ld.callA (CR) (Nat.le_of_ble_eq_true rfl) rfl (.cons .refl (.cons .refl (.cons .refl (.cons .refl (.cons .refl .nil)))))) rfl (fun _ => ?_)))
            | (refine K.pick ?_; refine JO.q rfl rfl (Nat.le_of_ble_eq_true rfl) (Qt.pick rfl rfl) ?_)
            | refine JO.nil ?_
            | refine J.seq ?_
            | refine J.region ?_
            | refine J.cond_t rfl ?_)
        refine J.congL (L' := .row v 38 3 ((X ++ (Ss.mg key A1 B1 ++ Ss.mg key A2 B2) ++ Y).map enc) :: C) (by simp) ?_
        (exact J.finA Try.func93 rfl .nil () (by (exact .refl)) rfl)
      | false =>
        have r2 := of_decide_eq_false hg6
        have r3 : B2 = [] := List.length_eq_zero_iff.1 (by omega)
        repeat (first
            | (refine K.move ?_; refine JO.q rfl rfl (Nat.le_of_ble_eq_true rfl) (Qt.move rfl) ?_)
            | (refine K.binOp ?_; first | refine JO.q rfl rfl (Nat.le_of_ble_eq_true rfl) (Qt.cmp rfl rfl (congrArg some hg5)) ?_ | refine JO.q rfl rfl (Nat.le_of_ble_eq_true rfl) (Qt.cmp rfl rfl (congrArg some hg6)) ?_)
            | (refine K.pick ?_; refine JO.q rfl rfl (Nat.le_of_ble_eq_true rfl) (Qt.pick rfl rfl) ?_)
            | refine JO.nil ?_
            | refine J.seq ?_
            | refine J.region ?_
            | refine J.skip ?_
            | refine J.cond_f rfl ?_)
        refine J.congL (L' := .row v 38 3 ((X ++ (Ss.mg key A1 B1 ++ Ss.mg key A2 B2) ++ Y).map enc) :: C) (by rw [r3, Ss.mg_nilR]; simp) ?_
        (exact J.finA Try.func93 rfl .nil () (by (exact .refl)) rfl)
    | false =>
      have r1 := of_decide_eq_false hg5
      have r3 : A2 = [] := List.length_eq_zero_iff.1 (by omega)
      repeat (first
          | (refine K.move ?_; refine JO.q rfl rfl (Nat.le_of_ble_eq_true rfl) (Qt.move rfl) ?_)
          | (refine K.binOp ?_; (refine JO.q rfl rfl (Nat.le_of_ble_eq_true rfl) (Qt.cmp rfl rfl (congrArg some hg5)) ?_))
          | (refine K.pick ?_; refine JO.q rfl rfl (Nat.le_of_ble_eq_true rfl) (Qt.pick rfl rfl) ?_)
          | refine JO.nil ?_
          | refine J.seq ?_
          | refine J.region ?_
          | refine J.skip ?_
          | refine J.cond_f rfl ?_
          | refine JO.no rfl rfl (Nat.le_of_ble_eq_true rfl) ?_)
      refine J.congL (L' := .row v 38 3 ((X ++ (Ss.mg key A1 B1 ++ Ss.mg key A2 B2) ++ Y).map enc) :: C) (by rw [r3, Ss.mg_nilL]; simp) ?_
      (exact J.finA Try.func93 rfl .nil () (by (exact .refl)) rfl)
theorem s_symPt (CF : CmpFn Try.prog fv C enc key) (hz : ∀ x, (enc x).length = 3) (v : Value) : ∀ (s : Nat) (l X A0 B0 Y : List α) (a m b : Nat), A0.length + B0.length ≤ s → l = X ++ A0 ++ B0 ++ Y → a = X.length → m = a + A0.length → b = m + B0.length → A0.length ≠ 0 → B0.length ≠ 0 → Ss.Srt key A0 → Ss.Srt key B0 → l.length ≤ 1000000 →
    Con Try.prog 93 [.c (.v v), .c (nI a), .c (nI m), .c (nI b), .c (.v fv)] (.row v 38 3 (l.map enc) :: C) (fun _ : Unit => (.tup [], .row v 38 3 ((X ++ Ss.mg key A0 B0 ++ Y).map enc) :: C))
  | 0, l, X, A0, B0, Y, a, m, b, hs, hl, ha, hm, hb, nA, nB, sA, sB, hn => by omega
  | s + 1, l, X, A0, B0, Y, a, m, b, hs, hl, ha, hm, hb, nA, nB, sA, sB, hn => by
    by_cases h1 : A0.length = 1
    · exact s_symAPt CF hz v l X A0 B0 Y a m b hl ha hm hb nA nB sA sB hn h1
    · by_cases h2 : B0.length = 1
      · exact s_symBPt CF hz v l X A0 B0 Y a m b hl ha hm hb nA nB sA sB hn h1 h2
      · exact s_symCPt CF hz v s (s_symPt CF hz v s) l X A0 B0 Y a m b hs hl ha hm hb nA nB sA sB hn h1 h2
end
end Fl
end Go.Proofs.Ytgjpdogjekmemaa
