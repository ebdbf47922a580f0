/-
  The law PoolRuns: its walk.
  Conditions: none.
-/
import Derived.Test.YtonkbenmafapgaaPoolSame
namespace Go.Proofs.Ytonkbenmafapgaa
open Go.RowKit
set_option linter.unusedVariables false
set_option linter.unusedSimpArgs false
set_option linter.unnecessarySimpa false
attribute [local go_sem ↓] Go.wp_at_zero Go.wp_at_succ

/-- the two pools between two acts -/
def POQ (w : World) (b bw N T mo : Nat) (wr : World) (s : Po.St) (S R : List Nat) (vc vm : Value) : Prop :=
  PS wr (.pointer (some ⟨b, 0, none⟩)) N mo s S ∧ Po.Inv N mo s ∧ s.C.length = T ∧ Fresh w wr S ∧ RP wr vc vm s.C s.M R ∧ (∀ x ∈ S, x ∉ R) ∧
    Blk wr bw [.int .i64 N, .int .i64 mo, vc, vm, .int .i64 s.f] 38 ∧ bw ∉ S ∧ bw ∉ R ∧ w.heap.size ≤ bw
def POQe (w : World) (b bw N T mo : Nat) (wr : World) : Prop := ∃ s S R vc vm, POQ w b bw N T mo wr s S R vc vm
theorem POQ.then {w wr w2 : World} {b bw N T mo : Nat} {s : Po.St} {S R : List Nat} {vc vm : Value} (h : POQ w b bw N T mo wr s S R vc vm) (k : Keeps [] wr w2) : POQ w b bw N T mo w2 s S R vc vm := by
  obtain ⟨h1, h2, h3, h4, h5, h6, h7, h8, h9, h10⟩ := h
  exact ⟨h1.then k, h2, h3, h4.then k, h5.then k, h6, h7.keep k (by simp), h8, h9, h10⟩
/-- the document's pool has moved: its new value stands in bw -/
theorem POQ.ref {w wr w4 : World} {b bw N T mo : Nat} {s s' : Po.St} {S R R' : List Nat} {vc vm vc' vm' : Value} (h : POQ w b bw N T mo wr s S R vc vm) (k : Keeps [] wr w4) (hr : RP w4 vc' vm' s'.C s'.M R') (hR : ∀ x ∈ R', x ∈ R ∨ wr.heap.size ≤ x) (o : Obj) :
    let W := ((((((w4.alloc o).setCell ⟨bw, 0, none⟩ (.int .i64 N)).setCell ⟨bw, 1, none⟩ (.int .i64 mo)).setCell ⟨bw, 2, none⟩ vc').setCell ⟨bw, 3, none⟩ vm').setCell ⟨bw, 4, none⟩ (.int .i64 s'.f))
    PS W (.pointer (some ⟨b, 0, none⟩)) N mo s S ∧ Fresh w W S ∧ RP W vc' vm' s'.C s'.M R' ∧ (∀ x ∈ S, x ∉ R') ∧ Blk W bw [.int .i64 N, .int .i64 mo, vc', vm', .int .i64 s'.f] 38 ∧ bw ∉ R' ∧ (∀ x ∈ R', x < W.heap.size) := by
  obtain ⟨h1, h2, h3, h4, h5, h6, h7, h8, h9, h10⟩ := h
  have k4 : Keeps [] wr (w4.alloc o) := k.alloc o
  have kc := keeps5 (w4.alloc o) bw (.int .i64 N) (.int .i64 mo) vc' vm' (.int .i64 s'.f)
  have hbR : bw ∉ R' := fun h => by
    rcases hR bw h with h | h
    · exact h9 h
    · have := h7.lt; omega
  have hSR : ∀ x ∈ S, x ∉ R' := fun x hx h => by
    rcases hR x h with h | h
    · exact h6 x hx h
    · have := h1.lt x hx; omega
  have hr2 : RP (w4.alloc o) vc' vm' s'.C s'.M R' := hr.then ((Keeps.refl [] w4).alloc o)
  have hr3 := hr2.keep kc (fun x hx h => by simp at h; subst h; exact hbR hx)
  refine ⟨(h1.then k4).keep kc (fun x hx h => by simp at h; subst h; exact h8 hx), ⟨(h4.1.then k4).trans kc (fun x hx => .inr (by simp at hx; omega)), h4.2⟩, hr3, hSR, ?_, hbR, hr3.1.lt⟩
  have := (((((h7.keep k4 (by simp)).set 0 (.int .i64 N)).set 1 (.int .i64 mo)).set 2 vc').set 3 vm').set 4 (.int .i64 s'.f)
  simpa using this

theorem POQ.done {w W w6 : World} {b bw N T mo : Nat} {s' : Po.St} {S S6 R' : List Nat} {vc' vm' : Value} (hf : Fresh w W S) (hr : RP W vc' vm' s'.C s'.M R') (hSR : ∀ x ∈ S, x ∉ R')
    (hb : Blk W bw [.int .i64 N, .int .i64 mo, vc', vm', .int .i64 s'.f] 38) (hbS : bw ∉ S) (hbR : bw ∉ R') (hwb : w.heap.size ≤ bw)
    (h6 : PS w6 (.pointer (some ⟨b, 0, none⟩)) N mo s' S6) (k6 : Keeps S W w6) (s6 : ∀ x ∈ S6, x ∈ S ∨ W.heap.size ≤ x) (iv : Po.Inv N mo s') (hC : s'.C.length = T) : POQ w b bw N T mo w6 s' S6 R' vc' vm' := by
  refine ⟨h6, iv, hC, hf.step k6 s6, hr.keep k6 (fun x hx hS => hSR x hS hx), fun x hx hR => ?_, hb.keep k6 hbS, fun h => ?_, hbR, hwb⟩
  · rcases s6 x hx with h | h
    · exact hSR x h hR
    · have := hr.1.lt x hR; omega
  · rcases s6 bw h with h | h
    · exact hbS h
    · have := hb.lt; omega
theorem GV.made {w : World} {v : Value} {e : TypeId} {n : Nat} {T : List Nat} (h : Row w v e 1 n (List.replicate n (.slice none 0 0)) T) : GV intsE 1 w v (List.replicate n []) T := by
  refine ⟨List.replicate n (.slice none 0 0), T, by simpa using h.view, fun k a hk => ?_, fun x hx => hx, h.lt, fun y hy => ?_⟩
  · obtain ⟨hk1, rfl⟩ := List.getElem?_eq_some_iff.1 hk
    have hk2 : k < n := by simpa using hk1
    refine ⟨[], ⟨.slice none 0 0, ?_, ?_⟩, by simp⟩
    · apply List.ext_getElem?
      intro j
      by_cases hj : j < 1
      · have : j = 0 := by omega
        subst this
        rw [chunk_get (by omega)]
        simp [hk2]
      · rw [List.getElem?_eq_none (by unfold chunk; rw [List.length_take]; omega), List.getElem?_eq_none (by simp; omega)]
    · simp; exact IV.nil w
  · rw [(List.mem_replicate.1 hy).2]; rfl
theorem RP.shapes {w : World} {vc vm : Value} {C : List (List Int)} {M : List Int} {R : List Nat} (h : RP w vc vm C M R) : ∃ ac cc am cm, vc = .slice ac C.length cc ∧ vm = .slice am M.length cm := by
  obtain ⟨h1, U, h2, _⟩ := h
  obtain ⟨ac, cc, rfl⟩ := h1.shape
  obtain ⟨am, cm, rfl⟩ := h2.shape
  exact ⟨ac, cc, am, cm, rfl, rfl⟩

set_option maxRecDepth 100000 in
set_option maxHeartbeats 6400000 in
theorem poolRuns_walk (w : World) (a0 a1 a2 : Int) (w0 : (Lit.int .u8 a0).wf = true) (w1 : (Lit.int .u8 a1).wf = true) (w2 : (Lit.int .u8 a2).wf = true)
    (v : Value) (n : Nat) (xs : List Value) (S : List Nat) (hv : View w v 3 n xs S) (hx : ∀ k, k < n → ∀ (f : Nat) (q : Option IntKind), ([some .i64, some .i64, some .i64] : List (Option IntKind))[f]? = some q → ckOk q (xs.getD (k * 3 + f) undef)) :
    Calls Try.prog 4 #[.agg #[.int .u8 a0, .int .u8 a1, .int .u8 a2], v] w fun e w' => e = .returned (.bool true) ∧ Keeps [] w w' := by
  have b0 := wf8 w0
  have b1 := wf8 w1
  have b2 := wf8 w2
  clear w0 w1 w2
  obtain ⟨N, hN⟩ : ∃ N : Nat, a0 % 30 = (N : Int) := ⟨(a0 % 30).toNat, by omega⟩
  obtain ⟨T, hT⟩ : ∃ N : Nat, a1 % 9 = (N : Int) := ⟨(a1 % 9).toNat, by omega⟩
  obtain ⟨mo, hmo⟩ : ∃ N : Nat, 1 + a2 % 16 = (N : Int) := ⟨(1 + a2 % 16).toNat, by omega⟩
  have hN64 : N ≤ 30 := by omega
  have hT8 : T ≤ 8 := by omega
  have hm1 : 1 ≤ mo := by omega
  have hm2 : mo ≤ 16 := by omega
  have HOpen := Lib.hid (fun w' => pool_open w' a0 a1 a2 N T mo b0 b1 b2 hN hT hmo)
  have hm := hv.le
  unfold maxLen at hm
  obtain ⟨ao, cap, rfl⟩ := hv.shape
  have HX := Lib.hid hx
  have HV := Lib.hid hv
  clear hx hv b0 b1 b2 hN hT hmo
  cases hq1 : decide (200 < (n : Int)) with
  | true =>
    go_enter Try.func4, Try.ntmps4
    go_wp2_with fail
    refine (pool_alive _).mono ?_
    rintro e w1 ⟨rfl, k1⟩
    have hbx := (blk_new w [.int .u8 a0, .int .u8 a1, .int .u8 a2] 34 _ rfl).keep k1 (by simp)
    have c0 : w1.cell? ⟨w.heap.size, 0, none⟩ = some (.int .u8 a0) := hbx.cell 0
    have c1 : w1.cell? ⟨w.heap.size, 1, none⟩ = some (.int .u8 a1) := hbx.cell 1
    have c2 : w1.cell? ⟨w.heap.size, 2, none⟩ = some (.int .u8 a2) := hbx.cell 2
    have K1 := Lib.hid (((Keeps.refl [] w).alloc _).then k1)
    clear k1 hbx
    go_wp2_with fail
    refine (HOpen.out _).mono ?_
    rintro e w2 ⟨p, S2, g, rfl, f2, h2, r2, n2, t2⟩
    obtain ⟨b, rfl⟩ := h2.shape
    have F2 := Lib.hid f2
    clear f2 h2 r2 n2 t2
    go_wp2_with fail
    go_ret
    exact ⟨rfl, (K1.out.then F2.out.1).alloc _⟩
  | false =>
    have hn2 : n ≤ 200 := by simp at hq1; omega
    go_enter Try.func4, Try.ntmps4
    go_wp2_with fail
    refine (pool_alive _).mono ?_
    rintro e w1 ⟨rfl, k1⟩
    have hbx := (blk_new w [.int .u8 a0, .int .u8 a1, .int .u8 a2] 34 _ rfl).keep k1 (by simp)
    have c0 : w1.cell? ⟨w.heap.size, 0, none⟩ = some (.int .u8 a0) := hbx.cell 0
    have c1 : w1.cell? ⟨w.heap.size, 1, none⟩ = some (.int .u8 a1) := hbx.cell 1
    have c2 : w1.cell? ⟨w.heap.size, 2, none⟩ = some (.int .u8 a2) := hbx.cell 2
    have K1 := Lib.hid (((Keeps.refl [] w).alloc _).then k1)
    clear k1 hbx
    go_wp2_with fail
    refine (HOpen.out _).mono ?_
    rintro e w2 ⟨p, S2, g, rfl, f2, h2, r2, n2, t2⟩
    obtain ⟨b, rfl⟩ := h2.shape
    have F2 := Lib.hid f2
    have H2 := Lib.hid h2
    have HR2 := Lib.hid r2
    have HN2 := Lib.hid n2
    have HT2 := Lib.hid t2
    clear f2 h2 r2 n2 t2
    go_wp2_with fail
    have HB : Hid (POQe w b w2.heap.size N T mo (w2.alloc (.cells #[.int .i64 N, .int .i64 mo, .slice (some ⟨g, 0, none⟩) T T, .slice none 0 0, .int .i64 0] 38))) := Lib.hid (by
      have kk : Keeps [] w2 (w2.alloc (.cells #[.int .i64 N, .int .i64 mo, .slice (some ⟨g, 0, none⟩) T T, .slice none 0 0, .int .i64 0] 38)) := (Keeps.refl [] w2).alloc _
      have hlt := H2.out.lt
      have hsz := (K1.out.then F2.out.1).size
      have hsz1 := K1.out.size
      have hg := HR2.out.lt
      refine ⟨Po.new N T, S2, [g], _, _, H2.out.then kk, Po.new_inv N T mo (by omega) hm1 hm2, by simp [Po.new], ⟨(K1.out.then F2.out.1).then kk, fun k hk => by have := F2.out.2 k hk; omega⟩, ⟨(GV.made HR2.out).then intsE_kept kk, [], IV.nil _, by simp⟩, ?_, blk_new w2 _ _ _ rfl, ?_, ?_, hsz⟩
      · intro x hx h; simp at h; subst h; exact HN2.out hx
      · intro h; have := hlt _ h; omega
      · intro h; have := hg g (by simp); simp at h; omega)
    have HKF : Hid (Keeps [] w (w2.alloc (.cells #[.int .i64 N, .int .i64 mo, .slice (some ⟨g, 0, none⟩) T T, .slice none 0 0, .int .i64 0] 38))) := Lib.hid ((K1.out.then F2.out.1).alloc _)
    clear H2 F2 K1 c0 c1 c2 HR2 HN2 HT2
    generalize w2.heap.size = bw at *
    go_loopw [37] (fun i wr => ∃ k : Nat, k ≤ n ∧ i = .int .i64 k ∧ POQe w b bw N T mo wr) (fun i _ => n - (intOf i).toNat)
    case atStart => exact ⟨0, Nat.zero_le _, rfl, HB.out⟩
    case round =>
      obtain ⟨k, hk, rfl, s, S5, R5, vc, vm, hpor⟩ := hrel
      have HP := Lib.hid hpor
      obtain ⟨h1, h2, h3, h4, h5, h6, h7, h8, h9, h10⟩ := hpor
      obtain ⟨wo, rfl⟩ : ∃ wo : World, wo = wr := ⟨_, rfl⟩
      by_cases hlt : k < n
      · obtain ⟨gv, off, rfl, rfl, hgv, hc⟩ := HV.out.cell (by omega)
        have hlen := HV.out.len
        have c0 := View.at0 hlen hc hgv h4.1 (by simp) hlt (by decide)
        have c1 := View.at hlen hc hgv h4.1 (by simp) hlt (f := 1) (by decide)
        have c2 := View.at hlen hc hgv h4.1 (by simp) hlt (f := 2) (by decide)
        rw [show xs.getD (k * 3) undef = .int .i64 (num (xs.getD (k * 3) undef)) from (ck_int (HX.out k hlt 0 _ rfl)).1] at c0
        rw [(ck_int (HX.out k hlt 1 _ rfl)).1] at c1
        rw [(ck_int (HX.out k hlt 2 _ rfl)).1] at c2
        generalize num (xs.getD (k * 3) undef) = x0 at *
        generalize num (xs.getD (k * 3 + 1) undef) = x1 at *
        generalize num (xs.getD (k * 3 + 2) undef) = x2 at *
        have hC8 : s.C.length ≤ 1000 := by omega
        obtain ⟨ac, cc, am, cm, rfl, rfl⟩ := h5.shapes
        have HI := Lib.hid h2
        have hCT : Hid (s.C.length = T) := Lib.hid h3
        clear hc hlen h1 h2 h3 h4 h5 h6 h7 h8 h9 h10 HB
        go_upto_block 2 with fail
        go_cut [10] (fun _ w' => POQe w b bw N T mo w' ∧ Blk w' wo.heap.size [.int .i64 x0, .int .i64 x1, .int .i64 x2] 42)
        case first =>
          have hp4 := HP.out.then ((Keeps.refl [] wo).alloc (.cells #[.int .i64 x0, .int .i64 x1, .int .i64 x2] 42))
          have HB4 := Lib.hid (blk_new wo [.int .i64 x0, .int .i64 x1, .int .i64 x2] 42 _ rfl)
          have hS4 : wo.heap.size ∉ S5 := fun h => by have := HP.out.1.lt _ h; omega
          have hbw : bw ≠ wo.heap.size := by have := HP.out.2.2.2.2.2.2.1.lt; omega
          have hbw2 : wo.heap.size ≠ bw := fun h => hbw h.symm
          have HP4 := Lib.hid hp4
          obtain ⟨⟨b0, b1, b2, b3, b4⟩, f0, f1, f2, f3, f4⟩ := hp4.2.2.2.2.2.2.1.cells5
          clear hp4 HP
          cases h0 : (x0 == 0) with
          | true =>
            go_wp2_with fail
            refine (ref05_take _ N mo _ _ s R5 x1 HP4.out.2.2.2.2.1 HI.out hC8).mono ?_
            rintro e w4 ⟨vc4, vm4, R4, rfl, k4, r4, t4⟩
            obtain ⟨ac4, cc4, am4, cm4, rfl, rfl⟩ := r4.shapes
            obtain ⟨⟨p0, p1, p2, p3, p4⟩, q0, q1, q2, q3, q4⟩ := ((HP4.out.2.2.2.2.2.2.1.keep k4 (by simp)).alloc (.cells #[.int .i64 N, .int .i64 mo, .slice ac4 (Po.take N mo s x1).1.C.length cc4, .slice am4 (Po.take N mo s x1).1.M.length cm4, .int .i64 (Po.take N mo s x1).1.f] 38)).cells5
            have hbk := HB4.out.keep k4 (by simp)
            have d1 := (hbk.alloc (.cells #[.int .i64 N, .int .i64 mo, .slice ac4 (Po.take N mo s x1).1.C.length cc4, .slice am4 (Po.take N mo s x1).1.M.length cm4, .int .i64 (Po.take N mo s x1).1.f] 38)).cell 1
            simp only [List.getElem?_cons_succ, List.getElem?_cons_zero] at d1
            have HBK := Lib.hid hbk
            clear hbk
            have hrf := (HP4.out.ref (s' := (Po.take N mo s x1).1) k4 r4 t4 (.cells #[.int .i64 N, .int .i64 mo, .slice ac4 (Po.take N mo s x1).1.C.length cc4, .slice am4 (Po.take N mo s x1).1.M.length cm4, .int .i64 (Po.take N mo s x1).1.f] 38))
            dsimp only at hrf
            have HRf := Lib.hid hrf
            clear hrf k4 r4 t4 c0 c1 c2 b0 b1 b2 b3 b4 f0 f1 f2 f3 f4
            go_wp2_with fail
            refine (pool_take _ _ N mo s S5 x1 HRf.out.1 HI.out).mono ?_
            rintro e w6 ⟨rfl, S6, h6, k6, s6⟩
            have HD : Hid (POQe w b bw N T mo w6) := Lib.hid ⟨_, S6, R4, _, _, POQ.done HRf.out.2.1 HRf.out.2.2.1 HRf.out.2.2.2.1 HRf.out.2.2.2.2.1 HP4.out.2.2.2.2.2.2.2.1 HRf.out.2.2.2.2.2.1 HP4.out.2.2.2.2.2.2.2.2.2 h6 k6 s6 (HI.out.take x1) (by rw [Po.take_C]; exact hCT.out)⟩
            have HBA : Hid (Blk w6 wo.heap.size [.int .i64 x0, .int .i64 x1, .int .i64 x2] 42) := Lib.hid (((HBK.out.alloc _).keep (keeps5 _ bw _ _ _ _ _) (by simpa using hbw2)).keep k6 hS4)
            clear h6 k6 s6 d1 p0 p1 p2 p3 p4 q0 q1 q2 q3 q4
            generalize (Po.take N mo s x1).2.1 = y at *
            generalize (Po.take N mo s x1).2.2 = ok at *
            have hok : (ok != ok) = false := by cases ok <;> rfl
            go_wp2_with fail
            go_meet
            exact ⟨HD.out, HBA.out⟩
          | false =>
            cases h1 : (x0 == 1) with
            | true =>
              go_wp2_with fail
              refine (ref05_give _ N mo _ _ s R5 x1 x2 HP4.out.2.2.2.2.1 HI.out hC8).mono ?_
              rintro e w4 ⟨vc4, vm4, R4, rfl, k4, r4, t4⟩
              obtain ⟨ac4, cc4, am4, cm4, rfl, rfl⟩ := r4.shapes
              obtain ⟨⟨p0, p1, p2, p3, p4⟩, q0, q1, q2, q3, q4⟩ := ((HP4.out.2.2.2.2.2.2.1.keep k4 (by simp)).alloc (.cells #[.int .i64 N, .int .i64 mo, .slice ac4 (Po.give mo s x1 x2).1.C.length cc4, .slice am4 (Po.give mo s x1 x2).1.M.length cm4, .int .i64 (Po.give mo s x1 x2).1.f] 38)).cells5
              have hbk := HB4.out.keep k4 (by simp)
              have d1 := (hbk.alloc (.cells #[.int .i64 N, .int .i64 mo, .slice ac4 (Po.give mo s x1 x2).1.C.length cc4, .slice am4 (Po.give mo s x1 x2).1.M.length cm4, .int .i64 (Po.give mo s x1 x2).1.f] 38)).cell 1
              have d2 := (hbk.alloc (.cells #[.int .i64 N, .int .i64 mo, .slice ac4 (Po.give mo s x1 x2).1.C.length cc4, .slice am4 (Po.give mo s x1 x2).1.M.length cm4, .int .i64 (Po.give mo s x1 x2).1.f] 38)).cell 2
              simp only [List.getElem?_cons_succ, List.getElem?_cons_zero] at d1 d2
              have HBK := Lib.hid hbk
              clear hbk
              have hrf := (HP4.out.ref (s' := (Po.give mo s x1 x2).1) k4 r4 t4 (.cells #[.int .i64 N, .int .i64 mo, .slice ac4 (Po.give mo s x1 x2).1.C.length cc4, .slice am4 (Po.give mo s x1 x2).1.M.length cm4, .int .i64 (Po.give mo s x1 x2).1.f] 38))
              dsimp only at hrf
              have HRf := Lib.hid hrf
              clear hrf k4 r4 t4 c0 c1 c2 b0 b1 b2 b3 b4 f0 f1 f2 f3 f4
              go_wp2_with fail
              refine (pool_give _ _ N mo s S5 x1 x2 HRf.out.1 HI.out).mono ?_
              rintro e w6 ⟨rfl, S6, h6, k6, s6⟩
              have HD : Hid (POQe w b bw N T mo w6) := Lib.hid ⟨_, S6, R4, _, _, POQ.done HRf.out.2.1 HRf.out.2.2.1 HRf.out.2.2.2.1 HRf.out.2.2.2.2.1 HP4.out.2.2.2.2.2.2.2.1 HRf.out.2.2.2.2.2.1 HP4.out.2.2.2.2.2.2.2.2.2 h6 k6 s6 (HI.out.give x1 x2) (by rw [Po.give_C]; exact hCT.out)⟩
              have HBA : Hid (Blk w6 wo.heap.size [.int .i64 x0, .int .i64 x1, .int .i64 x2] 42) := Lib.hid (((HBK.out.alloc _).keep (keeps5 _ bw _ _ _ _ _) (by simpa using hbw2)).keep k6 hS4)
              clear h6 k6 s6 d1 d2 p0 p1 p2 p3 p4 q0 q1 q2 q3 q4
              generalize (Po.give mo s x1 x2).2 = ok at *
              have hok : (ok != ok) = false := by cases ok <;> rfl
              go_wp2_with fail
              go_meet
              exact ⟨HD.out, HBA.out⟩
            | false =>
              go_wp2_with fail
              go_meet
              exact ⟨⟨s, S5, R5, _, _, HP4.out⟩, HB4.out⟩
        case rest =>
          obtain ⟨⟨s2, S7, R7, vc7, vm7, hp⟩, hba⟩ := hcut
          have HP7 := Lib.hid hp
          obtain ⟨ac7, cc7, am7, cm7, rfl, rfl⟩ := hp.2.2.2.2.1.shapes
          have hiv := hp.2.1
          have HI7 := Lib.hid hiv
          have hl7 := hiv.lens
          have hM1k : s2.M.length ≤ 1000 := by omega
          have hF1k : s2.C.flatten.length ≤ 1000 := by omega
          have hfH : (s2.f : Int) ≤ (s2.H.length : Int) := by have := hiv.fl; have := hiv.hl; omega
          have HPS : Hid (∀ w', Keeps [] wc w' → PS w' (.pointer (some ⟨b, 0, none⟩)) N mo s2 S7) := Lib.hid (fun w' k => hp.1.then k)
          have HPl : Hid (∀ w', Keeps [] wc w' → Pl w' (.pointer (some ⟨b, 0, none⟩)) N mo s2.C s2.M s2.f s2.H S7) := Lib.hid (fun w' k => hp.1.then k)
          have HRP : Hid (∀ w', Keeps [] wc w' → RP w' (.slice ac7 s2.C.length cc7) (.slice am7 s2.M.length cm7) s2.C s2.M R7) := Lib.hid (fun w' k => hp.2.2.2.2.1.then k)
          obtain ⟨lv, hlv⟩ : ∃ lv, Po.live s2.f s2.H x2 = lv := ⟨_, rfl⟩
          have hlv2 := hiv.live2 x2
          rw [hlv] at hlv2
          have HLV := Lib.hid hlv
          have HLV2 := Lib.hid hlv2
          have hlq : (lv != lv) = false := by cases lv <;> rfl
          have HBw := Lib.hid hp.2.2.2.2.2.2.1
          have HBa := Lib.hid hba
          obtain ⟨⟨b0, b1, b2, b3, b4⟩, _⟩ := hp.2.2.2.2.2.2.1.cells5
          have d2 : wc.cell? ⟨wo.heap.size, 2, none⟩ = some (.int .i64 x2) := hba.cell 2
          clear hp hiv hl7 hlv hlv2 hba c0 c1 c2 HP
          go_wp2_with fail
          go_region_held3 (fun w' => w'.cell? ⟨bw, 0, none⟩ = some (.int .i64 N) ∧ w'.cell? ⟨bw, 1, none⟩ = some (.int .i64 mo) ∧ w'.cell? ⟨bw, 2, none⟩ = some (.slice ac7 s2.C.length cc7) ∧ w'.cell? ⟨bw, 3, none⟩ = some (.slice am7 s2.M.length cm7) ∧ w'.cell? ⟨bw, 4, none⟩ = some (.int .i64 s2.f) ∧ w'.cell? ⟨wo.heap.size, 2, none⟩ = some (.int .i64 x2))
            (first | (with_reducible exact ⟨b0, b1, b2, b3, b4, d2⟩) | (with_reducible exact ⟨e0, e1, e2, e3, e4, e5⟩) | (with_reducible exact ⟨g0, g1, g2, g3, g4, g5⟩) | go_keep)
            (first
              | (go_at_call 22; (with_reducible refine (pool_same _ b N mo _ _ s2 S7 R7 (HPS.out _ (Keeps.refl _ _).drew) (HRP.out _ (Keeps.refl _ _).drew) HI7.out).mono ?_); rintro e w8 ⟨rfl, k8⟩; have K8 := Lib.hid (((Keeps.refl [] wc).drew).then k8); obtain ⟨⟨e0, e1, e2, e3, e4⟩, _⟩ := (HBw.out.keep K8.out (by simp)).cells5; have e5 : w8.cell? ⟨wo.heap.size, 2, none⟩ = some (.int .i64 x2) := (HBa.out.keep K8.out (by simp)).cell 2; clear k8)
              | (go_at_call 23; (with_reducible refine (pool_live _ _ _ _ _ _ _ _ _ x2 (HPl.out _ K8.out) hfH).mono ?_); rintro e w9 ⟨rfl, rfl⟩; rw [HLV.out])
              | (go_at_call 24; (with_reducible refine (ref05_live _ _ _ _ _ _ s2.C s2.M R7 x2 (HRP.out _ K8.out) hM1k hF1k).mono ?_); rintro e w10 ⟨rfl, k10⟩; rw [HLV2.out]; have K10 := Lib.hid (K8.out.then k10); obtain ⟨⟨g0, g1, g2, g3, g4⟩, _⟩ := (HBw.out.keep K10.out (by simp)).cells5; have g5 : w10.cell? ⟨wo.heap.size, 2, none⟩ = some (.int .i64 x2) := (HBa.out.keep K10.out (by simp)).cell 2; clear k10)
              | fail)
          go_wp2_with fail
          go_roundw
          case rel => exact ⟨k + 1, by omega, by go_num, s2, S7, R7, _, _, HP7.out.then K10.out⟩
          case measure => simp [intOf]; omega
      · obtain rfl : k = n := by omega
        clear h1 h2 h3 h5 h6 h7 h8 h9 h10 HB
        have HK4 := Lib.hid h4.1
        clear h4
        go_wp2_with fail
        go_ret
        exact ⟨rfl, HK4.out⟩
end Go.Proofs.Ytonkbenmafapgaa
