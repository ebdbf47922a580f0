/-
  The law ModelWaits: its walk.
  Conditions: none.
-/
import Derived.Test.YtopkfhmdgheghaaModelY
import Derived.Test.YtopkfhmdgheghaaModelX
import Derived.Test.YtopkfhmdgheghaaModelA
import Derived.Test.YtopkfhmdgheghaaWhole
namespace Go.Proofs.Ytopkfhmdgheghaa
open Go.RowKit
set_option linter.unusedVariables false
set_option linter.unusedSimpArgs false
set_option linter.unnecessarySimpa false

/-- an act's cells -/
def actC (a : ActD) (va vb : Value) : List Value := [.int .i64 a.kind, .int .i64 a.g, .int .i64 a.i, .int .i64 a.h, .int .i64 a.k, .int .i64 a.a.kind, .int .i64 a.a.ch, .int .i64 a.a.n, .int .i64 a.a.v, va, .bool a.a.els, .int .i64 a.b.kind, .int .i64 a.b.ch, .int .i64 a.b.n, .int .i64 a.b.v, vb, .bool a.b.els]
theorem GV.act {w : World} {ao : Option Addr} {m cap k : Nat} {S : List Nat} {l : List ActD} {a : ActD} (h : GV actE 17 w (.slice ao m cap) l S) (hk : l[k]? = some a) :
    ∃ g off va vb UA, ao = some ⟨g, off, none⟩ ∧ g < w.heap.size ∧ (w.cell? ⟨g, off + k * 17, none⟩ = some (.int .i64 a.kind) ∧ w.cell? ⟨g, off + k * 17 + 1, none⟩ = some (.int .i64 a.g) ∧ w.cell? ⟨g, off + k * 17 + 2, none⟩ = some (.int .i64 a.i) ∧ w.cell? ⟨g, off + k * 17 + 3, none⟩ = some (.int .i64 a.h) ∧ w.cell? ⟨g, off + k * 17 + 4, none⟩ = some (.int .i64 a.k) ∧ w.cell? ⟨g, off + k * 17 + 5, none⟩ = some (.int .i64 a.a.kind) ∧ w.cell? ⟨g, off + k * 17 + 6, none⟩ = some (.int .i64 a.a.ch) ∧ w.cell? ⟨g, off + k * 17 + 7, none⟩ = some (.int .i64 a.a.n) ∧ w.cell? ⟨g, off + k * 17 + 8, none⟩ = some (.int .i64 a.a.v) ∧ w.cell? ⟨g, off + k * 17 + 9, none⟩ = some (va) ∧ w.cell? ⟨g, off + k * 17 + 10, none⟩ = some (.bool a.a.els) ∧ w.cell? ⟨g, off + k * 17 + 11, none⟩ = some (.int .i64 a.b.kind) ∧ w.cell? ⟨g, off + k * 17 + 12, none⟩ = some (.int .i64 a.b.ch) ∧ w.cell? ⟨g, off + k * 17 + 13, none⟩ = some (.int .i64 a.b.n) ∧ w.cell? ⟨g, off + k * 17 + 14, none⟩ = some (.int .i64 a.b.v) ∧ w.cell? ⟨g, off + k * 17 + 15, none⟩ = some (vb) ∧ w.cell? ⟨g, off + k * 17 + 16, none⟩ = some (.bool a.b.els)) ∧ GV caseE 3 w va a.a.cases UA ∧ GV caseE 3 w vb a.b.cases UA ∧ (Lit.int .i64 a.g).wf = true ∧ (Lit.int .i64 a.h).wf = true := by
  obtain ⟨g, off, cs, U, h1, h2, h3, h4, h5, ⟨va, vb, rfl, h6, h7, h8, h9⟩, h10⟩ := h.get hk
  exact ⟨g, off, va, vb, U, h1, h3, ⟨h5 0 (by omega), h5 1 (by omega), h5 2 (by omega), h5 3 (by omega), h5 4 (by omega), h5 5 (by omega), h5 6 (by omega), h5 7 (by omega), h5 8 (by omega), h5 9 (by omega), h5 10 (by omega), h5 11 (by omega), h5 12 (by omega), h5 13 (by omega), h5 14 (by omega), h5 15 (by omega), h5 16 (by omega)⟩, h6, h7, h8, h9⟩
theorem Blk.act {w : World} {g : Nat} {a : ActD} {va vb : Value} {t : TypeId} (h : Blk w g (actC a va vb) t) : w.cell? ⟨g, 0, none⟩ = some (.int .i64 a.kind) ∧ w.cell? ⟨g, 1, none⟩ = some (.int .i64 a.g) ∧ w.cell? ⟨g, 2, none⟩ = some (.int .i64 a.i) ∧ w.cell? ⟨g, 3, none⟩ = some (.int .i64 a.h) ∧ w.cell? ⟨g, 4, none⟩ = some (.int .i64 a.k) ∧ w.cell? ⟨g, 5, none⟩ = some (.int .i64 a.a.kind) ∧ w.cell? ⟨g, 6, none⟩ = some (.int .i64 a.a.ch) ∧ w.cell? ⟨g, 7, none⟩ = some (.int .i64 a.a.n) ∧ w.cell? ⟨g, 8, none⟩ = some (.int .i64 a.a.v) ∧ w.cell? ⟨g, 9, none⟩ = some (va) ∧ w.cell? ⟨g, 10, none⟩ = some (.bool a.a.els) ∧ w.cell? ⟨g, 11, none⟩ = some (.int .i64 a.b.kind) ∧ w.cell? ⟨g, 12, none⟩ = some (.int .i64 a.b.ch) ∧ w.cell? ⟨g, 13, none⟩ = some (.int .i64 a.b.n) ∧ w.cell? ⟨g, 14, none⟩ = some (.int .i64 a.b.v) ∧ w.cell? ⟨g, 15, none⟩ = some (vb) ∧ w.cell? ⟨g, 16, none⟩ = some (.bool a.b.els) :=
  ⟨h.cell 0, h.cell 1, h.cell 2, h.cell 3, h.cell 4, h.cell 5, h.cell 6, h.cell 7, h.cell 8, h.cell 9, h.cell 10, h.cell 11, h.cell 12, h.cell 13, h.cell 14, h.cell 15, h.cell 16⟩

def WB (w : World) (p : Value) (st : Md.St) (N : Nat) (B : Nat) (cs : List Value) (wr : World) : Prop :=
  ∃ S, Mo wr p st N S ∧ Blk wr B cs 56 ∧ B ∉ S ∧ Keeps [] w wr ∧ w.heap.size ≤ B ∧ ∀ x ∈ S, w.heap.size ≤ x
section
variable {w wr w' : World} {p : Value} {st : Md.St} {N B : Nat} {cs : List Value}
theorem WB.then (h : WB w p st N B cs wr) (k : Keeps [] wr w') : WB w p st N B cs w' := by
  obtain ⟨S, h1, h2, h3, h4, h5, h6⟩ := h
  exact ⟨S, h1.then k, h2.keep k (by simp), h3, h4.then k, h5, h6⟩
theorem WB.mo (h : WB w p st N B cs wr) : ∃ S, Mo wr p st N S ∧ ∀ w' st' N', MoTo S wr w' p st' N' → WB w p st' N' B cs w' := by
  obtain ⟨S, h1, h2, h3, h4, h5, h6⟩ := h
  refine ⟨S, h1, fun w' st' N' ⟨S', m1, m2, m3⟩ => ⟨S', m1, h2.keep m2 h3, fun hm => ?_, h4.trans m2 (fun x hx => .inr (h6 x hx)), h5, fun x hx => ?_⟩⟩
  · have := h2.lt
    rcases m3 B hm with h | h
    · exact h3 h
    · omega
  · have := h4.size
    rcases m3 x hx with h | h
    · exact h6 x h
    · omega
theorem WB.ends {n : Nat} (h : WB w p st N B cs wr) (hn : N ≤ n) : ∃ st N S, N ≤ n ∧ Mo wr p st N S ∧ Keeps [] w wr ∧ ∀ x ∈ S, w.heap.size ≤ x := by
  obtain ⟨S, h1, _, _, h4, _, h6⟩ := h
  exact ⟨st, N, S, hn, h1, h4, h6⟩
/-- the same, of some state and some bound -/
def WBX (w : World) (p : Value) (k : Nat) (B : Nat) (cs : List Value) (wr : World) : Prop := ∃ st N, N ≤ 3 * k + 2 ∧ WB w p st N B cs wr
theorem WB.blk (h : WB w p st N B cs wr) : Blk wr B cs 56 := by obtain ⟨S, _, h2, _⟩ := h; exact h2
theorem WB.keeps (h : WB w p st N B cs wr) : Keeps [] w wr := by obtain ⟨S, _, _, _, h4, _⟩ := h; exact h4
end
set_option maxRecDepth 100000 in
set_option maxHeartbeats 6400000 in
theorem modelWaits_walk (w : World) (v : Value) (l : List ActD) (S0 : List Nat) (h : GV actE 17 w v l S0) :
    Calls Try.prog 6 #[v] w fun e w' => e = .returned (.bool true) ∧ Keeps [] w w' := by
  have HG := Lib.hid h
  have hl := h.le
  unfold maxLen at hl
  obtain ⟨al, cl, rfl⟩ := h.shape
  clear h
  go_enter Try.func6, Try.ntmps6
  go_wp2_with fail
  refine (model_alive _).mono ?_
  rintro e w1 ⟨rfl, k1⟩
  have K1 := Lib.hid k1
  clear k1
  cases hq1 : decide (60 < (l.length : Int)) with
  | true =>
    go_wp2_with fail
    go_ret
    exact ⟨rfl, K1.out⟩
  | false =>
    have HL : Hid (l.length ≤ 60) := Lib.hid (by simp at hq1; omega)
    go_wp2_with fail
    refine (model_new _).mono ?_
    rintro e w2 ⟨b, S1, rfl, hm1, k2, s1⟩
    have HM1 := Lib.hid hm1
    have K2 := Lib.hid (K1.out.then k2)
    have HS1 : Hid (∀ x ∈ S1, w.heap.size ≤ x) := Lib.hid (fun x hx => by have := s1 x hx; have := K1.out.size; omega)
    clear hm1 k2 s1 hq1
    go_wp2_with fail
    go_loopw [18] (fun u wr => ∃ k : Nat, k ≤ l.length ∧ u = .int .i64 k ∧ Hid (∃ st N S, N ≤ 3 * k ∧ Mo wr (.pointer (some ⟨b, 0, none⟩)) st N S ∧ Keeps [] w wr ∧ ∀ x ∈ S, w.heap.size ≤ x)) (fun u _ => l.length - (intOf u).toNat)
    case atStart => exact ⟨0, Nat.zero_le _, rfl, Lib.hid ⟨_, 0, S1, by omega, HM1.out, K2.out, HS1.out⟩⟩
    case round =>
      obtain ⟨k, hk, rfl, HR⟩ := hrel
      obtain ⟨st, N, S, hN, hmo, hkp, hS⟩ := HR.out
      obtain ⟨wo, rfl⟩ : ∃ wo : World, wo = wr := ⟨_, rfl⟩
      by_cases hlt : k < l.length
      · obtain ⟨a, hx⟩ : ∃ a, l[k]? = some a := ⟨_, List.getElem?_eq_getElem hlt⟩
        obtain ⟨g, off, va, vb, UA, rfl, hg, ⟨e0, e1, e2, e3, e4, e5, e6, e7, e8, e9, e10, e11, e12, e13, e14, e15, e16⟩, hva, hvb, hwg, hwh⟩ := HG.out.act hx
        have d0 := hkp.cell e0 (by simp)
        have d1 := hkp.cell e1 (by simp)
        have d2 := hkp.cell e2 (by simp)
        have d3 := hkp.cell e3 (by simp)
        have d4 := hkp.cell e4 (by simp)
        have d5 := hkp.cell e5 (by simp)
        have d6 := hkp.cell e6 (by simp)
        have d7 := hkp.cell e7 (by simp)
        have d8 := hkp.cell e8 (by simp)
        have d9 := hkp.cell e9 (by simp)
        have d10 := hkp.cell e10 (by simp)
        have d11 := hkp.cell e11 (by simp)
        have d12 := hkp.cell e12 (by simp)
        have d13 := hkp.cell e13 (by simp)
        have d14 := hkp.cell e14 (by simp)
        have d15 := hkp.cell e15 (by simp)
        have d16 := hkp.cell e16 (by simp)
        clear e0 e1 e2 e3 e4 e5 e6 e7 e8 e9 e10 e11 e12 e13 e14 e15 e16
        have HVA := Lib.hid hva
        have HVB := Lib.hid hvb
        obtain ⟨aa, ca, rfl⟩ := hva.shape
        obtain ⟨ab, cb, rfl⟩ := hvb.shape
        have HWG : Hid (wf64L a.g) := Lib.hid hwg
        have HWH : Hid (wf64L a.h) := Lib.hid hwh
        have HLT := Lib.hid hlt
        have HNN : Hid (N ≤ 180) := Lib.hid (by have := HL.out; omega)
        obtain ⟨w3, hw3⟩ : ∃ w3, wo.alloc (.cells (actC a (.slice aa a.a.cases.length ca) (.slice ab a.b.cases.length cb)).toArray 56) = w3 := ⟨_, rfl⟩
        have KO3 : Hid (Keeps [] wo w3) := Lib.hid (hw3 ▸ (Keeps.refl [] wo).alloc _)
        have HW3 : Hid (WB w (.pointer (some ⟨b, 0, none⟩)) st N wo.heap.size (actC a (.slice aa a.a.cases.length ca) (.slice ab a.b.cases.length cb)) w3) := Lib.hid ⟨S, hmo.then KO3.out, hw3 ▸ Blk.fresh wo _ _ _ rfl, fun hm => by have := hmo.lt _ hm; omega, hkp.then KO3.out, hkp.size, hS⟩
        have HN := Lib.hid hN
        obtain ⟨x0, x1, x2, x3, x4, x5, x6, x7, x8, x9, x10, x11, x12, x13, x14, x15, x16⟩ := HW3.out.blk.act
        clear hva hvb hwg hwh hx hN hmo hkp hS HR
        have HRG : wo.rangeAt g (off + k * 17) (actC a (.slice aa a.a.cases.length ca) (.slice ab a.b.cases.length cb)) := by
          intro j v hj
          have hjl := (List.getElem?_eq_some_iff.1 hj).1
          simp only [actC, List.length_cons, List.length_nil] at hjl
          rw [← hj]
          match j, hjl with
          | 0, _ => exact d0
          | 1, _ => exact d1
          | 2, _ => exact d2
          | 3, _ => exact d3
          | 4, _ => exact d4
          | 5, _ => exact d5
          | 6, _ => exact d6
          | 7, _ => exact d7
          | 8, _ => exact d8
          | 9, _ => exact d9
          | 10, _ => exact d10
          | 11, _ => exact d11
          | 12, _ => exact d12
          | 13, _ => exact d13
          | 14, _ => exact d14
          | 15, _ => exact d15
          | 16, _ => exact d16
        clear d0 d1 d2 d3 d4 d5 d6 d7 d8 d9 d10 d11 d12 d13 d14 d15 d16
        have HRG3 := HW3.out.blk.range
        have HONE : (actC a (.slice aa a.a.cases.length ca) (.slice ab a.b.cases.length cb)).toArray.all (·.oneCell') = true := by kernel_rfl
        clear x0 x1 x2 x3 x4 x5 x6 x7 x8 x9 x10 x11 x12 x13 x14 x15 x16
        go_wp2_with (first
          | (refine wpList_load_mid rfl 56 (.tmp 20) rfl g (off + k * 17) (by rfl) _ _ HRG Try.underlying56 rfl (by kernel_rfl) ?_)
          | (refine wpList_store_mid rfl 56 (.tmp 5) (.tmp 21) rfl wo.heap.size 0 _ (by rfl) (by rfl) (there_alloc_new wo _ _ (by rfl)) (by kernel_rfl) HONE ?_; rw [alloc_setCells wo _ _ _ (by rfl), hw3])
          | (refine wpList_load_mid rfl 56 (.tmp 5) rfl wo.heap.size 0 (by rfl) _ _ HRG3 Try.underlying56 rfl (by kernel_rfl) ?_)
          | fail)
        refine (act_great _ (actC a (.slice aa a.a.cases.length ca) (.slice ab a.b.cases.length cb)) a UA ⟨_, _, rfl, HVA.out.then caseE_kept HW3.out.keeps, HVB.out.then caseE_kept HW3.out.keeps, HWG.out, HWH.out⟩).mono ?_
        rintro e w4 ⟨gr, rfl, hgr, k4⟩
        have HW4 := Lib.hid (HW3.out.then k4)
        clear hw3 k4 HRG HRG3 HONE
        obtain ⟨x0, x1, x2, x3, x4, x5, x6, x7, x8, x9, x10, x11, x12, x13, x14, x15, x16⟩ := HW4.out.blk.act
        cases gr with
        | true =>
          go_wp2_with fail
          go_ret
          exact ⟨rfl, HW4.out.keeps⟩
        | false =>
          have HCA : Hid (a.a.cases.length ≤ 1000) := Lib.hid (by have := (hgr rfl).1; omega)
          clear hgr
          go_upto_block 2 with fail
          go_cut [6, 7] (fun _ _ w' => WBX w (.pointer (some ⟨b, 0, none⟩)) k wo.heap.size (actC a (.slice aa a.a.cases.length ca) (.slice ab a.b.cases.length cb)) w')
          case first =>
            obtain ⟨S4, hm4, f4⟩ := HW4.out.mo
            have HM4 := Lib.hid hm4
            have F4 := Lib.hid f4
            clear hm4 f4
            by_cases e0 : a.kind = 0
            · have hk0 : (a.kind == 0) = true := by simp [e0]
              clear e0
              go_wp2_with fail
              refine (model_fire _ _ st N S4 a.g a.a _ UA a.i HM4.out (HVA.out.then caseE_kept HW4.out.keeps) (by have := HN.out; have := HNN.out; omega) HWG.out).mono ?_
              obtain ⟨⟨st5, r5⟩, hD⟩ : ∃ D, Md.fire st a.g a.a a.i = D := ⟨_, rfl⟩
              rw [hD]
              rintro e w5 ⟨rfl, m5⟩
              have HW5 := Lib.hid (F4.out _ _ _ m5)
              clear m5 hD x0 x1 x2 x3 x4 x5 x6 x7 x8 x9 x10 x11 x12 x13 x14 x15 x16
              unfold optV resV
              obtain ⟨x0, x1, x2, x3, x4, x5, x6, x7, x8, x9, x10, x11, x12, x13, x14, x15, x16⟩ := HW5.out.blk.act
              go_wp2_with fail
              go_meet
              exact ⟨_, _, by have := HN.out; omega, HW5.out⟩
            by_cases e1 : a.kind = 1
            · have hk0 : (a.kind == 0) = false := by simp [e0]
              have hk1 : (a.kind == 1) = true := by simp [e1]
              clear e0 e1
              go_wp2_with fail
              refine (model_wait _ _ st N S4 a.g a.a _ UA HM4.out (HVA.out.then caseE_kept HW4.out.keeps) (by have := HN.out; have := HNN.out; omega) HWG.out HCA.out).mono ?_
              obtain ⟨⟨st5, ok⟩, hD⟩ : ∃ D, Md.wait st a.g a.a = D := ⟨_, rfl⟩
              rw [hD]
              rintro e w5 ⟨rfl, m5⟩
              have HW5 := Lib.hid (F4.out _ _ _ m5)
              clear m5 x0 x1 x2 x3 x4 x5 x6 x7 x8 x9 x10 x11 x12 x13 x14 x15 x16
              dsimp only at HW5 ⊢
              obtain ⟨x0, x1, x2, x3, x4, x5, x6, x7, x8, x9, x10, x11, x12, x13, x14, x15, x16⟩ := HW5.out.blk.act
              cases ok with
              | false =>
                go_wp2_with fail
                go_meet
                exact ⟨_, _, by have := HN.out; omega, HW5.out⟩
              | true =>
                obtain ⟨y1, y2, y3⟩ := Md.wait_yes hD
                have Y1 : Hid ((st5.waits a.g).isSome = true) := Lib.hid (by rw [y1]; rfl)
                have Y2 := Lib.hid y2
                have Y3 := Lib.hid y3
                clear y1 y2 y3 hD
                obtain ⟨SX, hmX, _⟩ := HW5.out.mo
                have HMX := Lib.hid hmX
                clear hmX
                go_wp2_with fail
                refine (model_waits _ _ st5 (N + 1) SX a.g HMX.out HWG.out).mono ?_
                rw [Y1.out]
                rintro e w6 ⟨rfl, kX⟩
                have HW6 := Lib.hid (HW5.out.then kX)
                clear kX HMX x0 x1 x2 x3 x4 x5 x6 x7 x8 x9 x10 x11 x12 x13 x14 x15 x16
                obtain ⟨x0, x1, x2, x3, x4, x5, x6, x7, x8, x9, x10, x11, x12, x13, x14, x15, x16⟩ := HW6.out.blk.act
                obtain ⟨SX, hmX, _⟩ := HW6.out.mo
                have HMX := Lib.hid hmX
                clear hmX
                go_wp2_with fail
                refine (model_Any _ _ st5 (N + 1) SX a.g a.a _ UA HMX.out (HVA.out.then caseE_kept HW6.out.keeps)).mono ?_
                rw [Y2.out]
                rintro e w7 ⟨rfl, kX⟩
                have HW7 := Lib.hid (HW6.out.then kX)
                clear kX HMX x0 x1 x2 x3 x4 x5 x6 x7 x8 x9 x10 x11 x12 x13 x14 x15 x16
                obtain ⟨x0, x1, x2, x3, x4, x5, x6, x7, x8, x9, x10, x11, x12, x13, x14, x15, x16⟩ := HW7.out.blk.act
                obtain ⟨S7, hm7, f7⟩ := HW7.out.mo
                have HM7 := Lib.hid hm7
                have F7 := Lib.hid f7
                clear hm7 f7
                go_wp2_with fail
                refine (model_wait _ _ st5 (N + 1) S7 a.g a.a _ UA HM7.out (HVA.out.then caseE_kept HW7.out.keeps) (by have := HN.out; have := HNN.out; omega) HWG.out HCA.out).mono ?_
                rw [Y3.out]
                rintro e w8 ⟨rfl, m8⟩
                have HW8 := Lib.hid (F7.out _ _ _ m8)
                clear m8 x0 x1 x2 x3 x4 x5 x6 x7 x8 x9 x10 x11 x12 x13 x14 x15 x16
                dsimp only at HW8 ⊢
                obtain ⟨x0, x1, x2, x3, x4, x5, x6, x7, x8, x9, x10, x11, x12, x13, x14, x15, x16⟩ := HW8.out.blk.act
                go_wp2_with fail
                go_meet
                exact ⟨_, _, by have := HN.out; omega, HW8.out⟩
            by_cases e2 : a.kind = 2
            · have hk0 : (a.kind == 0) = false := by simp [e0]
              have hk1 : (a.kind == 1) = false := by simp [e1]
              have hk2 : (a.kind == 2) = true := by simp [e2]
              clear e0 e1 e2
              go_wp2_with fail
              refine (model_meet _ _ st N S4 a.g a.a _ UA a.i a.h a.b _ UA a.k HM4.out (HVA.out.then caseE_kept HW4.out.keeps) (HVB.out.then caseE_kept HW4.out.keeps) HWG.out HWH.out).mono ?_
              obtain ⟨⟨st5, r5⟩, hD⟩ : ∃ D, Md.meet st a.g a.a a.i a.h a.b a.k = D := ⟨_, rfl⟩
              rw [hD]
              rintro e w5 ⟨rfl, m5⟩
              have HW5 := Lib.hid (F4.out _ _ _ m5)
              clear m5 x0 x1 x2 x3 x4 x5 x6 x7 x8 x9 x10 x11 x12 x13 x14 x15 x16
              dsimp only at HW5 ⊢
              obtain ⟨x0, x1, x2, x3, x4, x5, x6, x7, x8, x9, x10, x11, x12, x13, x14, x15, x16⟩ := HW5.out.blk.act
              cases r5 with
              | none =>
                simp only [Option.getD_none, Option.isSome_none]
                go_wp2_with fail
                go_meet
                exact ⟨_, _, by have := HN.out; omega, HW5.out⟩
              | some v5 =>
                obtain ⟨y1, y2⟩ := Md.meet_yes hD
                have Y1 : Hid ((st5.waits a.g).isSome = false) := Lib.hid (by rw [y1]; rfl)
                have Y2 : Hid ((st5.waits a.h).isSome = false) := Lib.hid (by rw [y2]; rfl)
                clear y1 y2 hD
                simp only [Option.getD_some, Option.isSome_some]
                obtain ⟨SX, hmX, _⟩ := HW5.out.mo
                have HMX := Lib.hid hmX
                clear hmX
                go_wp2_with fail
                refine (model_waits _ _ st5 N SX a.g HMX.out HWG.out).mono ?_
                rw [Y1.out]
                rintro e w6 ⟨rfl, kX⟩
                have HW6 := Lib.hid (HW5.out.then kX)
                clear kX HMX x0 x1 x2 x3 x4 x5 x6 x7 x8 x9 x10 x11 x12 x13 x14 x15 x16
                obtain ⟨x0, x1, x2, x3, x4, x5, x6, x7, x8, x9, x10, x11, x12, x13, x14, x15, x16⟩ := HW6.out.blk.act
                obtain ⟨SX, hmX, _⟩ := HW6.out.mo
                have HMX := Lib.hid hmX
                clear hmX
                go_wp2_with fail
                refine (model_waits _ _ st5 N SX a.h HMX.out HWH.out).mono ?_
                rw [Y2.out]
                rintro e w7 ⟨rfl, kX⟩
                have HW7 := Lib.hid (HW6.out.then kX)
                clear kX HMX x0 x1 x2 x3 x4 x5 x6 x7 x8 x9 x10 x11 x12 x13 x14 x15 x16
                obtain ⟨x0, x1, x2, x3, x4, x5, x6, x7, x8, x9, x10, x11, x12, x13, x14, x15, x16⟩ := HW7.out.blk.act
                go_wp2_with fail
                go_meet
                exact ⟨_, _, by have := HN.out; omega, HW7.out⟩
            have hk0 : (a.kind == 0) = false := by simp [e0]
            have hk1 : (a.kind == 1) = false := by simp [e1]
            have hk2 : (a.kind == 2) = false := by simp [e2]
            clear e0 e1 e2
            go_wp2_with fail
            go_meet
            exact ⟨_, _, by have := HN.out; omega, HW4.out⟩
          case rest =>
            obtain ⟨st2, N2, hN2, hw⟩ := hcut
            have HN2 := Lib.hid hN2
            have HW2 := Lib.hid hw
            clear hN2 hw HW4 x0 x1 x2 x3 x4 x5 x6 x7 x8 x9 x10 x11 x12 x13 x14 x15 x16
            obtain ⟨x0, x1, x2, x3, x4, x5, x6, x7, x8, x9, x10, x11, x12, x13, x14, x15, x16⟩ := HW2.out.blk.act
            obtain ⟨SN, hmN, _⟩ := HW2.out.mo
            have HMN := Lib.hid hmN
            clear hmN
            go_wp2_with fail
            refine (model_no _ _ st2 N2 SN a.g a.a _ UA HMN.out (HVA.out.then caseE_kept HW2.out.keeps)).mono ?_
            rintro e wN ⟨rfl, kN⟩
            have HWN := Lib.hid (HW2.out.then kN)
            clear kN x0 x1 x2 x3 x4 x5 x6 x7 x8 x9 x10 x11 x12 x13 x14 x15 x16
            obtain ⟨x0, x1, x2, x3, x4, x5, x6, x7, x8, x9, x10, x11, x12, x13, x14, x15, x16⟩ := HWN.out.blk.act
            cases hno : Md.no st2 a.g a.a with
            | false =>
              obtain ⟨SM, hmM, _⟩ := HWN.out.mo
              have HMM := Lib.hid hmM
              clear hmM
              go_wp2_with fail
              refine (model_May _ _ st2 N2 SM a.g a.a _ UA a.i HMM.out (HVA.out.then caseE_kept HWN.out.keeps)).mono ?_
              rintro e wM ⟨rfl, kM⟩
              have HWM := Lib.hid (HWN.out.then kM)
              clear kM x0 x1 x2 x3 x4 x5 x6 x7 x8 x9 x10 x11 x12 x13 x14 x15 x16
              obtain ⟨x0, x1, x2, x3, x4, x5, x6, x7, x8, x9, x10, x11, x12, x13, x14, x15, x16⟩ := HWM.out.blk.act
              cases hmay : Md.mayAt st2 a.g a.a a.i with
              | false =>
                go_wp2_with fail
                go_roundw
                case rel => exact ⟨k + 1, by have := HLT.out; omega, by go_num, Lib.hid (HWM.out.ends (by have := HN2.out; omega))⟩
                case measure => have := HLT.out; simp [intOf]; omega
              | true =>
                obtain ⟨SQ, hmQ, _⟩ := HWM.out.mo
                have HMQ := Lib.hid hmQ
                have HMAY := Lib.hid (Md.may_any hmay)
                clear hmQ
                go_wp2_with fail
                refine (model_Any _ _ st2 N2 SQ a.g a.a _ UA HMQ.out (HVA.out.then caseE_kept HWM.out.keeps)).mono ?_
                rw [HMAY.out]
                rintro e wQ ⟨rfl, kQ⟩
                have HWQ := Lib.hid (HWM.out.then kQ)
                clear kQ x0 x1 x2 x3 x4 x5 x6 x7 x8 x9 x10 x11 x12 x13 x14 x15 x16
                go_wp2_with fail
                go_roundw
                case rel => exact ⟨k + 1, by have := HLT.out; omega, by go_num, Lib.hid (HWQ.out.ends (by have := HN2.out; omega))⟩
                case measure => have := HLT.out; simp [intOf]; omega
            | true =>
              obtain ⟨SR, hmR, _⟩ := HWN.out.mo
              have HMR := Lib.hid hmR
              have HNO := Lib.hid (Md.no_any hno)
              clear hmR
              go_wp2_with fail
              refine (model_Any _ _ st2 N2 SR a.g a.a _ UA HMR.out (HVA.out.then caseE_kept HWN.out.keeps)).mono ?_
              rw [HNO.out]
              rintro e wR ⟨rfl, kR⟩
              have HWR := Lib.hid (HWN.out.then kR)
              clear kR x0 x1 x2 x3 x4 x5 x6 x7 x8 x9 x10 x11 x12 x13 x14 x15 x16
              obtain ⟨x0, x1, x2, x3, x4, x5, x6, x7, x8, x9, x10, x11, x12, x13, x14, x15, x16⟩ := HWR.out.blk.act
              obtain ⟨SM, hmM, _⟩ := HWR.out.mo
              have HMM := Lib.hid hmM
              clear hmM
              go_wp2_with fail
              refine (model_May _ _ st2 N2 SM a.g a.a _ UA a.i HMM.out (HVA.out.then caseE_kept HWR.out.keeps)).mono ?_
              rintro e wM ⟨rfl, kM⟩
              have HWM := Lib.hid (HWR.out.then kM)
              clear kM x0 x1 x2 x3 x4 x5 x6 x7 x8 x9 x10 x11 x12 x13 x14 x15 x16
              obtain ⟨x0, x1, x2, x3, x4, x5, x6, x7, x8, x9, x10, x11, x12, x13, x14, x15, x16⟩ := HWM.out.blk.act
              cases hmay : Md.mayAt st2 a.g a.a a.i with
              | false =>
                go_wp2_with fail
                go_roundw
                case rel => exact ⟨k + 1, by have := HLT.out; omega, by go_num, Lib.hid (HWM.out.ends (by have := HN2.out; omega))⟩
                case measure => have := HLT.out; simp [intOf]; omega
              | true =>
                obtain ⟨SQ, hmQ, _⟩ := HWM.out.mo
                have HMQ := Lib.hid hmQ
                have HMAY := Lib.hid (Md.may_any hmay)
                clear hmQ
                go_wp2_with fail
                refine (model_Any _ _ st2 N2 SQ a.g a.a _ UA HMQ.out (HVA.out.then caseE_kept HWM.out.keeps)).mono ?_
                rw [HMAY.out]
                rintro e wQ ⟨rfl, kQ⟩
                have HWQ := Lib.hid (HWM.out.then kQ)
                clear kQ x0 x1 x2 x3 x4 x5 x6 x7 x8 x9 x10 x11 x12 x13 x14 x15 x16
                go_wp2_with fail
                go_roundw
                case rel => exact ⟨k + 1, by have := HLT.out; omega, by go_num, Lib.hid (HWQ.out.ends (by have := HN2.out; omega))⟩
                case measure => have := HLT.out; simp [intOf]; omega
      · obtain rfl : k = l.length := by omega
        have HK := Lib.hid hkp
        go_wp2_with fail
        go_ret
        exact ⟨rfl, HK.out⟩
end Go.Proofs.Ytopkfhmdgheghaa
