/-
  Contracts of package pool, for PoolNew: Of.
  Conditions: rows no longer than 1000.
-/
import Derived.Test.YtonkbenmafapgaaPoolI
namespace Go.Proofs.Ytonkbenmafapgaa
open Go.RowKit
set_option linter.unusedVariables false
set_option linter.unusedSimpArgs false
set_option linter.unnecessarySimpa false

namespace Po
theorem settle_app (f : Int) : ∀ (H : List Bool) (a b : List Int), settle f H (a ++ b) = if (settle f H a).2 then settle f (settle f H a).1 b else settle f H a
  | H, [], b => rfl
  | H, x :: r, b => by
    rw [List.cons_append, settle_cons, settle_cons]
    by_cases h : live f H x = true
    · rw [if_pos h, if_pos h]; exact settle_app f _ r b
    · rw [if_neg h, if_neg h]; rfl
def of (size most f : Int) (C : List (List Int)) (M : List Int) : Bool :=
  fits size C.length most && decide (0 ≤ f) && decide (f ≤ size) && decide (∀ l ∈ C, (l.length : Int) ≤ most) && (settle f (List.replicate size.toNat false) (C.flatten ++ M)).2
theorem fill_row {C : List (List Int)} {k : Nat} (hk : k < C.length) : (C.take k ++ List.replicate (C.length - k) []).set k C[k] = C.take (k + 1) ++ List.replicate (C.length - (k + 1)) [] := by
  have e1 : (C.take k).length = k := by simp; omega
  obtain ⟨d, hd⟩ : ∃ d, C.length - k = d + 1 := ⟨C.length - k - 1, by omega⟩
  have hd2 : C.length - (k + 1) = d := by omega
  rw [List.set_append_right _ _ (by omega), e1, Nat.sub_self, hd, hd2, List.replicate_succ, List.set_cons_zero, List.take_succ_eq_append_getElem hk, List.append_assoc]; rfl
theorem settle_bad {f : Int} {H : List Bool} {C : List (List Int)} {M : List Int} {k : Nat} (hk : k < C.length) {H' : List Bool} (h : settle f H (C.take k).flatten = (H', true)) (hb : (settle f H' C[k]).2 = false) : (settle f H (C.flatten ++ M)).2 = false := by
  have e : C.flatten ++ M = (C.take k).flatten ++ (C[k] ++ ((C.drop (k + 1)).flatten ++ M)) := by
    have h1 : C = C.take k ++ C[k] :: C.drop (k + 1) := by rw [← List.drop_eq_getElem_cons hk, List.take_append_drop]
    have h2 : C.flatten = (C.take k ++ C[k] :: C.drop (k + 1)).flatten := congrArg List.flatten h1
    rw [h2, List.flatten_append, List.flatten_cons]; simp only [List.append_assoc]
  rw [e, settle_app, h, if_pos rfl, settle_app]
  simp [hb]
end Po

def OfPost (size most f : Int) (C : List (List Int)) (M : List Int) (w : World) (e : Ending) (w' : World) : Prop :=
  Keeps [] w w' ∧ ((Po.of size most f C M = true ∧ ∃ b S H, e = .returned (.tuple #[.pointer (some ⟨b, 0, none⟩), .int .i64 0]) ∧ Pl w' (.pointer (some ⟨b, 0, none⟩)) size most C M f H S ∧ (∀ k ∈ S, w.heap.size ≤ k) ∧ Po.settle f (List.replicate size.toNat false) (C.flatten ++ M) = (H, true)) ∨
    (Po.of size most f C M = false ∧ e = .returned (.tuple #[.pointer none, .int .i64 1])))
def OfInv (w : World) (b : Nat) (size most f : Int) (C : List (List Int)) (k : Nat) (wr : World) : Prop :=
  ∃ CK H S, Pl wr (.pointer (some ⟨b, 0, none⟩)) size most CK [] f H S ∧ CK = C.take k ++ List.replicate (C.length - k) [] ∧ Keeps [] w wr ∧ (∀ x ∈ S, w.heap.size ≤ x) ∧ Po.settle f (List.replicate size.toNat false) (C.take k).flatten = (H, true) ∧ (∀ l ∈ C.take k, (l.length : Int) ≤ most) ∧ f ≤ H.length ∧ H.length ≤ 1000

set_option maxHeartbeats 3200000 in
theorem pool_of (w : World) (size most f : Int) (vc vm : Value) (C : List (List Int)) (M : List Int) (R : List Nat) (h : RP w vc vm C M R) (hM : M.length ≤ 1000) (hC : ∀ l ∈ C, l.length ≤ 1000) :
    Calls Try.prog 50 #[.int .i64 size, .int .i64 most, vc, vm, .int .i64 f] w (OfPost size most f C M w) := by
  have HRP := Lib.hid h
  have hRl := h.1.lt
  have HRl := Lib.hid hRl
  obtain ⟨h1, U, h2, h3⟩ := h
  have hle := h1.le
  unfold maxLen at hle
  obtain ⟨aoc, capc, rfl⟩ := h1.shape
  obtain ⟨aom, capm, rfl⟩ := h2.shape
  have H2 := Lib.hid h2
  have HU := Lib.hid h3
  have HM := Lib.hid hM
  have HC := Lib.hid hC
  clear h1 h2 h3 hM hC hRl
  cases hc : Po.fits size C.length most with
  | false =>
    have HF : Hid (Po.of size most f C M = false) := Lib.hid (by simp [Po.of, hc])
    go_enter Try.func50, Try.ntmps50
    go_wp2_with fail
    refine (pool_new_no _ _ _ _ hc).mono ?_
    rintro e w1 ⟨rfl, rfl⟩
    go_wp2_with fail
    go_ret2
    exact ⟨Keeps.refl _ _, .inr ⟨HF.out, rfl⟩⟩
  | true =>
    have hfi := Po.fits_le hc
    obtain ⟨n, rfl⟩ := Int.eq_ofNat_of_zero_le hfi.1
    obtain ⟨m, rfl⟩ := Int.eq_ofNat_of_zero_le (show 0 ≤ most by omega)
    have h64 : n ≤ 64 := by omega
    have h8 : C.length ≤ 8 := by omega
    have hm1 : 1 ≤ m := by omega
    have hm16 : m ≤ 16 := by omega
    clear hfi
    have HNew := Lib.hid (fun w' => pool_new w' n C.length m h64 h8 hm1 hm16)
    cases q1 : decide (f < 0) with
    | true =>
      have HF : Hid (Po.of n m f C M = false) := Lib.hid (by
        have : f < 0 := of_decide_eq_true q1
        have h0 : ¬ 0 ≤ f := by omega
        simp [Po.of, h0])
      go_enter Try.func50, Try.ntmps50
      go_wp2_with fail
      refine (HNew.out _).mono ?_
      rintro e w1 ⟨p, S, rfl, k1, p1, s1⟩
      have K1 := Lib.hid k1
      clear k1 p1 s1
      go_wp2_with fail
      go_ret2
      exact ⟨K1.out, .inr ⟨HF.out, rfl⟩⟩
    | false =>
      cases q2 : decide ((n : Int) < f) with
      | true =>
        have HF : Hid (Po.of n m f C M = false) := Lib.hid (by
          have : (n : Int) < f := of_decide_eq_true q2
          have h0 : ¬ f ≤ n := by omega
          simp [Po.of, h0])
        go_enter Try.func50, Try.ntmps50
        go_wp2_with fail
        refine (HNew.out _).mono ?_
        rintro e w1 ⟨p, S, rfl, k1, p1, s1⟩
        have K1 := Lib.hid k1
        clear k1 p1 s1
        go_wp2_with fail
        go_ret2
        exact ⟨K1.out, .inr ⟨HF.out, rfl⟩⟩
      | false =>
        have HF : Hid (Po.of n m f C M = (decide (∀ l ∈ C, (l.length : Int) ≤ m) && (Po.settle f (List.replicate n false) (C.flatten ++ M)).2)) := Lib.hid (by
          have h1 := of_decide_eq_false q1
          have h2 := of_decide_eq_false q2
          have h3 : 0 ≤ f := by omega
          have h4 : f ≤ n := by omega
          simp [Po.of, hc, h3, h4])
        have hfn : f ≤ n := by have := of_decide_eq_false q2; omega
        have HFn := Lib.hid hfn
        clear hfn
        go_enter Try.func50, Try.ntmps50
        go_wp2_with fail
        refine (HNew.out _).mono ?_
        rintro e w1 ⟨p, S, rfl, k1, p1, s1⟩
        obtain ⟨b, rfl⟩ := Pl.shape p1
        obtain ⟨c4, f4, p2, k2⟩ := Pl.setf p1 f
        have HI : Hid (OfInv w b n m f C 0 (w1.setCell ⟨b, 4, none⟩ (.int .i64 f))) := Lib.hid
          ⟨_, _, S, p2, by simp [Po.new], k1.trans k2 (fun x hx => .inr (s1 x hx)), s1, rfl, by simp, by simp [Po.new]; exact HFn.out, by simp [Po.new]; omega⟩
        have e0 : w1.cell? ⟨b, 4, none⟩ = some (.int .i64 0) := c4
        clear p1 k1 s1 p2 k2 c4
        go_wp2_with fail
        go_loopw [14, 15, 40] (fun _ _ i wr => ∃ k : Nat, k ≤ C.length ∧ i = .int .i64 k ∧ OfInv w b n m f C k wr) (fun _ _ i _ => C.length - (intOf i).toNat)
        case atStart => exact ⟨0, Nat.zero_le _, rfl, HI.out⟩
        case round =>
          obtain ⟨k, hk, rfl, CK, H, S, hp, hCK, hke, hS, hst, hall, hfH, hH⟩ := hrel
          have HP := Lib.hid hp
          have HCK := Lib.hid hCK
          have HKe := Lib.hid hke
          have HS := Lib.hid hS
          have HSt := Lib.hid hst
          have HAll := Lib.hid hall
          have HfH := Lib.hid hfH
          have hCKl : CK.length = C.length := by rw [hCK]; simp; omega
          clear hp hCK hke hS hst hall hfH HI e0 f4
          by_cases hlt : k < C.length
          · obtain ⟨g, off, cs, U1, rfl, hgS, hg, hcs, hcell, ⟨vk, rfl, hvk⟩, hUS⟩ := (HRP.out.then HKe.out).1.get (List.getElem?_eq_getElem hlt)
            have c0 : wr.cell? ⟨g, off + k, none⟩ = some vk := by have := hcell 0 (by omega); rwa [Nat.mul_one, Nat.add_zero] at this
            have HT : Hid (C.take (k + 1) = C.take k ++ [C[k]]) := Lib.hid (List.take_succ_eq_append_getElem hlt)
            have HMem : Hid (C[k] ∈ C) := Lib.hid (List.getElem_mem hlt)
            have HFill := Lib.hid (Po.fill_row hlt)
            have HBad : Hid (∀ H' : List Bool, Po.settle f (List.replicate n false) (C.take k).flatten = (H', true) → (Po.settle f H' C[k]).2 = false → (Po.settle f (List.replicate n false) (C.flatten ++ M)).2 = false) := Lib.hid (fun H' => Po.settle_bad hlt)
            generalize C[k] = l at *
            obtain ⟨aok, capk, rfl⟩ := hvk.shape
            have hml := hvk.le
            unfold maxLen at hml
            have HVk := Lib.hid hvk
            have HUd : Hid (∀ x ∈ U1, x ∉ S) := Lib.hid (fun x hx h => by have := HRl.out x (hUS x hx); have := HS.out x h; omega)
            have hl1k := HC.out l HMem.out
            clear hcs hcell hvk
            cases q3 : decide (m < l.length) with
            | true =>
              have HFF : Hid (Po.of n m f C M = false) := Lib.hid (by
                have h1 := of_decide_eq_true q3
                rw [HF.out, decide_eq_false (fun h => by have := h l HMem.out; omega)]; rfl)
              go_wp2_with fail
              go_ret2
              exact ⟨HKe.out, .inr ⟨HFF.out, rfl⟩⟩
            | false =>
              have HL := Lib.hid (of_decide_eq_false q3)
              go_wp2_with fail
              refine (pool_settle _ b _ _ f CK [] H S _ l U1 HP.out HfH.out hH HVk.out HUd.out).mono ?_
              rintro e w5 ⟨rfl, k5, p5⟩
              have hn5 := Po.settle_len f H l
              obtain ⟨r, hr⟩ : ∃ r, Po.settle f H l = r := ⟨_, rfl⟩
              rw [hr] at p5 hn5 ⊢
              obtain ⟨H5, ok⟩ := r
              dsimp only at p5 hn5 ⊢
              have K5 : Hid (Keeps [] w w5) := Lib.hid (HKe.out.trans k5 (fun x hx => .inr (HS.out x hx)))
              have HR5 := Lib.hid hr
              have HV5 := Lib.hid (HVk.out.keep k5 HUd.out)
              cases ok with
              | false =>
                have HFF : Hid (Po.of n m f C M = false) := Lib.hid (by
                  rw [HF.out, HBad.out _ HSt.out (by rw [HR5.out])]; simp)
                clear k5 p5 hr hn5
                go_wp2_with fail
                go_ret2
                exact ⟨K5.out, .inr ⟨HFF.out, rfl⟩⟩
              | true =>
                obtain ⟨g2, off2, cap2, d2, hbS, ⟨v0, dr⟩, fr, hset⟩ := Pl.row p5 (n := k) (by omega)
                have HSet := Lib.hid hset
                have hkI : (k : Int) < (CK.length : Int) := by omega
                have HH5 := Lib.hid hn5
                have HP5 := Lib.hid p5
                have hCK2 := Lib.hid hCKl
                clear k5 p5 hr hset hn5 hCKl
                go_wp2_with fail
                go_region_law (refine step_apps elemInt (IR.nil w5.drew 3) (HV5.out.then ((Keeps.refl [] w5).drew)) (by rw [List.length_nil]; omega) ?_; intro ao7 cap7 w7 U7 r7 k7 s7; have k8 : Keeps [] w5 w7 := ((Keeps.refl [] w5).drew).trans k7 (by simp); have e2 : w7.cell? ⟨b, 2, none⟩ = some (.slice (some ⟨g2, off2, none⟩) CK.length cap2) := k8.cell d2 (by simp); have er : w7.cell? ⟨g2, off2 + k, none⟩ = some v0 := k8.cell dr (by simp); have ef : w7.frozen? ⟨g2, off2 + k, none⟩ = false := (World.frozen?_of_block (a := ⟨g2, off2 + k, none⟩) (k8.block g2 (block_lt_of_cell dr) (by simp))).trans fr; have R7 := Lib.hid r7; have K8 := Lib.hid k8; have S7 := Lib.hid s7; clear r7 k7 s7 k8)
                all_goals
                  obtain ⟨S7', hp7, hk7, hs7⟩ := HSet.out w7 _ l U7 K8.out (by simpa using R7.out) (fun x hx => by rcases S7.out x hx with h | h; simp at h; exact h)
                  have HN : Hid (OfInv w b n m f C (k + 1) (w7.setCell ⟨g2, off2 + k, none⟩ (.slice ao7 l.length cap7))) := Lib.hid ⟨CK.set k l, H5, S7', hp7, by rw [HCK.out]; exact HFill.out, K5.out.trans hk7 (fun x hx => .inr (HS.out x hx)), fun x hx => by
                      rcases hs7 x hx with h | h
                      · exact HS.out x h
                      · have := K5.out.size; omega, by
                      rw [HT.out, List.flatten_append, Po.settle_app, show (n : Int).toNat = n from rfl] at *
                      rw [HSt.out]; simpa using HR5.out, fun y hy => by
                      rw [HT.out] at hy
                      rcases List.mem_append.1 hy with h | h
                      · exact HAll.out y h
                      · simp at h; subst h; have := HL.out; omega, by rw [HH5.out]; exact HfH.out, by rw [HH5.out]; exact hH⟩
                  clear hp7 hk7 hs7
                  go_wp2_with fail
                  go_roundw
                  case rel => exact ⟨k + 1, by omega, by go_num, HN.out⟩
                  case measure => simp [intOf]; omega
          · obtain rfl : k = C.length := by omega
            have eCK : CK = C := by rw [HCK.out]; simp
            have hpc := HP.out
            rw [eCK] at hpc
            have HPC := Lib.hid hpc
            have hst := HSt.out
            rw [List.take_length] at hst
            have hall := HAll.out
            rw [List.take_length] at hall
            have HSt2 : Hid (Po.settle f (List.replicate n false) C.flatten = (H, true)) := Lib.hid hst
            have HF2 : Hid (Po.of n m f C M = (Po.settle f H M).2) := Lib.hid (by
              rw [HF.out, decide_eq_true hall, Po.settle_app, HSt2.out]; rfl)
            have HE2 : Hid (Po.settle f (List.replicate n false) (C.flatten ++ M) = Po.settle f H M) := Lib.hid (by
              rw [Po.settle_app, HSt2.out]; rfl)
            have HVm := Lib.hid (H2.out.then HKe.out)
            have HUd : Hid (∀ x ∈ U, x ∉ S) := Lib.hid (fun x hx h => by have := HRl.out x (HU.out x hx); have := HS.out x h; omega)
            have hM1k := HM.out
            clear hpc hst hall eCK hCKl
            go_wp2_with fail
            refine (pool_settle _ b _ _ f C [] H S _ M U HPC.out HfH.out hH HVm.out HUd.out).mono ?_
            rintro e w5 ⟨rfl, k5, p5⟩
            obtain ⟨r, hr⟩ : ∃ r, Po.settle f H M = r := ⟨_, rfl⟩
            have HR5 := Lib.hid hr
            rw [hr] at p5 ⊢
            obtain ⟨H5, ok⟩ := r
            dsimp only at p5 ⊢
            have K5 : Hid (Keeps [] w w5) := Lib.hid (HKe.out.trans k5 (fun x hx => .inr (HS.out x hx)))
            have HV5 := Lib.hid (HVm.out.keep k5 HUd.out)
            cases ok with
            | false =>
              have HFF : Hid (Po.of n m f C M = false) := Lib.hid (by rw [HF2.out, HR5.out])
              clear k5 p5 hr
              go_wp2_with fail
              go_ret2
              exact ⟨K5.out, .inr ⟨HFF.out, rfl⟩⟩
            | true =>
              obtain ⟨⟨v0, dr⟩, fr, hbS, hset⟩ := Pl.mid p5
              have HSet := Lib.hid hset
              clear k5 p5 hr hset
              go_wp2_with (at_builtin; go_must (refine wp_apps elemInt (IR.nil w5 3) HV5.out (by rw [List.length_nil]; omega) ?_))
              intro ao7 cap7 w7 U7 r7 k7 s7
              have er : w7.cell? ⟨b, 3, none⟩ = some v0 := k7.cell dr (by simp)
              have ef : w7.frozen? ⟨b, 3, none⟩ = false := (World.frozen?_of_block (a := ⟨b, 3, none⟩) (k7.block b (block_lt_of_cell dr) (by simp))).trans fr
              obtain ⟨S7', hp7, hk7, hs7⟩ := HSet.out w7 _ M U7 k7 (by simpa using r7) (fun x hx => by have h := s7 x hx; simpa using h)
              have HP7 := Lib.hid hp7
              have HK7 := Lib.hid hk7
              have HS7 := Lib.hid hs7
              clear r7 k7 s7 hp7 hk7 hs7
              go_wp2_with fail
              go_ret2
              refine ⟨K5.out.trans HK7.out (fun x hx => .inr (HS.out x hx)), .inl ⟨by rw [HF2.out, HR5.out], b, S7', H5, rfl, HP7.out, fun x hx => ?_, by rw [show (n : Int).toNat = n from rfl, HE2.out, HR5.out]⟩⟩
              rcases HS7.out x hx with h | h
              · exact HS.out x h
              · have := K5.out.size; omega
end Go.Proofs.Ytonkbenmafapgaa
