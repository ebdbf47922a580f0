/-
  The law PoolAll: its walk.
  Conditions: none.
-/
import Derived.Test.YtonkbenmafapgaaPoolF
namespace Go.Proofs.Ytonkbenmafapgaa
open Go.RowKit
set_option linter.unusedVariables false
set_option linter.unusedSimpArgs false
set_option linter.unnecessarySimpa false

namespace Po
/-- all that was ever given out: in l, or kept -/
def Cov (s : St) (l : List Int) : Prop := ∀ a, l.count a + cnt s a = if 0 ≤ a ∧ a < (s.f : Int) then 1 else 0
theorem sumc_ones (L : List Int) (k : Nat) (h : ∀ x : Nat, x < k → L.count (x : Int) = 1) : sumc L k = k := by
  induction k with
  | zero => rfl
  | succ k ih => rw [sumc, ih (fun x hx => h x (by omega)), h k (by omega)]
theorem Cov.len {s : St} {l : List Int} (h : Cov s l) : l.length + (s.M.length + s.C.flatten.length) = s.f := by
  have hc : ∀ a, (l ++ (s.M ++ s.C.flatten)).count a = if 0 ≤ a ∧ a < (s.f : Int) then 1 else 0 := fun a => by
    rw [List.count_append, List.count_append]; exact h a
  have h1 := sumc_ones (l ++ (s.M ++ s.C.flatten)) s.f (fun x hx => by rw [hc, if_pos (by omega)])
  have h2 := sumc_all (l ++ (s.M ++ s.C.flatten)) s.f (fun a ha => by
    have := List.count_pos_iff.2 ha
    rw [hc] at this
    split at this
    · assumption
    · omega)
  rw [h1, List.length_append, List.length_append] at h2
  omega
theorem Cov.outs {size most : Nat} {s : St} {l : List Int} (v : Inv size most s) (h : Cov s l) : Po.outs s.H s.f = l.length := by
  have := v.outs; have := h.len; omega
theorem count_cons (x : Int) (l : List Int) (a : Int) : (x :: l).count a = l.count a + ind x a := by
  rw [List.count_cons]; unfold ind
  by_cases e : x = a <;> simp [e]
theorem Cov.take {size most : Nat} {s : St} {l : List Int} (v : Inv size most s) (h : Cov s l) {g : Int} (hok : (take size most s g).2.2 = true) : Cov (take size most s g).1 ((take size most s g).2.1 :: l) := by
  unfold Po.take at hok ⊢
  split
  · rename_i ht
    rw [if_pos ht] at hok
    simp only [taker, Bool.and_eq_true, decide_eq_true_eq] at ht
    have hg : s.C[g.toNat]? = some (s.C.getD g.toNat []) := by
      rw [List.getD_eq_getElem?_getD, List.getElem?_eq_getElem (by omega)]; simp
    split
    · rename_i h0
      rw [if_pos h0] at hok
      split
      · intro a
        have h1 := h a
        have h2 : cnt ⟨s.C, s.M, s.f + 1, s.H⟩ a = cnt s a := rfl
        rw [h2, count_cons]
        unfold ind
        simp only at h1 ⊢
        split at h1 <;> split <;> split <;> omega
      · rename_i h1
        rw [if_neg h1] at hok; cases hok
    · rename_i h0
      intro a
      have h1 := h a
      have h2 := cnt_took (size := size) hg h0 a
      rw [count_cons]
      show _ = if 0 ≤ a ∧ a < (s.f : Int) then 1 else 0
      simp only
      omega
  · rename_i ht
    rw [if_neg ht] at hok; cases hok
theorem take_no {size most : Nat} {s : St} (v : Inv size most s) (hC : s.C.length = 1) (hno : (take size most s 0).2.2 = false) : (take size most s 0).1 = s ∧ s.M = [] ∧ s.C.flatten = [] ∧ s.f = size := by
  have ht : taker s.C 0 = true := by simp [taker, hC]
  unfold Po.take at hno ⊢
  rw [if_pos ht] at hno ⊢
  split at hno
  · rename_i h0
    rw [if_pos h0]
    split at hno
    · cases hno
    · rename_i h1
      rw [if_neg h1]
      obtain ⟨e1, e2⟩ := own_nil v.m1 h0
      refine ⟨rfl, e2, ?_, by have := v.fl; omega⟩
      match hc : s.C, hC with
      | [c], _ => rw [hc] at e1; simp at e1; simp [e1]
  · cases hno
theorem take_C (size most : Nat) (s : St) (g : Int) : (take size most s g).1.C.length = s.C.length := by
  unfold Po.take
  split
  · split
    · split <;> rfl
    · simp [took]
  · rfl
theorem give_C (most : Nat) (s : St) (g x : Int) : (give most s g x).1.C.length = s.C.length := by
  unfold Po.give
  split
  · simp [gave]
  · rfl
theorem Cov.give {size most : Nat} {s : St} {l : List Int} {x : Int} (v : Inv size most s) (h : Cov s (x :: l)) {g : Int} (ht : taker s.C g = true) :
    (give most s g x).2 = true ∧ Cov (give most s g x).1 l ∧ give most (give most s g x).1 g x = ((give most s g x).1, false) := by
  have hl : live s.f s.H x = true := by
    rw [v.live]
    have h1 := h x
    rw [count_cons] at h1
    simp only [ind, if_true] at h1
    split at h1
    · rename_i h2
      simp [h2]; omega
    · omega
  have v2 := v.give g x
  have ht2 := ht
  simp only [taker, Bool.and_eq_true, decide_eq_true_eq] at ht2
  have hg : s.C[g.toNat]? = some (s.C.getD g.toNat []) := by
    rw [List.getD_eq_getElem?_getD, List.getElem?_eq_getElem (by omega)]; simp
  have e : Po.give most s g x = (gave most s g.toNat (s.C.getD g.toNat []) x, true) := by
    unfold Po.give; rw [ht, hl]; rfl
  have hcn := cnt_gave (most := most) hg x
  rw [e] at v2 ⊢
  refine ⟨rfl, fun a => ?_, ?_⟩
  · have h1 := h a
    rw [count_cons] at h1
    rw [hcn]
    show _ = if 0 ≤ a ∧ a < (s.f : Int) then 1 else 0
    omega
  · have hl2 : live (gave most s g.toNat (s.C.getD g.toNat []) x).f (gave most s g.toNat (s.C.getD g.toNat []) x).H x = false := by
      rw [v2.live, hcn]
      simp [ind]
    unfold Po.give
    simp only at hl2 ⊢
    rw [hl2]
    simp
theorem Cov.perm {s : St} {l l' : List Int} (h : Cov s l) (e : ∀ a, l'.count a = l.count a) : Cov s l' := fun a => by rw [e]; exact h a
theorem new_cov (size takers : Nat) : Cov (new size takers) [] := fun a => by
  have : cnt (new size takers) a = 0 := by unfold cnt new; simp [new_flat]
  rw [this, if_neg (by show ¬ (0 ≤ a ∧ a < ((0 : Nat) : Int)); omega)]; rfl
end Po

/-- the pool, between two calls: l is out -/
def PAll (w wr : World) (b N mo : Nat) (l : List Int) (s : Po.St) (S : List Nat) : Prop :=
  PS wr (.pointer (some ⟨b, 0, none⟩)) N mo s S ∧ Po.Inv N mo s ∧ s.C.length = 1 ∧ Fresh w wr S ∧ Po.Cov s l
def PAll1 (w wr : World) (b N mo : Nat) : Prop := ∃ s S, PAll w wr b N mo [] s S
def hand (ok : Bool) (x : Int) (l : List Int) : List Int := if ok then x :: l else l
def PAll2 (w : World) (b N mo : Nat) (v11 v12 v13 : Value) (wr : World) : Prop :=
  ∃ l x ok s S A ao cap, v11 = .slice ao l.length cap ∧ v12 = .int .i64 x ∧ v13 = .bool ok ∧ PAll w wr b N mo (hand ok x l) s S ∧ IR wr (.slice ao l.length cap) 3 l A ∧ (∀ k ∈ A, w.heap.size ≤ k) ∧ (∀ x ∈ S, x ∉ A) ∧ (ok = false → l.length = N)
def PAll3 (w : World) (b N mo : Nat) (l : List Int) (A : List Nat) (v75 : Value) (i : Nat) (wr : World) : Prop :=
  ∃ s S, PAll w wr b N mo (l.drop i) s S ∧ IR wr v75 3 l A ∧ (∀ x ∈ S, x ∉ A) ∧ (∀ k ∈ A, w.heap.size ≤ k)

theorem PAll.take {w wr w2 : World} {b N mo : Nat} {l : List Int} {s : Po.St} {S : List Nat} (h : PAll w wr b N mo l s S) {e : Ending} (hp : TakePost (Po.take N mo s 0) (.pointer (some ⟨b, 0, none⟩)) N mo S wr e w2) :
    ∃ x ok S', e = .returned (.tuple #[.int .i64 x, .bool ok]) ∧ PAll w w2 b N mo (hand ok x l) (Po.take N mo s 0).1 S' ∧ Keeps S wr w2 ∧ (∀ k ∈ S', k ∈ S ∨ wr.heap.size ≤ k) ∧ (ok = false → l.length = N) := by
  obtain ⟨h1, h2, h3, h4, h5⟩ := h
  obtain ⟨he, S', hs, hk, hS⟩ := hp
  refine ⟨_, _, S', he, ⟨hs, h2.take 0, by rw [Po.take_C]; exact h3, h4.step hk hS, ?_⟩, hk, hS, ?_⟩
  · cases hok : (Po.take N mo s 0).2.2 with
    | true => exact Po.Cov.take h2 h5 hok
    | false => rw [(Po.take_no h2 h3 hok).1]; exact h5
  · intro hok
    obtain ⟨_, e1, e2, e3⟩ := Po.take_no h2 h3 hok
    have := h5.len
    rw [e1, e2, e3] at this
    simpa using this

theorem disj_step {S S' A : List Nat} {w : World} (h : ∀ x ∈ S, x ∉ A) (hS : ∀ k ∈ S', k ∈ S ∨ w.heap.size ≤ k) (hA : ∀ k ∈ A, k < w.heap.size) : ∀ x ∈ S', x ∉ A := fun x hx ha => by
  rcases hS x hx with h1 | h1
  · exact h x h1 ha
  · have := hA x ha; omega

set_option maxRecDepth 100000 in
set_option maxHeartbeats 3200000 in
theorem poolAll_walk (w : World) (a0 : Int) (w0 : (Lit.int .u8 a0).wf = true) (a1 : Int) (w1 : (Lit.int .u8 a1).wf = true) (a2 : Int) (w2 : (Lit.int .u8 a2).wf = true) :
    Calls Try.prog 3 #[.int .u8 a0, .int .u8 a1, .int .u8 a2] w fun e w' => e = .returned (.bool true) ∧ Keeps [] w w' := by
  have b0 := wf8 w0
  have b1 := wf8 w1
  have b2 := wf8 w2
  clear w0 w1 w2
  obtain ⟨N, hN⟩ : ∃ N : Nat, a0 % 65 = (N : Int) := ⟨(a0 % 65).toNat, by omega⟩
  obtain ⟨mo, hmo⟩ : ∃ N : Nat, 1 + a1 % 16 = (N : Int) := ⟨(1 + a1 % 16).toNat, by omega⟩
  obtain ⟨r, hr⟩ : ∃ N : Nat, a2 % 4 = (N : Int) := ⟨(a2 % 4).toNat, by omega⟩
  have hN64 : N ≤ 64 := by omega
  have hm1 : 1 ≤ mo := by omega
  have hm2 : mo ≤ 16 := by omega
  have hr3 : r ≤ 3 := by omega
  obtain ⟨p0, q0⟩ := b0
  obtain ⟨p1, q1⟩ := b1
  obtain ⟨p2, q2⟩ := b2
  go_enter Try.func3, Try.ntmps3
  go_wp2_with fail
  refine (pool_alive _).mono ?_
  rintro e w1 ⟨rfl, k1⟩
  have K1 := Lib.hid k1
  clear k1
  go_wp2_with fail
  refine (pool_new _ N 1 mo hN64 (by omega) hm1 hm2).mono ?_
  rintro e w2 ⟨p, S2, rfl, k2, h2, s2⟩
  obtain ⟨b, rfl⟩ := h2.shape
  have HB : Hid (PAll1 w w2 b N mo) := Lib.hid ⟨_, S2, h2, Po.new_inv N 1 mo hN64 hm1 hm2, rfl, ⟨K1.out.then k2, fun k hk => by have := s2 k hk; have := K1.out.size; omega⟩, Po.new_cov N 1⟩
  clear k2 h2 s2 p1 q1 p0 q0
  go_wp2_with fail
  go_loopw [10] (fun v10 wr => ∃ k : Nat, k ≤ r + 1 ∧ v10 = .int .i64 k ∧ PAll1 w wr b N mo) (fun v10 _ => r + 1 - (intOf v10).toNat)
  case atStart => exact ⟨0, Nat.zero_le _, rfl, HB.out⟩
  case round =>
    obtain ⟨k, hk, rfl, s, S, hp⟩ := hrel
    obtain ⟨wo, rfl⟩ : ∃ wo : World, wo = wr := ⟨_, rfl⟩
    have HP := Lib.hid hp
    clear hp HB
    by_cases hlt : k ≤ r
    · have hk4 : k ≤ 3 := by omega
      have hq : decide ((k : Int) ≤ (r : Int)) = true := by simp; omega
      go_wp2_with fail
      refine (pool_take _ _ N mo _ _ 0 (HP.out.1.then ((Keeps.refl [] wo).alloc (.cells #[] 3))) HP.out.2.1).mono ?_
      intro e w3 h3
      have hp' : PAll w (wo.alloc (.cells #[] 3)) b N mo [] s S := ⟨HP.out.1.then ((Keeps.refl [] wo).alloc _), HP.out.2.1, HP.out.2.2.1, HP.out.2.2.2.1.then ((Keeps.refl [] wo).alloc _), HP.out.2.2.2.2⟩
      obtain ⟨x, ok, S3, rfl, p3, k3, s3, n3⟩ := hp'.take h3
      have HB2 : Hid (PAll2 w b N mo (.slice (some ⟨wo.heap.size, 0, none⟩) 0 0) (.int .i64 x) (.bool ok) w3) := Lib.hid (by
        have hlS := HP.out.1.lt
        have hdA : ∀ x ∈ S, x ∉ [wo.heap.size] := fun y hy h => by have := hlS y hy; simp at h; omega
        refine ⟨[], x, ok, _, S3, [wo.heap.size], _, _, rfl, rfl, rfl, p3, (IR.lit0 wo 3).keep k3 (fun y hy h => hdA y h hy), ?_, disj_step hdA s3 (by simp), n3⟩
        have := HP.out.2.2.2.1.1.size; simpa using this)
      clear h3 hp' p3 k3 s3 n3
      go_wp2_with fail
      go_loopw [11, 12, 13] (fun v11 v12 v13 wr => PAll2 w b N mo v11 v12 v13 wr) (fun v11 _ _ _ => 100 - slenv v11)
      case atStart => exact HB2.out
      case round =>
        obtain ⟨l, x, ok, s, S, A, ao, cap, rfl, rfl, rfl, hp, hr, hA, hd, hn⟩ := hrel
        have hlen : l.length ≤ N := by
          have h1 := hp.2.2.2.2.len
          have h2 := hp.2.1.fl
          have h3 : l.length ≤ (hand ok x l).length := by cases ok <;> simp [hand]
          omega
        have hln : ok = true → l.length + 1 ≤ N := fun h => by
          have h1 := hp.2.2.2.2.len
          have h2 := hp.2.1.fl
          subst h
          have h3 : l.length + 1 = (hand true x l).length := by simp [hand]
          omega
        have HP3 := Lib.hid hp
        have HR3 := Lib.hid hr
        have HA3 := Lib.hid hA
        have HD3 := Lib.hid hd
        clear hp hr hA hd HB2 HP
        cases ok with
        | true =>
          have hl1 := hln rfl
          have hq2 : decide (l.length ≤ N) = true := by simp; omega
          clear hn hln
          go_wp2_with (at_builtin; go_must (refine wp_appn elemInt HR3.out (by omega) ?_))
          intro ao4 cap4 w4 A4 r4 k4 s4
          have hd4 : ∀ x ∈ S, x ∉ A4 := fun y hy h => by
            rcases s4 y h with h1 | h1
            · exact HD3.out y hy h1
            · have := HP3.out.1.lt y hy; omega
          have hA4 : ∀ x ∈ A4, w.heap.size ≤ x := fun y hy => by
            rcases s4 y hy with h1 | h1
            · exact HA3.out y h1
            · have := HP3.out.2.2.2.1.1.size; omega
          have hp4 : PAll w w4 b N mo (l ++ [x]) s S := ⟨HP3.out.1.keep k4 HD3.out, HP3.out.2.1, HP3.out.2.2.1, ⟨HP3.out.2.2.2.1.1.trans k4 (fun y hy => .inr (HA3.out y hy)), HP3.out.2.2.2.1.2⟩, HP3.out.2.2.2.2.perm (fun a => by
            show (l ++ [x]).count a = (x :: l).count a
            simp [List.count_append, List.count_cons])⟩
          have HP4 := Lib.hid hp4
          have HR4 := Lib.hid r4
          have HA4 := Lib.hid hA4
          have HD4 := Lib.hid hd4
          clear hp4 r4 hA4 hd4 k4 s4
          go_wp2_with fail
          refine (pool_take _ _ N mo _ _ 0 HP4.out.1 HP4.out.2.1).mono ?_
          intro e w5 h5
          obtain ⟨x5, ok5, S5, rfl, p5, k5, s5, n5⟩ := HP4.out.take h5
          have HB5 : Hid (PAll2 w b N mo (.slice ao4 (l.length + 1) cap4) (.int .i64 x5) (.bool ok5) w5) := Lib.hid
            ⟨l ++ [x], x5, ok5, _, S5, A4, ao4, cap4, by simp, rfl, rfl, p5, by simpa using (HR4.out.keep k5 (fun y hy h => HD4.out y h hy)), HA4.out, disj_step HD4.out s5 HR4.out.lt, n5⟩
          clear h5 p5 k5 s5 n5
          go_wp2_with fail
          go_roundw
          case rel => exact HB5.out
          case measure => simp [slenv]; omega
        | false =>
          have hlN := hn rfl
          have HLN := Lib.hid hlN
          have hcnt : Hid (Po.outs s.H s.f = l.length) := Lib.hid (by have := HP3.out.2.2.2.2.outs HP3.out.2.1; simpa [hand] using this)
          have hq3 : ((l.length : Int) != (N : Int)) = false := by simp [hlN]
          clear hn hln hlN hlen
          have hfH : s.f ≤ s.H.length := by have := HP3.out.2.1.fl; have := HP3.out.2.1.hl; omega
          have hf1k : s.f ≤ 1000 := by have := HP3.out.2.1.fl; omega
          have hl64 : l.length ≤ 64 := by have := HLN.out; omega
          go_wp2_with fail
          refine (pool_count _ _ _ _ _ _ _ _ _ HP3.out.1 hfH hf1k).mono ?_
          rintro e w4 ⟨rfl, rfl⟩
          rw [hcnt.out]
          go_wp2_with fail
          have HB3 : Hid (PAll3 w b N mo l A (.slice ao l.length cap) 0 wr) := Lib.hid ⟨s, S, by simpa [hand] using HP3.out, HR3.out, HD3.out, HA3.out⟩
          clear hcnt hfH hf1k HP3 HR3 HA3 HD3
          go_loopw [15, 77] (fun _ v77 wr => ∃ i : Nat, i ≤ l.length ∧ v77 = .int .i64 i ∧ PAll3 w b N mo l A (.slice ao l.length cap) i wr) (fun _ v77 _ => l.length - (intOf v77).toNat)
          case atStart => exact ⟨0, Nat.zero_le _, rfl, HB3.out⟩
          case round =>
            obtain ⟨i, hi, rfl, s, S, hp, hr, hd, hA⟩ := hrel
            have HP4 := Lib.hid hp
            have HR4 := Lib.hid hr
            have HD4 := Lib.hid hd
            have HA4 := Lib.hid hA
            clear hp hr hd hA HB3
            by_cases hlt2 : i < l.length
            · obtain ⟨g, off, rfl, rfl, hg, hc, _⟩ := HR4.out.cells (by omega)
              have c0 := hc i hlt2
              have ed : l.drop i = l.getD i 0 :: l.drop (i + 1) := by
                rw [List.drop_eq_getElem_cons hlt2, List.getD_eq_getElem?_getD, List.getElem?_eq_getElem hlt2]; rfl
              have ht : Po.taker s.C 0 = true := by simp [Po.taker, HP4.out.2.2.1]
              have hcov := HP4.out.2.2.2.2
              rw [ed] at hcov
              obtain ⟨g1, g2, g3⟩ := Po.Cov.give HP4.out.2.1 hcov ht
              have G1 := Lib.hid g1
              have G2 := Lib.hid g2
              have G3 := Lib.hid g3
              clear hc ed ht hcov g1 g2 g3
              generalize l.getD i 0 = x0 at *
              go_wp2_with fail
              refine (pool_give _ _ N mo _ _ 0 x0 HP4.out.1 HP4.out.2.1).mono ?_
              rintro e w5 ⟨rfl, S5, h5, k5, s5⟩
              rw [G1.out]
              have hp5 : PAll w w5 b N mo (l.drop (i + 1)) (Po.give mo s 0 x0).1 S5 := ⟨h5, HP4.out.2.1.give 0 x0, by rw [Po.give_C]; exact HP4.out.2.2.1, HP4.out.2.2.2.1.step k5 s5, G2.out⟩
              have HP5 := Lib.hid hp5
              have HR5 := Lib.hid (HR4.out.keep k5 (fun y hy h => HD4.out y h hy))
              have HD5 := Lib.hid (disj_step HD4.out s5 HR4.out.lt)
              clear h5 k5 s5 hp5 c0
              go_wp2_with fail
              refine (pool_give _ _ N mo _ _ 0 x0 HP5.out.1 HP5.out.2.1).mono ?_
              rintro e w6 ⟨rfl, S6, h6, k6, s6⟩
              rw [G3.out] at h6 ⊢
              have hp6 : PAll w w6 b N mo (l.drop (i + 1)) (Po.give mo s 0 x0).1 S6 := ⟨h6, HP5.out.2.1, HP5.out.2.2.1, HP5.out.2.2.2.1.step k6 s6, HP5.out.2.2.2.2⟩
              have HP6 := Lib.hid hp6
              have HR6 := Lib.hid (HR5.out.keep k6 (fun y hy h => HD5.out y h hy))
              have HD6 := Lib.hid (disj_step HD5.out s6 HR5.out.lt)
              clear h6 k6 s6 hp6
              go_wp2_with fail
              go_roundw
              case rel => exact ⟨i + 1, by omega, by go_num, _, S6, HP6.out, HR6.out, HD6.out, HA4.out⟩
              case measure => simp [intOf]; omega
            · obtain rfl : i = l.length := by omega
              have HB6 : Hid (PAll1 w wr b N mo) := Lib.hid ⟨s, S, by have := HP4.out; rwa [List.drop_length] at this⟩
              go_wp2_with fail
              go_roundw
              case rel => exact ⟨k + 1, by omega, by go_num, HB6.out⟩
              case measure => simp [intOf]; omega
    · have hq : decide ((k : Int) ≤ (r : Int)) = false := by simp; omega
      have hcnt : Hid (Po.outs s.H s.f = 0) := Lib.hid (by have := HP.out.2.2.2.2.outs HP.out.2.1; simpa using this)
      have hfH : s.f ≤ s.H.length := by have := HP.out.2.1.fl; have := HP.out.2.1.hl; omega
      have hf1k : s.f ≤ 1000 := by have := HP.out.2.1.fl; omega
      go_wp2_with fail
      refine (pool_count _ _ _ _ _ _ _ _ _ HP.out.1 hfH hf1k).mono ?_
      rintro e w4 ⟨rfl, rfl⟩
      rw [hcnt.out]
      go_wp2_with fail
      go_ret
      exact ⟨rfl, HP.out.2.2.2.1.1⟩
end Go.Proofs.Ytonkbenmafapgaa
