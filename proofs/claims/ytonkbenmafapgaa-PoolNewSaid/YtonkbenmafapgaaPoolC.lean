/-
  Contracts of package pool, the third part: Take and Give.
  Conditions: what holds of every pool (Po.Inv).
-/
import Derived.Test.YtonkbenmafapgaaPoolL
namespace Go.Proofs.Ytonkbenmafapgaa
open Go.RowKit
set_option linter.unusedVariables false
set_option linter.unusedSimpArgs false
set_option linter.unnecessarySimpa false

def PS (w : World) (p : Value) (size most : Nat) (s : Po.St) (S : List Nat) : Prop := Pl w p size most s.C s.M s.f s.H S
def TakePost (r : Po.St × Int × Bool) (p : Value) (size most : Nat) (S : List Nat) (w : World) (e : Ending) (w' : World) : Prop :=
  e = .returned (.tuple #[.int .i64 r.2.1, .bool r.2.2]) ∧ ∃ S', PS w' p size most r.1 S' ∧ Keeps S w w' ∧ ∀ k ∈ S', k ∈ S ∨ w.heap.size ≤ k
/-- Take, with the cache in hand -/
def TMid (w : World) (b : Nat) (size most : Nat) (vc vh : Value) (f : Nat) (o m : List Int) (U Tm : List Nat) (v6 : Value) (w' : World) : Prop :=
  ∃ ao cap vm U', v6 = .slice ao o.length cap ∧ Keeps (b :: U) w w' ∧ Blk w' b [.int .i64 size, .int .i64 most, vc, vm, .int .i64 f, vh] 94 ∧
    IR w' v6 3 o U' ∧ IR w' vm 3 m Tm ∧ (∀ x ∈ U', x ∈ U ∨ w.heap.size ≤ x) ∧ (o = [] → w' = w)

theorem NR.put2 {w w' : World} {g off m cap : Nat} {es e : TypeId} {ll : List (List Int)} {T V : List Nat} {Us : List (List Nat)} (h : NR w (.slice (some ⟨g, off, none⟩) m cap) es e ll T Us) {k : Nat} {l l' : List Int} {U U' : List Nat} {x' : Value} (hk : ll[k]? = some l) (hU : Us[k]? = some U)
    (kp : Keeps V w w') (hVT : ∀ x ∈ T, x ∉ V) (hVU : ∀ (j : Nat) B, j ≠ k → Us[j]? = some B → ∀ x ∈ B, x ∉ V) (hr' : IR w' x' e l' U') (hn : ∀ x ∈ U', x ∈ U ∨ w.heap.size ≤ x) :
    NR (w'.setCell ⟨g, off + k, none⟩ x') (.slice (some ⟨g, off, none⟩) m cap) es e (ll.set k l') T (Us.set k U') := by
  have hlt := NR.lt h
  obtain ⟨vs, hr, hl, hi, hd, hp⟩ := h
  have hkl := (List.getElem?_eq_some_iff.1 hk).1
  have hvl : k < vs.length := by rw [hr.len]; omega
  have hTU : ∀ x ∈ T, x ∉ U := fun x hx hu => hd U (List.mem_of_getElem? hU) x hu hx
  have hr2 := hr.keep kp hVT
  obtain ⟨hs, hks⟩ := hr2.stored k hvl x'
  have hTU' : ∀ x ∈ U', x ∉ T := fun x hx ht => by
    rcases hn x hx with h | h
    · exact hTU x ht h
    · have := hlt.1 x ht; omega
  have hother : ∀ (j : Nat) B, j ≠ k → Us[j]? = some B → ∀ x ∈ B, x ∉ U' := fun j B hj hB x hx hx' => by
    rcases hn x hx' with h | h
    · exact hp j k B U hj hB hU x hx h
    · have := hlt.2 B (List.mem_of_getElem? hB) x hx; omega
  refine ⟨vs.set k x', by rw [List.length_set]; exact hs, by simp [hl], ?_, ?_, ?_⟩
  · intro j x A l2 a b c
    by_cases hj : k = j
    · subst hj
      rw [List.getElem?_set_self hvl] at a
      rw [List.getElem?_set_self (by omega)] at b c
      cases a; cases b; cases c
      exact hr'.keep hks hTU'
    · rw [List.getElem?_set_ne hj] at a b c
      exact ((hi j x A l2 a b c).keep kp (hVU j A (fun e => hj e.symm) b)).keep hks (fun x hx => hd A (List.mem_of_getElem? b) x hx)
  · intro A hA x hx
    rcases List.mem_or_eq_of_mem_set hA with h | rfl
    · exact hd A h x hx
    · exact hTU' x hx
  · intro i j A B hij hA hB x hx hxB
    by_cases hi' : k = i
    · subst hi'
      rw [List.getElem?_set_self (by omega)] at hA
      cases hA
      rw [List.getElem?_set_ne hij] at hB
      exact hother j B (fun e => hij e.symm) hB x hxB hx
    · rw [List.getElem?_set_ne hi'] at hA
      by_cases hj' : k = j
      · subst hj'
        rw [List.getElem?_set_self (by omega)] at hB
        cases hB
        exact hother i A (fun e => hi' e.symm) hA x hx hxB
      · rw [List.getElem?_set_ne hj'] at hB
        exact hp i j A B hij hA hB x hx hxB

theorem flatten_set_mem {Us : List (List Nat)} {n : Nat} {U' : List Nat} {x : Nat} (h : x ∈ (Us.set n U').flatten) : x ∈ Us.flatten ∨ x ∈ U' := by
  obtain ⟨A, hA, hx⟩ := List.mem_flatten.1 h
  rcases List.mem_or_eq_of_mem_set hA with h | rfl
  · exact .inl (List.mem_flatten.2 ⟨A, h, hx⟩)
  · exact .inr hx

/-- Take's and Give's end: the cache and the thing's home are stored -/
theorem pool_stored {w wc : World} {b n gT offT mT cap gH offH mH capH x : Nat} {size most f : Int} {vm vm' v' vcv vhv : Value} {C : List (List Int)} {M M' l l' : List Int} {H : List Bool} {t : Bool} {T Tm Th U U' Tm' : List Nat} {Us : List (List Nat)}
    (hvc : vcv = .slice (some ⟨gT, offT, none⟩) mT cap) (hvh : vhv = .slice (some ⟨gH, offH, none⟩) mH capH)
    (hb : b < w.heap.size) (hc : NR w vcv 27 3 C T Us) (hh : BR w vhv H Th) (hm : IR w vm 3 M Tm)
    (ha : Apart [[b], T, Us.flatten, Tm, Th]) (hk : C[n]? = some l) (hU : Us[n]? = some U) (hke : Keeps (b :: (U ++ Tm)) w wc)
    (hbl : Blk wc b [.int .i64 size, .int .i64 most, vcv, vm', .int .i64 f, vhv] 94)
    (hro : IR wc v' 3 l' U') (hU' : ∀ x ∈ U', x ∈ U ∨ w.heap.size ≤ x) (hrm : IR wc vm' 3 M' Tm') (hT' : ∀ x ∈ Tm', x ∈ Tm ∨ w.heap.size ≤ x) (hd : ∀ x ∈ U', x ∉ Tm') (hx : x < H.length) :
    ∃ S', Pl ((wc.setCell ⟨gT, offT + n, none⟩ v').setCell ⟨gH, offH + x, none⟩ (.bool t)) (.pointer (some ⟨b, 0, none⟩)) size most (C.set n l') M' f (H.set x t) S' ∧
      Keeps (b :: (T ++ Us.flatten ++ Tm ++ Th)) w ((wc.setCell ⟨gT, offT + n, none⟩ v').setCell ⟨gH, offH + x, none⟩ (.bool t)) ∧ ∀ k ∈ S', k ∈ b :: (T ++ Us.flatten ++ Tm ++ Th) ∨ w.heap.size ≤ k := by
  subst hvc hvh
  have ha2 := ha
  simp only [Apart, List.pairwise_cons, List.mem_cons, List.not_mem_nil, or_false, forall_eq_or_imp, forall_eq] at ha2
  obtain ⟨⟨a1, a2, a3, a4⟩, ⟨a5, a6, a7⟩, ⟨a8, a9⟩, a10, _⟩ := ha2
  have hUf : ∀ x ∈ U, x ∈ Us.flatten := fun x hx => List.mem_flatten.2 ⟨U, List.mem_of_getElem? hU, hx⟩
  have hcl := NR.lt hc
  have hUl : ∀ x ∈ Us.flatten, x < w.heap.size := fun x hx => by
    obtain ⟨A, hA, hx⟩ := List.mem_flatten.1 hx
    exact hcl.2 A hA x hx
  have hTl := hcl.1
  have hhl := hh.lt
  have hml := hm.lt
  obtain ⟨gT', offT', _, _, e1, rfl, _⟩ := NR.get hc hk
  obtain ⟨rfl, rfl⟩ := by simpa using e1
  have hHx := List.getElem?_eq_getElem hx
  obtain ⟨gH', offH', e2, rfl, _⟩ := hh.cells hHx
  obtain ⟨rfl, rfl⟩ := by simpa using e2
  simp only [List.mem_singleton, forall_eq] at a1 a4 a5 a6 a7 hTl hhl
  have hpq : ∀ (i j : Nat) A B, i ≠ j → Us[i]? = some A → Us[j]? = some B → ∀ x ∈ A, x ∉ B := by
    obtain ⟨_, _, _, _, _, hp⟩ := hc
    exact hp
  have hNR := hc.put2 hk hU hke (by intro y hy hv; simp at hy; subst hy; simp at hv; rcases hv with h | h | h; exact a1 h.symm; exact a5 (hUf _ h); exact a6 h)
    (fun j B hj hB y hy hv => by
      have hyf : y ∈ Us.flatten := List.mem_flatten.2 ⟨B, List.mem_of_getElem? hB, hy⟩
      simp at hv
      rcases hv with rfl | h | h
      · exact a2 hyf
      · exact hpq j n B U hj hB hU y hy h
      · exact a8 y hyf h) hro hU'
  have kc : Keeps [gT] wc (wc.setCell ⟨gT, offT + n, none⟩ v') := (Keeps.refl _ _).setCell (by simp) _
  have hbu : b ∉ U' := fun h => by rcases hU' b h with h | h; exact a2 (hUf _ h); omega
  have hgTm' : gT ∉ Tm' := fun h => by rcases hT' gT h with h | h; exact a6 h; omega
  have hgHm' : gH ∉ Tm' := fun h => by
    rcases hT' gH h with h | h
    · exact a10 gH h (by simp)
    · omega
  have hgHV : gH ∉ (b :: (U ++ Tm)) := by
    simp
    refine ⟨fun h => a4 h.symm, fun h => a9 gH (hUf _ h) (by simp), fun h => a10 gH h (by simp)⟩
  have hBR := (hh.keep hke (by intro y hy; simp at hy; subst hy; exact hgHV)).keep kc (by intro y hy; simp at hy; subst hy; simpa using fun h => a7 h.symm)
  obtain ⟨hBR2, kb⟩ := hBR.stored x hx t
  refine ⟨b :: ([gT] ++ (Us.set n U').flatten ++ Tm' ++ [gH]), ⟨b, .slice (some ⟨gT, offT, none⟩) mT cap, vm', .slice (some ⟨gH, offH, none⟩) mH capH, [gT], Us.set n U', Tm', [gH], rfl, ?_, ?_, ?_, ?_, ?_, rfl⟩, ?_, ?_⟩
  · exact ((hbl.keep kc (by simpa using a1)).keep kb (by simpa using a4))
  · refine hNR.keep kb (by simpa using a7) ?_
    intro A hA y hy
    have hyf : y ∈ (Us.set n U').flatten := List.mem_flatten.2 ⟨A, hA, hy⟩
    rcases flatten_set_mem hyf with h | h
    · exact a9 y h
    · rcases hU' y h with h | h
      · exact a9 y (hUf _ h)
      · simp; omega
  · exact (hrm.keep kc (by intro y hy h; simp at h; subst h; exact hgTm' hy)).keep kb (by intro y hy h; simp at h; subst h; exact hgHm' hy)
  · simpa using hBR2
  · simp only [Apart, List.pairwise_cons, List.mem_cons, List.not_mem_nil, or_false, forall_eq_or_imp, forall_eq, List.Pairwise.nil, and_true, List.mem_singleton]
    refine ⟨⟨a1, ?_, ?_, a4⟩, ⟨?_, hgTm', a7⟩, ⟨?_, ?_⟩, ?_, by simp⟩
    · intro h
      rcases flatten_set_mem h with h | h
      · exact a2 h
      · exact hbu h
    · intro h
      rcases hT' b h with h | h
      · exact a3 h
      · omega
    · intro h
      rcases flatten_set_mem h with h | h
      · exact a5 h
      · rcases hU' gT h with h | h
        · exact a5 (hUf _ h)
        · omega
    · intro y hy hyT
      rcases flatten_set_mem hy with h | h
      · rcases hT' y hyT with h1 | h1
        · exact a8 y h h1
        · have := hUl y h; omega
      · exact hd y h hyT
    · intro y hy h; subst h
      rcases flatten_set_mem hy with h | h
      · exact a9 y h (by simp)
      · rcases hU' y h with h | h
        · exact a9 y (hUf _ h) (by simp)
        · omega
    · intro y hy h; subst h; exact hgHm' hy
  · refine ((hke.mono (T := b :: ([gT] ++ Us.flatten ++ Tm ++ [gH])) ?_).setCell (by simp) _).setCell (by simp) _
    intro y hy
    left
    simp at hy ⊢
    rcases hy with rfl | h | h
    · simp
    · have := hUf y h; simp at this; simp [this]
    · simp [h]
  · intro y hy
    simp only [List.mem_cons, List.mem_append, List.not_mem_nil, or_false] at hy ⊢
    rcases hy with rfl | ((rfl | h) | h) | rfl
    · simp
    · simp
    · rcases flatten_set_mem h with h | h
      · simp only [h, true_or, or_true]
      · rcases hU' y h with h | h
        · have := hUf y h; simp only [this, true_or, or_true]
        · exact .inr h
    · rcases hT' y h with h | h
      · simp only [h, true_or, or_true]
      · exact .inr h
    · simp

/-- Take's loop, at its k-th round -/
def PLoop (w : World) (b : Nat) (size most : Nat) (vc vh : Value) (f : Nat) (M : List Int) (U Tm : List Nat) (k : Nat) (v6 : Value) (w' : World) : Prop :=
  ∃ ao cap vm U', v6 = .slice ao k cap ∧ Keeps (b :: U) w w' ∧ Blk w' b [.int .i64 size, .int .i64 most, vc, vm, .int .i64 f, vh] 94 ∧
    IR w' v6 3 (M.reverse.take k) U' ∧ IR w' vm 3 (M.take (M.length - k)) Tm ∧ (∀ x ∈ U', x ∈ U ∨ w.heap.size ≤ x) ∧ (k = 0 → w' = w)
def slenv : Value → Nat
  | .slice _ n _ => n
  | _ => 0

theorem Po.rev_next (M : List Int) (k j : Nat) (h : M.length - k = j + 1) : M.reverse.take (k + 1) = M.reverse.take k ++ [M.getD j 0] := by
  have hk : k < M.reverse.length := by simp; omega
  rw [List.take_succ_eq_append_getElem hk, List.getElem_reverse]
  congr 2
  rw [List.getD_eq_getElem?_getD, List.getElem?_eq_getElem (by omega)]
  simp only [Option.getD_some]
  congr 1; omega

theorem PLoop.step {w wr w7 : World} {b size most : Nat} {vc vh : Value} {f : Nat} {M : List Int} {U Tm U6 U7 : List Nat} {k gM offM j capm cap7 : Nat} {ao7 : Option Addr}
    (hbU : b ∉ U) (hbT : b ∉ Tm) (hTU : ∀ x ∈ Tm, x ∉ U) (hb : b < w.heap.size) (hTl : ∀ x ∈ Tm, x < w.heap.size) (hke : Keeps (b :: U) w wr)
    (hbl : Blk wr b [.int .i64 size, .int .i64 most, vc, .slice (some ⟨gM, offM, none⟩) (j + 1) capm, .int .i64 f, vh] 94)
    (hrm : IR wr (.slice (some ⟨gM, offM, none⟩) (j + 1) capm) 3 (M.take (j + 1)) Tm) (hU6 : ∀ x ∈ U6, x ∈ U ∨ w.heap.size ≤ x) (hj : M.length - k = j + 1)
    (r7 : IR w7 (.slice ao7 (k + 1) cap7) 3 (M.reverse.take k ++ [M.getD j 0]) U7) (k7 : Keeps U6 wr w7) (s7 : ∀ x ∈ U7, x ∈ U6 ∨ wr.heap.size ≤ x) :
    PLoop w b size most vc vh f M U Tm (k + 1) (.slice ao7 (k + 1) cap7) (w7.setCell ⟨b, 3, none⟩ (.slice (some ⟨gM, offM, none⟩) j capm)) := by
  have hsz := hke.size
  have hb6 : b ∉ U6 := fun hx => by rcases hU6 b hx with h | h; exact hbU h; omega
  have hb7 : b ∉ U7 := fun hx => by rcases s7 b hx with h | h; exact hb6 h; omega
  have hT6 : ∀ x ∈ Tm, x ∉ U6 := fun x hx h6 => by rcases hU6 x h6 with h | h; exact hTU x hx h; have := hTl x hx; omega
  have hml : (M.take (j + 1)).length = j + 1 := by simp; omega
  have hset : Keeps [b] w7 (w7.setCell ⟨b, 3, none⟩ (.slice (some ⟨gM, offM, none⟩) j capm)) := (Keeps.refl [b] w7).setCell (by simp) _
  have hpre : IR wr (.slice (some ⟨gM, offM, none⟩) j capm) 3 (M.take j) Tm := by
    have := IR.prefix (l := M.take (j + 1)) (by rw [hml]; exact hrm) j (by omega)
    rwa [List.take_take, Nat.min_eq_left (by omega)] at this
  refine ⟨ao7, cap7, .slice (some ⟨gM, offM, none⟩) j capm, U7, rfl, ?_, ?_, ?_, ?_, ?_, fun h => by omega⟩
  · refine (hke.trans k7 (fun x hx => ?_)).setCell (by simp) _
    rcases hU6 x hx with h | h
    · left; simp [h]
    · exact .inr h
  · have := (hbl.keep k7 hb6).set 3 (.slice (some ⟨gM, offM, none⟩) j capm)
    simpa using this
  · rw [Po.rev_next M k j hj]
    exact r7.keep hset (fun x hx h => by simp at h; subst h; exact hb7 hx)
  · rw [show M.length - (k + 1) = j by omega]
    exact (hpre.keep k7 hT6).keep hset (fun x hx h => by simp at h; subst h; exact hbT hx)
  · intro x hx
    rcases s7 x hx with h | h
    · exact hU6 x h
    · right; omega

set_option maxRecDepth 100000 in
set_option maxHeartbeats 1600000 in
theorem pool_take (w : World) (p : Value) (size most : Nat) (s : Po.St) (S : List Nat) (g : Int) (h : PS w p size most s S) (v : Po.Inv size most s) :
    Calls Try.prog 16 #[p, .int .i64 g] w (TakePost (Po.take size most s g) p size most S w) := by
  have HP := Lib.hid h
  have HV := Lib.hid v
  obtain ⟨b, vc, vm, vh, T1, Us, Tm, Th, rfl, hb, hc, hm, hh, ha, rfl⟩ := h
  obtain ⟨hm1, hm2, hs1⟩ := (⟨v.m1, v.m2, v.s1⟩ : _ ∧ _ ∧ _)
  clear v
  cases ht : Po.taker s.C g with
  | false =>
    have HF : Hid (Po.take size most s g = (s, 0, false)) := Lib.hid (by simp [Po.take, ht])
    clear hb hc hm hh ha
    go_enter Try.func16, Try.ntmps16
    go_wp2_with fail
    refine (pool_taker _ _ _ _ _ _ _ _ _ _ HP.out).mono ?_
    rintro e w1 ⟨rfl, rfl⟩
    rw [ht]
    go_wp2_with fail
    go_ret2
    unfold TakePost
    rw [HF.out]
    exact ⟨rfl, _, HP.out, Keeps.refl _ _, fun k hk => .inl hk⟩
  | true =>
    have h2 := ht
    simp only [Po.taker, Bool.and_eq_true, decide_eq_true_eq] at h2
    obtain ⟨n, rfl⟩ := Int.eq_ofNat_of_zero_le h2.1
    have hn : n < s.C.length := by omega
    have hle := hc.le
    unfold maxLen at hle
    obtain ⟨ao, cap, rfl⟩ := hc.shape
    have hk := List.getElem?_eq_getElem hn
    obtain ⟨c, hcc⟩ : ∃ c, s.C[n] = c := ⟨_, rfl⟩
    rw [hcc] at hk
    have hcD : s.C.getD n [] = c := by rw [List.getD_eq_getElem?_getD, hk]; rfl
    have HTK : Hid (Po.take size most s n = if Po.own most c s.M = [] then (if s.f < size then (⟨s.C, s.M, s.f + 1, s.H⟩, (s.f : Int), true) else (s, 0, false)) else (Po.took s n (Po.own most c s.M) (Po.mid most c s.M), (Po.own most c s.M).getLastD 0, true)) := Lib.hid (by
      unfold Po.take; rw [ht]; simp only [if_true, Int.toNat_natCast, hcD])
    have hcl : c.length ≤ most := HV.out.caches c (List.mem_of_getElem? hk)
    have hMl : s.M.length ≤ 64 := HV.out.lens.1
    obtain ⟨gT, offT, x0, U, rfl, rfl, hgT, cT, fT, hr, hU, hgU⟩ := hc.get hk
    obtain ⟨aoc, capc, rfl⟩ := hr.shape
    have c2 : w.cell? ⟨b, 2, none⟩ = some (.slice (some ⟨gT, offT, none⟩) s.C.length cap) := hb.cell 2
    have hlt : (n : Int) < s.C.length := by omega
    have HB := Lib.hid hb
    have HC := Lib.hid hc
    have HM := Lib.hid hm
    have HH := Lib.hid hh
    have HA := Lib.hid ha
    have HR := Lib.hid hr
    have HU := Lib.hid hU
    have HK := Lib.hid hk
    have HAp : Hid (b ∉ U ∧ b ∉ Tm ∧ (∀ x ∈ Tm, x ∉ U) ∧ b < w.heap.size ∧ (∀ x ∈ Tm, x < w.heap.size)) := Lib.hid (by
      have ha2 := ha
      simp only [Apart, List.pairwise_cons, List.mem_cons, List.not_mem_nil, or_false, forall_eq_or_imp, forall_eq] at ha2
      obtain ⟨⟨a1, a2, a3, a4⟩, ⟨a5, a6, a7⟩, ⟨a8, a9⟩, a10, _⟩ := ha2
      have hUf : ∀ x ∈ U, x ∈ Us.flatten := fun x hx => List.mem_flatten.2 ⟨U, List.mem_of_getElem? hU, hx⟩
      exact ⟨fun h => a2 (hUf b h), a3, fun x hx h => a8 x (hUf x h) hx, hb.lt, hm.lt⟩)
    clear hb hc hm hh ha hr hU hk hcc hcD h2
    have hol := Po.own_len HV.out.m1 (M := s.M) hcl
    obtain ⟨o, ho⟩ : ∃ o, Po.own most c s.M = o := ⟨_, rfl⟩
    have HOe := Lib.hid ho
    rw [ho] at hol HTK
    clear ho
    obtain ⟨q, hq⟩ : ∃ q, ((c.length : Int) == 0) = q := ⟨_, rfl⟩
    have HQ : Hid (q = decide (c = [])) := Lib.hid (by rw [← hq, Bool.eq_iff_iff]; simp)
    go_enter Try.func16, Try.ntmps16
    go_wp2_with fail
    refine (pool_taker _ _ _ _ _ _ _ _ _ _ HP.out).mono ?_
    rintro e w1 ⟨rfl, rfl⟩
    rw [ht]
    go_upto_if 23 with fail
    go_cut [6] (fun v6 w' => TMid w b size most (.slice (some ⟨gT, offT, none⟩) s.C.length cap) vh s.f o (Po.mid most c s.M) U Tm v6 w')
    case first =>
      cases q with
      | true =>
        have h0 : c = [] := by have := HQ.out; simpa using this
        have HLen : Hid (c.length = 0) := Lib.hid (by simp [h0])
        have HOwn : Hid (Po.own most c s.M = s.M.reverse.take (min (Po.room most) s.M.length)) := Lib.hid (by subst h0; simp [Po.own, Po.pulls])
        have HMid : Hid (Po.mid most c s.M = s.M.take (s.M.length - min (Po.room most) s.M.length)) := Lib.hid (by subst h0; simp [Po.mid, Po.pulls])
        have HB0 : Hid (PLoop w b size most (.slice (some ⟨gT, offT, none⟩) s.C.length cap) vh s.f s.M U Tm 0 (.slice aoc c.length capc) w) := Lib.hid (by
          subst h0
          exact ⟨aoc, capc, vm, U, by simp, Keeps.refl _ _, HB.out, by simpa using HR.out, by simpa using HM.out, fun x hx => .inl hx, fun _ => rfl⟩)
        clear h0
        go_wp2_with fail
        go_loopw [6] (fun v6 wr => ∃ k : Nat, k ≤ min (Po.room most) s.M.length ∧ PLoop w b size most (.slice (some ⟨gT, offT, none⟩) s.C.length cap) vh s.f s.M U Tm k v6 wr) (fun v6 _ => 100 - slenv v6)
        case atStart => exact ⟨0, Nat.zero_le _, HB0.out⟩
        case round =>
          obtain ⟨k, hk, ao6, cap6, vm6, U6, rfl, hke, hbl, hro, hrm, hU6, hz6⟩ := hrel
          have c1 : wr.cell? ⟨b, 1, none⟩ = some (.int .i64 most) := hbl.cell 1
          have hkl : (s.M.reverse.take k).length = k := by simp; omega
          obtain ⟨l6, hl6⟩ : ∃ l, s.M.reverse.take k = l := ⟨_, rfl⟩
          rw [hl6] at hkl hro
          subst hkl
          by_cases hlt : l6.length < min (Po.room most) s.M.length
          · obtain ⟨j, hj⟩ : ∃ j, s.M.length - l6.length = j + 1 := ⟨s.M.length - l6.length - 1, by omega⟩
            rw [hj] at hrm
            have hml : (s.M.take (j + 1)).length = j + 1 := by simp; omega
            obtain ⟨aom, capm, rfl⟩ := hrm.shape
            rw [hml] at hbl hrm
            obtain ⟨gM, offM, rfl, rfl, hgM, hcM, _⟩ := hrm.cells (by omega)
            have cM : wr.cell? ⟨gM, offM + j, none⟩ = some (.int .i64 (s.M.getD j 0)) := by
              have := hcM j (by omega)
              rw [this, List.getD_eq_getElem?_getD, List.getD_eq_getElem?_getD, List.getElem?_take, if_pos (by omega)]
            have hcap : j + 1 ≤ capm := by obtain ⟨_, _, _, e, h1, _⟩ := hrm; simp at e; omega
            have c3 : wr.cell? ⟨b, 3, none⟩ = some (.slice (some ⟨gM, offM, none⟩) (j + 1) capm) := hbl.cell 3
            have hcapI : (j : Int) + 1 ≤ capm := by omega
            have hk65 : l6.length ≤ 64 := by omega
            have hj64 : j ≤ 64 := by omega
            have HKe := Lib.hid hke
            have HBl := Lib.hid hbl
            have HRo := Lib.hid hro
            have HRm := Lib.hid hrm
            have HU6 := Lib.hid hU6
            clear hz6
            have HL6 := Lib.hid hl6
            have HJ := Lib.hid hj
            clear hke hbl hro hrm hU6 hl6 hcM hml hj
            obtain ⟨x, HX⟩ : ∃ x, Hid (s.M.getD j 0 = x) := ⟨_, rfl⟩
            rw [HX.out] at cM
            by_cases hr : 1 < (most : Int) / 2
            all_goals
              have hkr : (l6.length : Int) < if 1 < (most : Int) / 2 then (most : Int) / 2 else 1 := by unfold Po.room at hlt; split <;> omega
              first | rw [if_pos hr] at hkr | rw [if_neg hr] at hkr
              have hkr2 := decide_eq_true hkr
              have Hlt : Hid (l6.length + 1 ≤ min (Po.room most) s.M.length) := Lib.hid hlt
              clear hlt hk hkr
              go_wp2_with (at_builtin; go_must (refine wp_appn elemInt HRo.out (by omega) ?_))
              intro ao7 cap7 w7 U7 r7 k7 s7
              have HST := Lib.hid (PLoop.step HAp.out.1 HAp.out.2.1 HAp.out.2.2.1 HAp.out.2.2.2.1 HAp.out.2.2.2.2 HKe.out HBl.out HRm.out HU6.out HJ.out (by rw [HX.out, HL6.out]; exact r7) k7 s7)
              have hb6 : b ∉ U6 := fun hx => by
                rcases HU6.out b hx with h | h
                · exact HAp.out.1 h
                · have := HAp.out.2.2.2.1; omega
              have d3 : w7.cell? ⟨b, 3, none⟩ = some (.slice (some ⟨gM, offM, none⟩) (j + 1) capm) := k7.cell c3 hb6
              have f3 : w7.frozen? ⟨b, 3, none⟩ = false := (HBl.out.keep k7 hb6).free 3
              clear r7 k7 s7 hb6
              go_wp2_with fail
              go_roundw
              case rel => exact ⟨l6.length + 1, Hlt.out, HST.out⟩
              case measure => simp [slenv]; omega
          · have HTM : Hid (TMid w b size most (.slice (some ⟨gT, offT, none⟩) s.C.length cap) vh s.f o (Po.mid most c s.M) U Tm (.slice ao6 l6.length cap6) wr) := Lib.hid (by
              have hN : min (Po.room most) s.M.length = l6.length := by omega
              rw [← HOe.out, HOwn.out, HMid.out, hN, hl6]
              exact ⟨ao6, cap6, vm6, U6, rfl, hke, hbl, hro, hrm, hU6, fun h => hz6 (by rw [h]; rfl)⟩)
            obtain ⟨m, hm⟩ : ∃ m, (s.M.take (s.M.length - l6.length)).length = m := ⟨_, rfl⟩
            obtain ⟨aom, capm, rfl⟩ := hrm.shape
            have c3 : wr.cell? ⟨b, 3, none⟩ = some (.slice aom m capm) := by have := hbl.cell 3; rw [hm] at this; exact this
            have hm2 : m = s.M.length - l6.length := by rw [← hm]; simp
            clear hbl hro hrm hU6 hke hm hl6 hz6
            by_cases hz : m = 0
            · subst hz
              clear hlt hk hm2
              go_wp2_with fail
              go_meet
              exact HTM.out
            · have hz2 : 0 < m := by omega
              have hm65 : m ≤ 64 := by omega
              by_cases hr : 1 < (most : Int) / 2
              all_goals
                have hkr : ¬ ((l6.length : Int) < if 1 < (most : Int) / 2 then (most : Int) / 2 else 1) := by unfold Po.room at hlt; split <;> omega
                first | rw [if_pos hr] at hkr | rw [if_neg hr] at hkr
                have hkr2 := decide_eq_false hkr
                clear hlt hk hkr hm2 hz
                go_wp2_with fail
                go_meet
                exact HTM.out
      | false =>
        have h0 : c ≠ [] := by have := HQ.out; simpa using this
        have HTM : Hid (TMid w b size most (.slice (some ⟨gT, offT, none⟩) s.C.length cap) vh s.f o (Po.mid most c s.M) U Tm (.slice aoc c.length capc) w) := Lib.hid (by
          have e1 : Po.own most c s.M = c := by simp [Po.own, Po.pulls, h0]
          have e2 : Po.mid most c s.M = s.M := by simp [Po.mid, Po.pulls, h0]
          rw [← HOe.out, e1, e2]
          exact ⟨aoc, capc, vm, U, rfl, Keeps.refl _ _, HB.out, HR.out, HM.out, fun x hx => .inl hx, fun _ => rfl⟩)
        clear h0
        go_wp2_with fail
        go_meet
        exact HTM.out
    case rest =>
      obtain ⟨ao6, cap6, vm6, U6, rfl, hke, hbl, hro, hrm, hU6, hz6⟩ := hcut
      have d2 : wc.cell? ⟨b, 2, none⟩ = some (.slice (some ⟨gT, offT, none⟩) s.C.length cap) := hbl.cell 2
      have d4 : wc.cell? ⟨b, 4, none⟩ = some (.int .i64 s.f) := hbl.cell 4
      have d0 : wc.cell? ⟨b, 0, none⟩ = some (.int .i64 size) := hbl.cell 0
      have HKe := Lib.hid hke
      have HBl := Lib.hid hbl
      have HRo := Lib.hid hro
      have HRm := Lib.hid hrm
      have HU6 := Lib.hid hU6
      by_cases h0 : o = []
      · subst h0
        have hw := hz6 rfl
        subst hw
        clear hke hbl hro hrm hU6 hz6
        rw [if_pos rfl] at HTK
        cases hf : decide (s.f < size) with
        | true =>
          have HT2 : Hid (Po.take size most s n = (⟨s.C, s.M, s.f + 1, s.H⟩, (s.f : Int), true)) := Lib.hid (by rw [HTK.out, if_pos (by simpa using hf)])
          have hf64 : s.f ≤ 64 := by simp at hf; omega
          have f4 := HB.out.free 4
          go_wp2_with fail
          go_quiet (fail)
          go_wp2_with fail
          go_ret2
          unfold TakePost
          rw [HT2.out]
          have hst : Blk (wc.setCell ⟨b, 4, none⟩ (.int .i64 ((s.f : Int) + 1))) b [.int .i64 size, .int .i64 most, .slice (some ⟨gT, offT, none⟩) s.C.length cap, vm, .int .i64 ((s.f + 1 : Nat) : Int), vh] 94 := by
            have := HB.out.set 4 (.int .i64 ((s.f : Int) + 1))
            simpa using this
          have hk4 : Keeps [b] wc (wc.setCell ⟨b, 4, none⟩ (.int .i64 ((s.f : Int) + 1))) := (Keeps.refl _ _).setCell (by simp) _
          have ha2 := HA.out
          simp only [Apart, List.pairwise_cons, List.mem_cons, List.not_mem_nil, or_false, forall_eq_or_imp, forall_eq] at ha2
          obtain ⟨⟨a1, a2, a3, a4⟩, _⟩ := ha2
          refine ⟨rfl, _, Pl.drewN ⟨b, .slice (some ⟨gT, offT, none⟩) s.C.length cap, vm, vh, [gT], Us, Tm, Th, rfl, hst, HC.out.keep hk4 (by intro y hy h; simp at hy h; subst hy; exact a1 (by simp [h])) (fun A hA y hy h => by simp at h; subst h; exact a2 (List.mem_flatten.2 ⟨A, hA, hy⟩)), HM.out.keep hk4 (fun y hy h => by simp at h; subst h; exact a3 hy), HH.out.keep hk4 (fun y hy h => by simp at h; subst h; exact a4 hy), HA.out, rfl⟩ nq, ?_, fun k hk => .inl hk⟩
          exact ((Keeps.refl _ wc).setCell (by simp) _).drewN nq
        | false =>
          have HT2 : Hid (Po.take size most s n = (s, 0, false)) := Lib.hid (by rw [HTK.out, if_neg (by simpa using hf)])
          go_wp2_with fail
          go_quiet (fail)
          go_wp2_with fail
          go_ret2
          unfold TakePost
          rw [HT2.out]
          exact ⟨rfl, _, Pl.drewN HP.out _, (Keeps.refl _ _).drewN _, fun k hk => .inl hk⟩
      · obtain ⟨L, hL⟩ : ∃ L, o.length = L + 1 := ⟨o.length - 1, by have := List.length_pos_iff.2 h0; omega⟩
        rw [if_neg h0] at HTK
        have hxb : 0 ≤ o.getLastD 0 ∧ o.getLastD 0 < s.f := HV.out.last HK.out HOe.out.symm h0
        have hfl := HV.out.fl
        have hHl := HV.out.hl
        obtain ⟨x, hx⟩ := Int.eq_ofNat_of_zero_le hxb.1
        have hxH : x < s.H.length := by omega
        obtain ⟨gO, offO, rfl, rfl, hgO, hcO, _⟩ := hro.cells (by omega)
        have cO : wc.cell? ⟨gO, offO + L, none⟩ = some (.int .i64 (x : Int)) := by
          rw [hcO L (by omega), ← hx, List.getLastD_eq_getLast?, List.getLast?_eq_getElem?, List.getD_eq_getElem?_getD, hL]; rfl
        have hcapO : L + 1 ≤ cap6 := by obtain ⟨_, _, _, e, h1, _⟩ := hro; simp at e; omega
        have hb0 := HAp.out
        have hroL := hro
        rw [hL] at hro
        have hpre := IR.prefix hroL L (by omega)
        have ed : o.take L = o.dropLast := by rw [List.dropLast_eq_take, hL]; rfl
        rw [ed] at hpre
        obtain ⟨aoh, caph, rfl⟩ := HH.out.shape
        have hHx := List.getElem?_eq_getElem hxH
        obtain ⟨gH, offH, rfl, rfl, hgH, cH, fH⟩ := HH.out.cells hHx
        obtain ⟨S', hS1, hS2, hS3⟩ := pool_stored (t := false) rfl rfl hb0.2.2.2.1 HC.out HH.out HM.out HA.out HK.out HU.out (hke.mono (T := b :: (U ++ Tm)) (fun y hy => by left; simp at hy ⊢; rcases hy with h | h <;> simp [h])) hbl hpre hU6 hrm (fun y hy => .inl hy) (fun y hy hyT => by
          rcases hU6 y hy with h | h
          · exact hb0.2.2.1 y hyT h
          · have := hb0.2.2.2.2 y hyT; omega) hxH
        have HS1 := Lib.hid hS1
        have HS2 := Lib.hid hS2
        have HS3 := Lib.hid hS3
        have ha2 := HA.out
        simp only [Apart, List.pairwise_cons, List.mem_cons, List.not_mem_nil, or_false, forall_eq_or_imp, forall_eq] at ha2
        obtain ⟨⟨a1, a2, a3, a4⟩, ⟨a5, a6, a7⟩, ⟨a8, a9⟩, a10, a11⟩ := ha2
        have hUf : ∀ x ∈ U, x ∈ Us.flatten := fun x hx => List.mem_flatten.2 ⟨U, List.mem_of_getElem? HU.out, hx⟩
        have n1 : b ≠ gT := by simpa using a1
        have n2 : b ≠ gH := by simpa using a4
        have n3 : gT ≠ gH := by simpa using a7
        have hgHU : gH ∉ (b :: U) := by
          simp; exact ⟨fun h => n2 h.symm, fun h => a9 gH (hUf _ h) (by simp)⟩
        have hgTU : gT ∉ (b :: U) := by
          simp; exact ⟨fun h => n1 h.symm, fun h => a5 (hUf _ h)⟩
        have e5 : wc.cell? ⟨b, 5, none⟩ = some (.slice (some ⟨gH, offH, none⟩) s.H.length caph) := hbl.cell 5
        have eH := hke.cell cH hgHU
        have gfH : wc.frozen? ⟨gH, offH + x, none⟩ = false := (World.frozen?_of_block (a := ⟨gH, offH + x, none⟩) (hke.block gH hgH hgHU)).trans fH
        have gfT : wc.frozen? ⟨gT, offT + n, none⟩ = false := (World.frozen?_of_block (a := ⟨gT, offT + n, none⟩) (hke.block gT hgT hgTU)).trans fT
        have eT := hke.cell cT hgTU
        have HT2 : Hid (Po.take size most s n = (Po.took s n o (Po.mid most c s.M), (x : Int), true)) := Lib.hid (by rw [HTK.out, hx])
        have HX := Lib.hid hx
        have hI1 : (0 : Int) ≤ (L : Int) := by omega
        have hI2 : (L : Int) ≤ (cap6 : Int) := by omega
        have hI3 : (x : Int) < (s.H.length : Int) := by omega
        have hI4 : s.H.length ≤ 64 := by omega
        have hL16 : L ≤ 16 := by omega
        have hgeq : decide ((0 : Int) ≤ L) = true := by simp
        generalize s.H[x] = t0 at *
        clear HTK hS1 hS2 hS3 hUf hke hbl hro hrm hU6 hz6 hroL hpre ed h0 hHx hcO hxb hx a2 a3 a8 a9 a10 a11 a1 a4 a5 a6 a7
        rw [hL]
        clear hL
        go_wp2_with fail
        go_region
        go_wp2_with fail
        go_ret2
        unfold TakePost
        rw [HT2.out]
        refine ⟨rfl, S', Pl.drewN ?_ _, Keeps.drewN HS2.out _, HS3.out⟩
        show Pl _ _ _ _ _ _ _ (s.H.set (o.getLastD 0).toNat false) S'
        rw [HX.out]
        exact HS1.out
end Go.Proofs.Ytonkbenmafapgaa
