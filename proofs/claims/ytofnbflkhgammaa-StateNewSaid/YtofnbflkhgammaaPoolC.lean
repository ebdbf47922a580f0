/-
  Contracts of package pool, the third part: Take and Give.
  Conditions: what holds of every pool (Po.Inv).
-/
import Derived.Test.YtofnbflkhgammaaPoolL
namespace Go.Proofs.Ytofnbflkhgammaa
open Go.RowKit
set_option linter.unusedVariables false
set_option linter.unusedSimpArgs false
set_option linter.unnecessarySimpa false

def PS (w : World) (p : Value) (size most : Nat) (s : Po.St) (S : List Nat) : Prop := Pl w p size most s.C s.M s.f s.H S
def TakePost (r : Po.St × Int × Bool) (p : Value) (size most : Nat) (S : List Nat) (w : World) (e : Ending) (w' : World) : Prop :=
  e = .returned (.tuple #[.int .i64 r.2.1, .bool r.2.2]) ∧ ∃ S', PS w' p size most r.1 S' ∧ Keeps S w w' ∧ ∀ k ∈ S', k ∈ S ∨ w.heap.size ≤ k
/-- Take, with the cache in hand -/
def TMid (w : World) (b : Nat) (size most : Nat) (vc vh : Value) (f : Nat) (o m : List Int) (U Tm : List Nat) (v6 : Value) (w' : World) : Prop :=
  ∃ ao cap vm U', v6 = .slice ao o.length cap ∧ Keeps (b :: U) w w' ∧ Blk w' b [.int .i64 size, .int .i64 most, vc, vm, .int .i64 f, vh] 96 ∧
    IR w' v6 3 o U' ∧ IR w' vm 3 m Tm ∧ (∀ x ∈ U', x ∈ U ∨ w.heap.size ≤ x) ∧ (o = [] → w' = w)

theorem NR.put2 {w w' : World} {g off m cap : Nat} {es e : TypeId} {ll : List (List Int)} {T V : List Nat} {Us : List (List Nat)} (h : NR w (.slice (some ⟨g, off, none⟩) m cap) es e ll T Us) {k : Nat} {l l' : List Int} {U U' : List Nat} {x' : Value} (hk : ll[k]? = some l) (hU : Us[k]? = some U)
    (kp : Keeps V w w') (hVT : ∀ x ∈ T, x ∉ V) (hVU : ∀ (j : Nat) B, j ≠ k → Us[j]? = some B → ∀ x ∈ B, x ∉ V) (hr' : IR w' x' e l' U') (hn : ∀ x ∈ U', x ∈ U ∨ w.heap.size ≤ x) :
    NR (w'.setCell ⟨g, off + k, none⟩ x') (.slice (some ⟨g, off, none⟩) m cap) es e (ll.set k l') T (Us.set k U') := by
  have hlt := NR.lt h
  obtain ⟨vs, hr, hl, hi, hd, hp⟩ := h
  have hkl := (List.getElem?_eq_some_iff.1 hk).1
  have hvl : k < vs.length := by rw [hr.len]; omega
  have hTU : ∀ x ∈ T, x ∉ U := fun x hx hu => hd U (List.mem_of_getElem? hU) x hu hx
  have hr2 := hr.keep kp hVT
  obtain ⟨hs, hks⟩ := hr2.stored k hvl x'
  have hTU' : ∀ x ∈ U', x ∉ T := fun x hx ht => by
    rcases hn x hx with h | h
    · exact hTU x ht h
    · have := hlt.1 x ht; omega
  have hother : ∀ (j : Nat) B, j ≠ k → Us[j]? = some B → ∀ x ∈ B, x ∉ U' := fun j B hj hB x hx hx' => by
    rcases hn x hx' with h | h
    · exact hp j k B U hj hB hU x hx h
    · have := hlt.2 B (List.mem_of_getElem? hB) x hx; omega
  refine ⟨vs.set k x', by rw [List.length_set]; exact hs, by simp [hl], ?_, ?_, ?_⟩
  · intro j x A l2 a b c
    by_cases hj : k = j
    · subst hj
      rw [List.getElem?_set_self hvl] at a
      rw [List.getElem?_set_self (by omega)] at b c
      cases a; cases b; cases c
      exact hr'.keep hks hTU'
    · rw [List.getElem?_set_ne hj] at a b c
      exact ((hi j x A l2 a b c).keep kp (hVU j A (fun e => hj e.symm) b)).keep hks (fun x hx => hd A (List.mem_of_getElem? b) x hx)
  · intro A hA x hx
    rcases List.mem_or_eq_of_mem_set hA with h | rfl
    · exact hd A h x hx
    · exact hTU' x hx
  · intro i j A B hij hA hB x hx hxB
    by_cases hi' : k = i
    · subst hi'
      rw [List.getElem?_set_self (by omega)] at hA
      cases hA
      rw [List.getElem?_set_ne hij] at hB
      exact hother j B (fun e => hij e.symm) hB x hxB hx
    · rw [List.getElem?_set_ne hi'] at hA
      by_cases hj' : k = j
      · subst hj'
        rw [List.getElem?_set_self (by omega)] at hB
        cases hB
        exact hother i A (fun e => hi' e.symm) hA x hx hxB
      · rw [List.getElem?_set_ne hj'] at hB
        exact hp i j A B hij hA hB x hx hxB

theorem flatten_set_mem {Us : List (List Nat)} {n : Nat} {U' : List Nat} {x : Nat} (h : x ∈ (Us.set n U').flatten) : x ∈ Us.flatten ∨ x ∈ U' := by
  obtain ⟨A, hA, hx⟩ := List.mem_flatten.1 h
  rcases List.mem_or_eq_of_mem_set hA with h | rfl
  · exact .inl (List.mem_flatten.2 ⟨A, h, hx⟩)
  · exact .inr hx

/-- Take's and Give's end: the cache and the thing's home are stored -/
theorem pool_stored {w wc : World} {b n gT offT mT cap gH offH mH capH x : Nat} {size most f : Int} {vm vm' v' vcv vhv : Value} {C : List (List Int)} {M M' l l' : List Int} {H : List Bool} {t : Bool} {T Tm Th U U' Tm' : List Nat} {Us : List (List Nat)}
    (hvc : vcv = .slice (some ⟨gT, offT, none⟩) mT cap) (hvh : vhv = .slice (some ⟨gH, offH, none⟩) mH capH)
    (hb : b < w.heap.size) (hc : NR w vcv 38 3 C T Us) (hh : BR w vhv H Th) (hm : IR w vm 3 M Tm)
    (ha : Apart [[b], T, Us.flatten, Tm, Th]) (hk : C[n]? = some l) (hU : Us[n]? = some U) (hke : Keeps (b :: (U ++ Tm)) w wc)
    (hbl : Blk wc b [.int .i64 size, .int .i64 most, vcv, vm', .int .i64 f, vhv] 96)
    (hro : IR wc v' 3 l' U') (hU' : ∀ x ∈ U', x ∈ U ∨ w.heap.size ≤ x) (hrm : IR wc vm' 3 M' Tm') (hT' : ∀ x ∈ Tm', x ∈ Tm ∨ w.heap.size ≤ x) (hd : ∀ x ∈ U', x ∉ Tm') (hx : x < H.length) :
    ∃ S', Pl ((wc.setCell ⟨gT, offT + n, none⟩ v').setCell ⟨gH, offH + x, none⟩ (.bool t)) (.pointer (some ⟨b, 0, none⟩)) size most (C.set n l') M' f (H.set x t) S' ∧
      Keeps (b :: (T ++ Us.flatten ++ Tm ++ Th)) w ((wc.setCell ⟨gT, offT + n, none⟩ v').setCell ⟨gH, offH + x, none⟩ (.bool t)) ∧ ∀ k ∈ S', k ∈ b :: (T ++ Us.flatten ++ Tm ++ Th) ∨ w.heap.size ≤ k := by
  subst hvc hvh
  have ha2 := ha
  simp only [Apart, List.pairwise_cons, List.mem_cons, List.not_mem_nil, or_false, forall_eq_or_imp, forall_eq] at ha2
  obtain ⟨⟨a1, a2, a3, a4⟩, ⟨a5, a6, a7⟩, ⟨a8, a9⟩, a10, _⟩ := ha2
  have hUf : ∀ x ∈ U, x ∈ Us.flatten := fun x hx => List.mem_flatten.2 ⟨U, List.mem_of_getElem? hU, hx⟩
  have hcl := NR.lt hc
  have hUl : ∀ x ∈ Us.flatten, x < w.heap.size := fun x hx => by
    obtain ⟨A, hA, hx⟩ := List.mem_flatten.1 hx
    exact hcl.2 A hA x hx
  have hTl := hcl.1
  have hhl := hh.lt
  have hml := hm.lt
  obtain ⟨gT', offT', _, _, e1, rfl, _⟩ := NR.get hc hk
  obtain ⟨rfl, rfl⟩ := by simpa using e1
  have hHx := List.getElem?_eq_getElem hx
  obtain ⟨gH', offH', e2, rfl, _⟩ := hh.cells hHx
  obtain ⟨rfl, rfl⟩ := by simpa using e2
  simp only [List.mem_singleton, forall_eq] at a1 a4 a5 a6 a7 hTl hhl
  have hpq : ∀ (i j : Nat) A B, i ≠ j → Us[i]? = some A → Us[j]? = some B → ∀ x ∈ A, x ∉ B := by
    obtain ⟨_, _, _, _, _, hp⟩ := hc
    exact hp
  have hNR := hc.put2 hk hU hke (by intro y hy hv; simp at hy; subst hy; simp at hv; rcases hv with h | h | h; exact a1 h.symm; exact a5 (hUf _ h); exact a6 h)
    (fun j B hj hB y hy hv => by
      have hyf : y ∈ Us.flatten := List.mem_flatten.2 ⟨B, List.mem_of_getElem? hB, hy⟩
      simp at hv
      rcases hv with rfl | h | h
      · exact a2 hyf
      · exact hpq j n B U hj hB hU y hy h
      · exact a8 y hyf h) hro hU'
  have kc : Keeps [gT] wc (wc.setCell ⟨gT, offT + n, none⟩ v') := (Keeps.refl _ _).setCell (by simp) _
  have hbu : b ∉ U' := fun h => by rcases hU' b h with h | h; exact a2 (hUf _ h); omega
  have hgTm' : gT ∉ Tm' := fun h => by rcases hT' gT h with h | h; exact a6 h; omega
  have hgHm' : gH ∉ Tm' := fun h => by
    rcases hT' gH h with h | h
    · exact a10 gH h (by simp)
    · omega
  have hgHV : gH ∉ (b :: (U ++ Tm)) := by
    simp
    refine ⟨fun h => a4 h.symm, fun h => a9 gH (hUf _ h) (by simp), fun h => a10 gH h (by simp)⟩
  have hBR := (hh.keep hke (by intro y hy; simp at hy; subst hy; exact hgHV)).keep kc (by intro y hy; simp at hy; subst hy; simpa using fun h => a7 h.symm)
  obtain ⟨hBR2, kb⟩ := hBR.stored x hx t
  refine ⟨b :: ([gT] ++ (Us.set n U').flatten ++ Tm' ++ [gH]), ⟨b, .slice (some ⟨gT, offT, none⟩) mT cap, vm', .slice (some ⟨gH, offH, none⟩) mH capH, [gT], Us.set n U', Tm', [gH], rfl, ?_, ?_, ?_, ?_, ?_, rfl⟩, ?_, ?_⟩
  · exact ((hbl.keep kc (by simpa using a1)).keep kb (by simpa using a4))
  · refine hNR.keep kb (by simpa using a7) ?_
    intro A hA y hy
    have hyf : y ∈ (Us.set n U').flatten := List.mem_flatten.2 ⟨A, hA, hy⟩
    rcases flatten_set_mem hyf with h | h
    · exact a9 y h
    · rcases hU' y h with h | h
      · exact a9 y (hUf _ h)
      · simp; omega
  · exact (hrm.keep kc (by intro y hy h; simp at h; subst h; exact hgTm' hy)).keep kb (by intro y hy h; simp at h; subst h; exact hgHm' hy)
  · simpa using hBR2
  · simp only [Apart, List.pairwise_cons, List.mem_cons, List.not_mem_nil, or_false, forall_eq_or_imp, forall_eq, List.Pairwise.nil, and_true, List.mem_singleton]
    refine ⟨⟨a1, ?_, ?_, a4⟩, ⟨?_, hgTm', a7⟩, ⟨?_, ?_⟩, ?_, by simp⟩
    · intro h
      rcases flatten_set_mem h with h | h
      · exact a2 h
      · exact hbu h
    · intro h
      rcases hT' b h with h | h
      · exact a3 h
      · omega
    · intro h
      rcases flatten_set_mem h with h | h
      · exact a5 h
      · rcases hU' gT h with h | h
        · exact a5 (hUf _ h)
        · omega
    · intro y hy hyT
      rcases flatten_set_mem hy with h | h
      · rcases hT' y hyT with h1 | h1
        · exact a8 y h h1
        · have := hUl y h; omega
      · exact hd y h hyT
    · intro y hy h; subst h
      rcases flatten_set_mem hy with h | h
      · exact a9 y h (by simp)
      · rcases hU' y h with h | h
        · exact a9 y (hUf _ h) (by simp)
        · omega
    · intro y hy h; subst h; exact hgHm' hy
  · refine ((hke.mono (T := b :: ([gT] ++ Us.flatten ++ Tm ++ [gH])) ?_).setCell (by simp) _).setCell (by simp) _
    intro y hy
    left
    simp at hy ⊢
    rcases hy with rfl | h | h
    · simp
    · have := hUf y h; simp at this; simp [this]
    · simp [h]
  · intro y hy
    simp only [List.mem_cons, List.mem_append, List.not_mem_nil, or_false] at hy ⊢
    rcases hy with rfl | ((rfl | h) | h) | rfl
    · simp
    · simp
    · rcases flatten_set_mem h with h | h
      · simp only [h, true_or, or_true]
      · rcases hU' y h with h | h
        · have := hUf y h; simp only [this, true_or, or_true]
        · exact .inr h
    · rcases hT' y h with h | h
      · simp only [h, true_or, or_true]
      · exact .inr h
    · simp

/-- Take's loop, at its k-th round -/
def PLoop (w : World) (b : Nat) (size most : Nat) (vc vh : Value) (f : Nat) (M : List Int) (U Tm : List Nat) (k : Nat) (v6 : Value) (w' : World) : Prop :=
  ∃ ao cap vm U', v6 = .slice ao k cap ∧ Keeps (b :: U) w w' ∧ Blk w' b [.int .i64 size, .int .i64 most, vc, vm, .int .i64 f, vh] 96 ∧
    IR w' v6 3 (M.reverse.take k) U' ∧ IR w' vm 3 (M.take (M.length - k)) Tm ∧ (∀ x ∈ U', x ∈ U ∨ w.heap.size ≤ x) ∧ (k = 0 → w' = w)
def slenv : Value → Nat
  | .slice _ n _ => n
  | _ => 0

theorem Po.rev_next (M : List Int) (k j : Nat) (h : M.length - k = j + 1) : M.reverse.take (k + 1) = M.reverse.take k ++ [M.getD j 0] := by
  have hk : k < M.reverse.length := by simp; omega
  rw [List.take_succ_eq_append_getElem hk, List.getElem_reverse]
  congr 2
  rw [List.getD_eq_getElem?_getD, List.getElem?_eq_getElem (by omega)]
  simp only [Option.getD_some]
  congr 1; omega

theorem PLoop.step {w wr w7 : World} {b size most : Nat} {vc vh : Value} {f : Nat} {M : List Int} {U Tm U6 U7 : List Nat} {k gM offM j capm cap7 : Nat} {ao7 : Option Addr}
    (hbU : b ∉ U) (hbT : b ∉ Tm) (hTU : ∀ x ∈ Tm, x ∉ U) (hb : b < w.heap.size) (hTl : ∀ x ∈ Tm, x < w.heap.size) (hke : Keeps (b :: U) w wr)
    (hbl : Blk wr b [.int .i64 size, .int .i64 most, vc, .slice (some ⟨gM, offM, none⟩) (j + 1) capm, .int .i64 f, vh] 96)
    (hrm : IR wr (.slice (some ⟨gM, offM, none⟩) (j + 1) capm) 3 (M.take (j + 1)) Tm) (hU6 : ∀ x ∈ U6, x ∈ U ∨ w.heap.size ≤ x) (hj : M.length - k = j + 1)
    (r7 : IR w7 (.slice ao7 (k + 1) cap7) 3 (M.reverse.take k ++ [M.getD j 0]) U7) (k7 : Keeps U6 wr w7) (s7 : ∀ x ∈ U7, x ∈ U6 ∨ wr.heap.size ≤ x) :
    PLoop w b size most vc vh f M U Tm (k + 1) (.slice ao7 (k + 1) cap7) (w7.setCell ⟨b, 3, none⟩ (.slice (some ⟨gM, offM, none⟩) j capm)) := by
  have hsz := hke.size
  have hb6 : b ∉ U6 := fun hx => by rcases hU6 b hx with h | h; exact hbU h; omega
  have hb7 : b ∉ U7 := fun hx => by rcases s7 b hx with h | h; exact hb6 h; omega
  have hT6 : ∀ x ∈ Tm, x ∉ U6 := fun x hx h6 => by rcases hU6 x h6 with h | h; exact hTU x hx h; have := hTl x hx; omega
  have hml : (M.take (j + 1)).length = j + 1 := by simp; omega
  have hset : Keeps [b] w7 (w7.setCell ⟨b, 3, none⟩ (.slice (some ⟨gM, offM, none⟩) j capm)) := (Keeps.refl [b] w7).setCell (by simp) _
  have hpre : IR wr (.slice (some ⟨gM, offM, none⟩) j capm) 3 (M.take j) Tm := by
    have := IR.prefix (l := M.take (j + 1)) (by rw [hml]; exact hrm) j (by omega)
    rwa [List.take_take, Nat.min_eq_left (by omega)] at this
  refine ⟨ao7, cap7, .slice (some ⟨gM, offM, none⟩) j capm, U7, rfl, ?_, ?_, ?_, ?_, ?_, fun h => by omega⟩
  · refine (hke.trans k7 (fun x hx => ?_)).setCell (by simp) _
    rcases hU6 x hx with h | h
    · left; simp [h]
    · exact .inr h
  · have := (hbl.keep k7 hb6).set 3 (.slice (some ⟨gM, offM, none⟩) j capm)
    simpa using this
  · rw [Po.rev_next M k j hj]
    exact r7.keep hset (fun x hx h => by simp at h; subst h; exact hb7 hx)
  · rw [show M.length - (k + 1) = j by omega]
    exact (hpre.keep k7 hT6).keep hset (fun x hx h => by simp at h; subst h; exact hbT hx)
  · intro x hx
    rcases s7 x hx with h | h
    · exact hU6 x h
    · right; omega

end Go.Proofs.Ytofnbflkhgammaa
