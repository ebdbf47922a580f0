/-
  The plain laws of scripts: what bytes say, and that what is written is read again.
  Conditions: none; no program stands here.
-/
import Derived.Test.YtopkfhmdgheghaaPlanZ
import Derived.Test.YtopkfhmdgheghaaCan
namespace Go.Proofs.Ytopkfhmdgheghaa
set_option linter.unusedVariables false
set_option linter.unusedSimpArgs false
set_option linter.unnecessarySimpa false
namespace Sn
structure Sc where
  plan : List (List Pn.Op)
  sudogs : Int
  cache : Int
  draws : List Int
  picks : List Int
theorem Sc.ext {a b : Sc} (h1 : a.plan = b.plan) (h2 : a.sudogs = b.sudogs) (h3 : a.cache = b.cache) (h4 : a.draws = b.draws) (h5 : a.picks = b.picks) : a = b := by cases a; cases b; simp_all
def draw (b : List Int) (k : Nat) : Int := Pn.byte b (3 + 2 * k) * 256 + Pn.byte b (4 + 2 * k)
def cnt (b : List Int) : Nat := (Pn.byte b 2).toNat
def rest (b : List Int) : List Int := b.drop (3 + 2 * cnt b)
def used (b : List Int) : Nat := min (Pn.dec (rest b)).2 (rest b).length
def read (b : List Int) : Sc :=
  ⟨(Pn.dec (rest b)).1, Pn.byte b 0 % 65, Pn.byte b 1 % 16 + 1, (List.range (cnt b)).map (draw b), (rest b).drop (used b)⟩
def two (d : Int) : List Int := [d / 256, d % 256]
def bytes (s : Sc) : List Int := [s.sudogs, s.cache - 1, (s.draws.length : Int)] ++ s.draws.flatMap two ++ Pn.enc s.plan ++ s.picks
def okPick (x : Int) : Bool := decide (0 ≤ x ∧ x ≤ 255)
/-- the error of a script; 0: none -/
def err (s : Sc) : Int :=
  if Pn.right s.plan = false then 3
  else if Po.fits s.sudogs s.plan.length s.cache = false then 1
  else if 255 < s.draws.length then 1
  else if s.picks.all okPick = false then 1
  else 0
def write (s : Sc) : List Int := if err s = 0 then bytes s else []

theorem err_ok {s : Sc} (h : err s = 0) : Pn.right s.plan = true ∧ Po.fits s.sudogs s.plan.length s.cache = true ∧ s.draws.length ≤ 255 ∧ s.picks.all okPick = true := by
  unfold err at h
  split at h
  · omega
  · split at h
    · omega
    · split at h
      · omega
      · split at h
        · omega
        · rename_i a b c d
          exact ⟨by simpa using a, by simpa using b, by omega, by simpa using d⟩
theorem err_zero {s : Sc} (h1 : Pn.right s.plan = true) (h2 : Po.fits s.sudogs s.plan.length s.cache = true) (h3 : s.draws.length ≤ 255) (h4 : s.picks.all okPick = true) : err s = 0 := by
  unfold err
  rw [if_neg (by rw [h1]; simp), if_neg (by rw [h2]; simp), if_neg (by omega), if_neg (by rw [h4]; simp)]
theorem two_len : ∀ l : List Int, (l.flatMap two).length = 2 * l.length
  | [] => rfl
  | d :: r => by rw [List.flatMap_cons, List.length_append, two_len r]; simp [two]; omega
theorem two_get : ∀ (l : List Int) (k : Nat) (d : Int), l[k]? = some d → (l.flatMap two)[2 * k]? = some (d / 256) ∧ (l.flatMap two)[2 * k + 1]? = some (d % 256)
  | [], k, d, h => by simp at h
  | x :: r, 0, d, h => by simp at h; subst h; exact ⟨rfl, rfl⟩
  | x :: r, k + 1, d, h => by
    have ih := two_get r k d (by simpa using h)
    have e : (x :: r).flatMap two = x / 256 :: x % 256 :: r.flatMap two := rfl
    rw [e, show 2 * (k + 1) = 2 * k + 1 + 1 by omega, show 2 * k + 1 + 1 + 1 = (2 * k + 1) + 1 + 1 by omega]
    exact ⟨by simpa using ih.1, by simpa using ih.2⟩
theorem read_bytes {s : Sc} (hd : ∀ d ∈ s.draws, 0 ≤ d ∧ d ≤ 65535) (h : err s = 0) : read (bytes s) = s := by
  obtain ⟨h1, h2, h3, h4⟩ := err_ok h
  have hf : 0 ≤ s.sudogs ∧ s.sudogs ≤ 64 ∧ (0 : Int) ≤ s.plan.length ∧ (s.plan.length : Int) ≤ 8 ∧ 1 ≤ s.cache ∧ s.cache ≤ 16 := by simpa [Po.fits] using h2
  obtain ⟨a1, a2, a3, a4, a5, a6⟩ := hf
  obtain ⟨t, ht⟩ : ∃ t, s.draws.flatMap two ++ (Pn.enc s.plan ++ s.picks) = t := ⟨_, rfl⟩
  have e : bytes s = s.sudogs :: (s.cache - 1) :: (s.draws.length : Int) :: t := by rw [← ht]; simp [bytes]
  have b0 : Pn.byte (bytes s) 0 = s.sudogs := by rw [e]; rfl
  have b1 : Pn.byte (bytes s) 1 = s.cache - 1 := by rw [e]; rfl
  have b2 : Pn.byte (bytes s) 2 = (s.draws.length : Int) := by rw [e]; rfl
  have hc : cnt (bytes s) = s.draws.length := by unfold cnt; rw [b2]; omega
  have hb : ∀ i, Pn.byte (bytes s) (3 + i) = Pn.byte t i := by
    intro i
    rw [e, show 3 + i = i + 1 + 1 + 1 by omega]; simp [Pn.byte]
  have hr : rest (bytes s) = Pn.enc s.plan ++ s.picks := by
    unfold rest
    rw [hc, e, show 3 + 2 * s.draws.length = 2 * s.draws.length + 1 + 1 + 1 by omega]
    simp only [List.drop_succ_cons]
    rw [← ht, List.drop_append_of_le_length (by rw [two_len]; omega), List.drop_of_length_le (by rw [two_len]; omega)]; rfl
  have hdec : Pn.dec (rest (bytes s)) = (s.plan, (Pn.enc s.plan).length) := by rw [hr]; exact Pn.dec_enc s.plan h1 s.picks
  apply Sc.ext
  · show (Pn.dec (rest (bytes s))).1 = _; rw [hdec]
  · show Pn.byte (bytes s) 0 % 65 = _; rw [b0]; omega
  · show Pn.byte (bytes s) 1 % 16 + 1 = _; rw [b1]; omega
  · show (List.range (cnt (bytes s))).map (draw (bytes s)) = _
    rw [hc]
    apply List.ext_getElem?
    intro k
    by_cases hk : k < s.draws.length
    · have hg := two_get s.draws k s.draws[k] (List.getElem?_eq_getElem hk)
      have hl : 2 * k + 1 < (s.draws.flatMap two).length := by rw [two_len]; omega
      have t0 : t[2 * k]? = some (s.draws[k] / 256) := by rw [← ht, List.getElem?_append_left (by omega)]; exact hg.1
      have t1 : t[2 * k + 1]? = some (s.draws[k] % 256) := by rw [← ht, List.getElem?_append_left (by omega)]; exact hg.2
      have hv : draw (bytes s) k = s.draws[k] := by
        unfold draw
        rw [hb (2 * k), show 4 + 2 * k = 3 + (2 * k + 1) by omega, hb (2 * k + 1)]
        unfold Pn.byte
        rw [List.getD_eq_getElem?_getD, List.getD_eq_getElem?_getD, t0, t1]
        simp; omega
      simp [hk, hv]
    · rw [List.getElem?_eq_none (by simp; omega), List.getElem?_eq_none (by omega)]
  · show (rest (bytes s)).drop (used (bytes s)) = _
    unfold used
    rw [hdec, hr]
    simp
theorem read_ok {b : List Int} (h : ∀ x ∈ b, 0 ≤ x ∧ x ≤ 255) : err (read b) = 0 ∧ ∀ d ∈ (read b).draws, 0 ≤ d ∧ d ≤ 65535 := by
  have hr : ∀ x ∈ rest b, 0 ≤ x ∧ x ≤ 255 := fun x hx => h x (List.mem_of_mem_drop hx)
  have hright := Pn.dec_right hr
  have hp := Pn.right_rows hright
  have h0 := Pn.byte_range h 0
  have h1 := Pn.byte_range h 1
  have h2 := Pn.byte_range h 2
  refine ⟨err_zero hright ?_ ?_ ?_, fun d hd => ?_⟩
  · show Po.fits (Pn.byte b 0 % 65) ((Pn.dec (rest b)).1.length : Nat) (Pn.byte b 1 % 16 + 1) = true
    simp [Po.fits]; omega
  · show ((List.range (cnt b)).map (draw b)).length ≤ 255
    simp [cnt]; omega
  · show ((rest b).drop (used b)).all okPick = true
    rw [List.all_eq_true]
    intro x hx
    have := hr x (List.mem_of_mem_drop hx)
    simp [okPick]; omega
  · have hd' : d ∈ (List.range (cnt b)).map (draw b) := hd
    obtain ⟨k, _, rfl⟩ := List.mem_map.1 hd'
    have a := Pn.byte_range h (3 + 2 * k)
    have c := Pn.byte_range h (4 + 2 * k)
    unfold draw; omega
end Sn
end Go.Proofs.Ytopkfhmdgheghaa
