/-
  Texts LibF WrR WrS ItL RgF RgG of this claim, put together: what they show stands at their heads.
  Conditions: none but those that each theorem states.
-/
import Derived.Test.YtbjnbngpjdoejaaDoorQ14
import Derived.RangeFuncNested
import Derived.RangeFuncCalls
import Derived.RangeFuncLeaves
import Derived.Shelf.Abstract
import Derived.WalkKit
import Derived.OwnWalkIn
import Derived.TacticsInMore
import Derived.LoopIn
namespace Go.Proofs.YtbjnbngpjdoejaaDoor
open Go.RowKit
set_option linter.unusedVariables false
set_option linter.unusedSimpArgs false
set_option linter.unnecessarySimpa false
namespace Wr
theorem index_nil {sep : W} (h : sep ≠ []) : Lib.index [] sep = -1 := by
  cases sep with
  | nil => exact absurd rfl h
  | cons c r => rfl
theorem spl_len {sep : W} (h : sep ≠ []) : ∀ (j k : Nat) (s : W), s.length ≤ j → s.length ≤ k → spl sep j s = spl sep k s
  | 0, k, s, hj, hk => by
    have e : s = [] := List.eq_nil_of_length_eq_zero (by omega)
    subst e
    cases k with
    | zero => rfl
    | succ k => unfold spl; rw [if_pos (index_nil h)]
  | j + 1, 0, s, hj, hk => by
    have e : s = [] := List.eq_nil_of_length_eq_zero (by omega)
    subst e
    unfold spl; rw [if_pos (index_nil h)]
  | j + 1, k + 1, s, hj, hk => by
    unfold spl
    by_cases hi : Lib.index s sep = -1
    · rw [if_pos hi, if_pos hi]
    · rw [if_neg hi, if_neg hi]
      have hl : (s.drop ((Lib.index s sep).toNat + sep.length)).length ≤ s.length - 1 := by
        have : 1 ≤ sep.length := by
          cases sep with
          | nil => exact absurd rfl h
          | cons => simp
        rw [List.length_drop]; omega
      rw [spl_len h j k _ (by omega) (by omega)]
theorem spl_min {sep : W} (h : sep ≠ []) (n : Nat) (s : W) : spl sep (min n (s.length + 1) - 1) s = spl sep (n - 1) s := by
  by_cases hn : n ≤ s.length + 1
  · rw [Nat.min_eq_left hn]
  · rw [Nat.min_eq_right (by omega)]
    exact spl_len h _ _ s (by omega) (by omega)
theorem spl_count {sep : W} : ∀ (k : Nat) (s : W), (spl sep k s).length ≤ k + 1
  | 0, s => by simp [spl]
  | k + 1, s => by
    have ih := spl_count (sep := sep) k (s.drop ((Lib.index s sep).toNat + sep.length))
    unfold spl
    split
    · simp
    · simp; exact ih
theorem spl_small {sep : W} : ∀ (k : Nat) (s : W), ∀ x ∈ spl sep k s, x.length ≤ s.length
  | 0, s, x, hx => by simp [spl] at hx; subst hx; exact Nat.le_refl _
  | k + 1, s, x, hx => by
    unfold spl at hx
    split at hx
    · simp at hx; subst hx; exact Nat.le_refl _
    · rcases List.mem_cons.1 hx with rfl | hx
      · rw [List.length_take]; omega
      · have := spl_small k _ x hx
        rw [List.length_drop] at this; omega
end Wr
namespace Fl
set_option maxRecDepth 100000
section
variable {P : Program} {F : FuncId} {ds : List D} {L : List Res} {ι : Type} {post : ι → D × List Res} {fn : Func} {body : Code} {N : Nat}
theorem ConW.introH {H : World → Prop} (hf : P.funcs[F]? = some fn) (hb : fn.body = some body) (hN : fn.ntmps = N) (hn : Nat.ble ds.length N = true)
    (h : ∀ ok e, H e → (∃ ok', ∀ r ∈ L, r.holds ok' e) → J P (cx F ok e L post N) [.code body] (frm0 0 ds) L) : ConW H P F ds L post := ⟨fun ok e xs hH hd hr ha ho =>
  (ConW.intro (H := fun w => H w ∧ ∃ ok', ∀ r ∈ L, r.holds ok' w) hf hb hN hn (fun ok e he => h ok e he.1 he.2)).go ok e xs ⟨hH, ok, hr⟩ hd hr ha ho⟩
end
def Hw (w : World) : Prop := Tb w ∧ (∃ m, w.var? Tryd.prog "internal/bytealg.MaxLen" = some #[.int .i64 m]) ∧ (∃ tp p, w.var? Tryd.prog "strconv.ErrSyntax" = some #[.iface tp p]) ∧ (∃ tp p, w.var? Tryd.prog "strconv.ErrRange" = some #[.iface tp p])
theorem var_grows {w w' : World} {P : Program} {n : String} {cs : Array Value} (h : w.var? P n = some cs) (k : Keeps [] w w') : w'.var? P n = some cs := by
  unfold World.var? at h ⊢
  rw [Option.bind_eq_some_iff] at h ⊢
  obtain ⟨g, hg, h⟩ := h
  refine ⟨g, hg, ?_⟩
  have hlt : g < w.heap.size := by
    rcases Nat.lt_or_ge g w.heap.size with h' | h'
    · exact h'
    · rw [Array.getElem?_eq_none h'] at h; cases h
  rw [k.block g hlt (by simp)]
  exact h
theorem var_cell {w : World} {P : Program} {n : String} {g : Nat} {v : Value} (hg : P.globalNamed n = some g) (h : w.var? P n = some #[v]) : w.cell? ⟨g, 0, none⟩ = some v := by
  unfold World.var? at h
  rw [hg, Option.bind_some] at h
  split at h
  · rename_i cs _ _ hh
    simp only [Option.some.injEq] at h
    subst h
    simp [World.cell?, hh]
  · cases h
theorem max_cell {w : World} {m : Int} (h : w.var? Tryd.prog "internal/bytealg.MaxLen" = some #[.int .i64 m]) : w.cell? ⟨0, 0, none⟩ = some (.int .i64 m) := var_cell (by kernel_rfl) h
theorem var_keeps {w w' : World} {P : Program} {n : String} {cs : Array Value} {b : Nat} {vs : List Value} {t : TypeId} (h : w.var? P n = some cs) (hc : cs.size ≠ 6) (hb : Blk w b vs t) (hv : vs.length = 6) (k : Keeps [b] w w') : w'.var? P n = some cs := by
  unfold World.var? at h ⊢
  rw [Option.bind_eq_some_iff] at h ⊢
  obtain ⟨g, hg, h⟩ := h
  refine ⟨g, hg, ?_⟩
  have hlt : g < w.heap.size := by
    rcases Nat.lt_or_ge g w.heap.size with h' | h'
    · exact h'
    · rw [Array.getElem?_eq_none h'] at h; cases h
  have hne : g ≠ b := by
    rintro rfl
    unfold Blk at hb
    rw [hb] at h
    simp only [Option.some.injEq] at h
    subst h
    simp at hc; omega
  rw [k.block g hlt (by simpa using hne)]
  exact h
theorem Hw.keeps {w w' : World} (h : Hw w) {b : Nat} {vs : List Value} {t : TypeId} (hb : Blk w b vs t) (hv : vs.length = 6) (k : Keeps [b] w w') : Hw w' := by
  obtain ⟨a, ⟨m, b'⟩, ⟨t1, p1, c⟩, ⟨t2, p2, d⟩⟩ := h
  exact ⟨by unfold Tb Lib.TabIs at a ⊢; exact var_keeps a (by simp [Lib.pow10Tab]) hb hv k, ⟨m, var_keeps b' (by simp) hb hv k⟩, ⟨t1, p1, var_keeps c (by simp) hb hv k⟩, ⟨t2, p2, var_keeps d (by simp) hb hv k⟩⟩
theorem Hw.grows {w w' : World} (h : Hw w) (k : Keeps [] w w') : Hw w' := by
  obtain ⟨a, ⟨m, b⟩, ⟨t1, p1, c⟩, ⟨t2, p2, d⟩⟩ := h
  exact ⟨a.grows k, ⟨m, var_grows b k⟩, ⟨t1, p1, var_grows c k⟩, ⟨t2, p2, var_grows d k⟩⟩
theorem PureW.mono {H H' : World → Prop} {P : Program} {F : FuncId} {ds : List D} {d : D} (h : PureW H P F ds d) (hh : ∀ w, H' w → H w) : PureW H' P F ds d := ⟨fun ok e xs a => h.go ok e xs (hh e a)⟩
theorem drewN_keeps (w : World) : ∀ n, Keeps [] w (w.drewN n) := fun n => ⟨rfl, rfl, rfl, Nat.le_refl _, fun _ _ _ => rfl⟩
theorem l_cut (s sep : Wr.W) (hs : s.length ≤ 70000) : PureW Hw Tryd.prog 29 [.c (sA s), .c (sA sep)] (.tup [.c (sA (Lib.cut s sep).1), .c (sA (Lib.cut s sep).2.1), .c (bI (Lib.cut s sep).2.2)]) :=
  PureW.plain fun ok e xs hH hd => by
    obtain ⟨v, ys, rfl, r, h⟩ := hd.c
    obtain ⟨v2, ys2, rfl, r2, h2⟩ := h.c
    rw [h2.nil_]
    unfold sA RA at r r2
    rw [r.1, r2.1]
    obtain ⟨_, ⟨m, hm'⟩, _⟩ := hH
    have hm := max_cell hm'
    refine (Tryd.strings_Cut ⟨s.toArray⟩ ⟨sep.toArray⟩ m e (by simp [ByteArray.size]; omega) hm).mono ?_
    rintro en w' ⟨rfl, n, rfl⟩
    refine ⟨_, rfl, drewN_keeps e n, ?_⟩
    unfold RD
    exact ⟨[strV (Lib.cut s sep).1, strV (Lib.cut s sep).2.1, .bool (Lib.cut s sep).2.2], rfl, RDs.cons (RD.v rfl) (RDs.cons (RD.v rfl) (RDs.cons (RD.v rfl) RDs.nil))⟩
theorem l_cutPre (s p : Wr.W) : Pure Tryd.prog 30 [.c (sA s), .c (sA p)] (.tup [.c (sA (Lib.trimPrefix s p)), .c (bI (Lib.hasPrefix s p))]) :=
  Con.plain fun ok e xs hd => by
    obtain ⟨v, ys, rfl, r, h⟩ := hd.c
    obtain ⟨v2, ys2, rfl, r2, h2⟩ := h.c
    rw [h2.nil_]
    unfold sA RA at r r2
    rw [r.1, r2.1]
    refine (Tryd.strings_CutPrefix ⟨s.toArray⟩ ⟨p.toArray⟩ e).mono ?_
    rintro en w' ⟨rfl, rfl⟩
    refine ⟨_, rfl, Keeps.refl [] _, ?_⟩
    unfold RD
    exact ⟨[strV (Lib.trimPrefix s p), .bool (Lib.hasPrefix s p)], rfl, RDs.cons (RD.v rfl) (RDs.cons (RD.v rfl) RDs.nil)⟩
theorem l_trimPre (s p : Wr.W) : Pure Tryd.prog 47 [.c (sA s), .c (sA p)] (.c (sA (Lib.trimPrefix s p))) :=
  Con.plain fun ok e xs hd => by
    obtain ⟨v, ys, rfl, r, h⟩ := hd.c
    obtain ⟨v2, ys2, rfl, r2, h2⟩ := h.c
    rw [h2.nil_]
    unfold sA RA at r r2
    rw [r.1, r2.1]
    refine (Tryd.strings_TrimPrefix ⟨s.toArray⟩ ⟨p.toArray⟩ e).mono ?_
    rintro en w' ⟨rfl, rfl⟩
    exact ⟨_, rfl, Keeps.refl [] _, RD.v rfl⟩
theorem l_atoi (s : Wr.W) (hs : s.length ≤ 70000) : PureW Hw Tryd.prog 46 [.c (sA s)] (.tup [.c (nI (Wr.atV s)), .any]) :=
  PureW.plain fun ok e xs hH hd => by
    obtain ⟨v, ys, rfl, r, h⟩ := hd.c
    rw [h.nil_]
    unfold sA RA at r
    rw [r.1]
    obtain ⟨_, _, ⟨t1, p1, h1⟩, ⟨t2, p2, h2⟩⟩ := hH
    have hz : (⟨s.toArray⟩ : ByteArray).size = s.length := by simp [ByteArray.size]
    unfold Wr.atV
    rcases ha : Lib.atoiAll s with v | _ | _
    · refine (Tryd.strconv_Atoi_ok ⟨s.toArray⟩ (by omega) v ha e).mono ?_
      rintro en w' ⟨rfl, hw⟩
      refine ⟨_, rfl, ?_, ?_⟩
      · rcases hw with rfl | ⟨t, rfl⟩
        · exact Keeps.refl [] _
        · exact Keeps.of_below (Lib.bytesWorld_below e 5 t)
      · unfold RD
        exact ⟨[.int .i64 v, .nilIface], rfl, RDs.cons (RD.v rfl) (RDs.cons (by unfold RD; trivial) RDs.nil)⟩
    · refine (Tryd.strconv_Atoi_syntax_var ⟨s.toArray⟩ (by omega) ha t1 p1 e h1).mono ?_
      rintro en w' ⟨N, rfl, _, _, hb⟩
      refine ⟨_, rfl, Keeps.of_below hb, ?_⟩
      unfold RD
      exact ⟨[.int .i64 0, _], rfl, RDs.cons (RD.v rfl) (RDs.cons (by unfold RD; trivial) RDs.nil)⟩
    · refine (Tryd.strconv_Atoi_range_var ⟨s.toArray⟩ (by omega) ha t2 p2 e h2).mono ?_
      rintro en w' ⟨N, rfl, _, _, hb⟩
      refine ⟨_, rfl, Keeps.of_below hb, ?_⟩
      unfold RD
      exact ⟨[.int .i64 (Lib.atoiSat s), _], rfl, RDs.cons (RD.v rfl) (RDs.cons (by unfold RD; trivial) RDs.nil)⟩
theorem l_splitN (s sep : Wr.W) (n : Nat) (hs : s.length ≤ 70000) (h1 : sep ≠ []) (hn : 1 ≤ n) (hm : n ≤ 100) : PureW Hw Tryd.prog 45 [.c (sA s), .c (sA sep), .c (nI n)] (.c (.r 1 ((Wr.spl sep (n - 1) s).map eW))) :=
  PureW.plain fun ok e xs hH hd => by
    obtain ⟨v, ys, rfl, r, h⟩ := hd.c
    obtain ⟨v2, ys2, rfl, r2, h2⟩ := h.c
    obtain ⟨v3, ys3, rfl, r3, h3⟩ := h2.c
    rw [h3.nil_]
    unfold sA RA at r r2
    unfold nI RA at r3
    rw [r.1, r2.1, r3.1]
    obtain ⟨_, ⟨m, hm'⟩, _⟩ := hH
    have hm := max_cell hm'
    have hz : (⟨s.toArray⟩ : ByteArray).size = s.length := by simp [ByteArray.size]
    have hz2 : 1 ≤ (⟨sep.toArray⟩ : ByteArray).size := by
      cases sep with
      | nil => exact absurd rfl h1
      | cons => simp [ByteArray.size]
    refine (Tryd.strings_SplitN ⟨s.toArray⟩ ⟨sep.toArray⟩ n m e (by omega) hm hz2 hn (by omega)).mono ?_
    rintro en w' ⟨rfl, rfl⟩
    rw [hz, Wr.splitB_spl, Wr.spl_min h1]
    have hc := Wr.spl_count (sep := sep) (n - 1) s
    have hc2 : (Wr.spl sep (n - 1) s).length ≤ min n (s.length + 1) := by
      rw [← Wr.spl_min h1]
      have := Wr.spl_count (sep := sep) (min n (s.length + 1) - 1) s
      omega
    generalize Wr.spl sep (n - 1) s = l at hc hc2 ⊢
    refine ⟨_, rfl, (Keeps.refl [] e).alloc _, ?_⟩
    unfold RD
    refine RA.of_view (ys := l.map strV) (S := [e.heap.size]) ⟨by simp, _, _, by simp; rfl, by simpa using hc2, by unfold maxLen; omega, .inr ⟨e.heap.size, 0, rfl, rfl, by simp, fun j hj => ?_⟩⟩ ?_ (by simp)
    · have hb := Blk.new e (Lib.cellsOf (l.map fun l => ⟨l.toArray⟩) (min n (s.length + 1))).toList 9
      have := hb.cell j
      simp only [Nat.zero_add]
      simp at hj
      have hx : (Lib.cellsOf (l.map fun l => (⟨l.toArray⟩ : ByteArray)) (min n (s.length + 1))).toList[j]? = (l.map strV)[j]? := by
        unfold Lib.cellsOf
        simp only [List.map_map]
        rw [List.getElem?_append_left (by simpa using hj)]
        rfl
      rw [← hx, ← this]
    · have key : ∀ l : List Wr.W, RX (fun g => ok g ∨ e.heap.size ≤ g) (e.alloc (.cells (Lib.cellsOf (l.map fun l => ⟨l.toArray⟩) (min n (s.length + 1))) 9)) 1 (l.map eW) (l.map strV) → True := fun _ _ => trivial
      have key2 : ∀ (ok : Nat → Prop) (w : World) (l : List Wr.W), RX ok w 1 (l.map eW) (l.map strV) := by
        intro ok w l
        induction l with
        | nil => rfl
        | cons z l ih => exact ⟨[strV z], l.map strV, rfl, rfl, RC.cons (RA.w rfl) RC.nil, ih⟩
      exact key2 _ _ l
end Fl
end Go.Proofs.YtbjnbngpjdoejaaDoor
namespace Go.Proofs.YtbjnbngpjdoejaaDoor
set_option linter.unusedVariables false
set_option linter.unusedSimpArgs false
set_option linter.unnecessarySimpa false
namespace Wr
def nb (x : W) : Bool := x != barW
theorem dropW_le (r : List W) : (r.dropWhile nb).length ≤ r.length := by
  have := congrArg List.length (List.takeWhile_append_dropWhile (p := nb) (l := r))
  rw [List.length_append] at this
  omega
def csRun : List W → List Pn.Cs → Bool → (List Pn.Cs × Bool) × Bool
  | [], cs, e => ((cs, e), true)
  | x :: r, cs, e =>
    if x ≠ barW ∨ e = true then ((cs, e), false)
    else if r.takeWhile nb = [elseW] then csRun (r.dropWhile nb) cs true
    else match one (r.takeWhile nb) with
      | none => ((cs, e), false)
      | some c => csRun (r.dropWhile nb) (cs ++ [c]) e
termination_by w => w.length
decreasing_by
  · have := dropW_le r; simp; omega
  · have := dropW_le r; simp; omega
theorem split_tw : ∀ r : List W, ∃ gs, split barW r = r.takeWhile nb :: gs ∧ ((r.dropWhile nb = [] ∧ gs = []) ∨ ∃ r', r.dropWhile nb = barW :: r' ∧ gs = split barW r')
  | [] => ⟨[], rfl, .inl ⟨rfl, rfl⟩⟩
  | x :: r => by
    by_cases h : x = barW
    · subst h
      refine ⟨split barW r, ?_, .inr ⟨r, ?_, rfl⟩⟩
      · rw [split, if_pos rfl]; rfl
      · rfl
    · obtain ⟨gs, h1, h2⟩ := split_tw r
      have hn : nb x = true := by unfold nb; simpa using h
      refine ⟨gs, ?_, ?_⟩
      · rw [split, if_neg h, h1, List.takeWhile_cons, hn]; rfl
      · rw [List.dropWhile_cons, hn]; exact h2
theorem csRun_bar (r : List W) (cs : List Pn.Cs) : csRun (barW :: r) cs false = if r.takeWhile nb = [elseW] then csRun (r.dropWhile nb) cs true else match one (r.takeWhile nb) with
    | none => ((cs, false), false)
    | some c => csRun (r.dropWhile nb) (cs ++ [c]) false := by
  rw [csRun, if_neg (by simp)]
theorem run_parts : ∀ (n : Nat) (r : List W) (cs : List Pn.Cs), r.length ≤ n → match parts (split barW r) with
    | some (cs', e) => csRun (barW :: r) cs false = ((cs ++ cs', e), true)
    | none => (csRun (barW :: r) cs false).2 = false
  | n, r, cs, hn => by
    obtain ⟨gs, h1, h2⟩ := split_tw r
    have dl := dropW_le r
    rw [h1, parts, csRun_bar]
    by_cases he : r.takeWhile nb = [elseW]
    · rw [if_pos he, if_pos he]
      rcases h2 with ⟨h3, rfl⟩ | ⟨r', h3, rfl⟩
      · rw [if_pos rfl, h3, csRun]; simp
      · rw [if_neg (split_ne _ _), h3, csRun, if_pos (.inr rfl)]
    · rw [if_neg he, if_neg he]
      cases ho : one (r.takeWhile nb) with
      | none => simp
      | some c =>
        rcases h2 with ⟨h3, rfl⟩ | ⟨r', h3, rfl⟩
        · simp [h3, parts, csRun]
        · have hl : r'.length < n := by
            have := congrArg List.length h3
            simp at this; omega
          obtain ⟨m, rfl⟩ : ∃ m, n = m + 1 := ⟨n - 1, by omega⟩
          have ih := run_parts m r' (cs ++ [c]) (by omega)
          simp only [h3]
          cases hp : parts (split barW r') with
          | none => rw [hp] at ih; simpa using ih
          | some x =>
            obtain ⟨cs', e⟩ := x
            rw [hp] at ih
            simp only at ih ⊢
            rw [ih]; simp
theorem cased_run (w : List W) : match cased w with
    | some x => csRun w [] false = (x, true)
    | none => (csRun w [] false).2 = false := by
  cases w with
  | nil => simp [cased, csRun]
  | cons x r =>
    unfold cased
    rw [if_neg (by simp)]
    by_cases hx : x = barW
    · subst hx
      have := run_parts r.length r [] (Nat.le_refl _)
      rw [split, if_pos rfl]
      simp only
      cases hp : parts (split barW r) with
      | none => rw [hp] at this; exact this
      | some y => obtain ⟨cs, e⟩ := y; rw [hp] at this; simpa using this
    · have e1 : split barW (x :: r) = (x :: (split barW r).headD []) :: (split barW r).tail := by rw [split, if_neg hx]
      rw [e1]
      simp only
      rw [csRun, if_pos (.inl hx)]
theorem run_at {w : List W} {at_ j : Nat} (h1 : at_ ≤ j) (h2 : j ≤ w.length) (h3 : ∀ x ∈ (w.take j).drop at_, nb x = true) (h4 : j < w.length → w[j]? = some barW) :
    (w.drop at_).takeWhile nb = (w.take j).drop at_ ∧ (w.drop at_).dropWhile nb = w.drop j := by
  have e : w.drop at_ = (w.take j).drop at_ ++ w.drop j := by
    conv => lhs; rw [← List.take_append_drop j w]
    rw [List.drop_append_of_le_length (by simp; omega)]
  have hz : (w.drop j).takeWhile nb = [] ∧ (w.drop j).dropWhile nb = w.drop j := by
    by_cases hj : j < w.length
    · have := h4 hj
      obtain ⟨_, hb⟩ := List.getElem?_eq_some_iff.1 this
      rw [List.drop_eq_getElem_cons hj, hb]
      exact ⟨rfl, rfl⟩
    · rw [List.drop_of_length_le (by omega)]
      exact ⟨rfl, rfl⟩
  rw [e, List.takeWhile_append_of_pos h3, List.dropWhile_append_of_pos h3, hz.1, hz.2]
  simp
end Wr
end Go.Proofs.YtbjnbngpjdoejaaDoor
namespace Go.Proofs.YtbjnbngpjdoejaaDoor
set_option linter.unusedVariables false
set_option linter.unusedSimpArgs false
set_option linter.unnecessarySimpa false
namespace Wr
def goW : W := [103, 111]
abbrev PSt := Option (List (List Pn.Op) × List Pn.Op)
def flat : PSt → List (List Pn.Op)
  | none => []
  | some (d, c) => d ++ [c]
def stepP (st : PSt) (x : W × Bool) : Option PSt :=
  if x.2 = false then none
  else if x.1 = goW then (if (flat st).length < 8 then some (some (flat st, [])) else none)
  else match st, read x.1 with
    | some (d, c), some o => if c.length < 16 then some (some (d, c ++ [o])) else none
    | _, _ => none
def runP : List (W × Bool) → PSt → Int → List (List Pn.Op) × Int
  | [], st, _ => (flat st, 0)
  | x :: r, st, i => match stepP st x with
    | none => ([], i + 1)
    | some st' => runP r st' (i + 1)
def lnOf : List W → List (W × Bool)
  | [] => []
  | [a] => if a = [] then [] else [(a, false)]
  | a :: b :: r => (a, true) :: lnOf (b :: r)
def prs (s : W) : List (List Pn.Op) × Int := if lnOf (split 10 s) = [] then ([], 1) else runP (lnOf (split 10 s)) none 0
def PSt.ok (st : PSt) : Prop := (flat st).length ≤ 8 ∧ ∀ d c, st = some (d, c) → c.length ≤ 16
theorem stepP_ok {st st' : PSt} {x : W × Bool} (h : stepP st x = some st') (hk : st.ok) : st'.ok := by
  unfold stepP at h
  split at h
  · cases h
  · split at h
    · split at h
      · rename_i hl
        simp only [Option.some.injEq] at h
        subst h
        refine ⟨by show (flat st ++ [[]]).length ≤ 8; simp; omega, fun d c e => ?_⟩
        simp only [Option.some.injEq, Prod.mk.injEq] at e
        rw [← e.2]; simp
      · cases h
    · split at h
      · rename_i d c o hr
        split at h
        · rename_i hl
          simp only [Option.some.injEq] at h
          subst h
          refine ⟨by have := hk.1; simpa [flat] using this, fun d' c' e => ?_⟩
          simp only [Option.some.injEq, Prod.mk.injEq] at e
          rw [← e.2]; simp; omega
        · cases h
      · cases h
def lastD : List W → W
  | [] => []
  | [a] => a
  | _ :: b :: r => lastD (b :: r)
theorem last_app : ∀ {p : List W}, p ≠ [] → p = p.dropLast ++ [lastD p]
  | [], h => absurd rfl h
  | [a], _ => rfl
  | a :: b :: r, _ => by
    have ih := last_app (p := b :: r) (by simp)
    show a :: b :: r = a :: ((b :: r).dropLast ++ [lastD (b :: r)])
    rw [← ih]
theorem lnOf_eq : ∀ {p : List W}, p ≠ [] → lnOf p = p.dropLast.map (fun x => (x, true)) ++ (if lastD p = [] then [] else [(lastD p, false)])
  | [], h => absurd rfl h
  | [a], _ => rfl
  | a :: b :: r, _ => by
    have ih := lnOf_eq (p := b :: r) (by simp)
    rw [lnOf, ih]
    rfl
def lsOf (p : List W) : List W := if lastD p = [] then p.dropLast else p
theorem ls_len {p : List W} (h : p ≠ []) : (lnOf p).length = (lsOf p).length := by
  rw [lnOf_eq h]
  unfold lsOf
  have : p.length ≠ 0 := fun e => h (List.eq_nil_of_length_eq_zero e)
  split <;> simp; omega
theorem ls_at {p : List W} (h : p ≠ []) {i : Nat} {x : W} (hx : (lsOf p)[i]? = some x) : (lnOf p)[i]? = some (x, decide (i + 1 < (lsOf p).length) || decide (lastD p = [])) := by
  rw [lnOf_eq h]
  have hi := (List.getElem?_eq_some_iff.1 hx).1
  unfold lsOf at hx hi ⊢
  by_cases e : lastD p = []
  · rw [if_pos e] at hx hi ⊢
    rw [if_pos e, List.append_nil, List.getElem?_map, hx]
    simp only [e, decide_true, Bool.or_true, Option.map_some]
  · rw [if_neg e] at hx hi ⊢
    rw [if_neg e]
    have pl := last_app h
    have hl : p.dropLast.length = p.length - 1 := by simp
    by_cases hk : i + 1 < p.length
    · have hx' : p.dropLast[i]? = some x := by
        rw [pl, List.getElem?_append_left (by omega)] at hx
        exact hx
      rw [List.getElem?_append_left (by simp; omega), List.getElem?_map, hx']
      simp [hk]
    · have hi2 : i = p.length - 1 := by omega
      have hx' : lastD p = x := by
        rw [pl, List.getElem?_append_right (by omega)] at hx
        rw [hl, hi2] at hx
        simpa using hx
      rw [List.getElem?_append_right (by simp; omega), List.length_map, hl, hi2, Nat.sub_self, hx']
      rw [hx'] at e
      have h1 : decide (p.length - 1 + 1 < p.length) = false := decide_eq_false (by omega)
      have h2 : decide (x = []) = false := decide_eq_false e
      rw [h1, h2]
      rfl
end Wr
end Go.Proofs.YtbjnbngpjdoejaaDoor
namespace Go.Proofs.YtbjnbngpjdoejaaDoor
open Go.RowKit Go.Shelf
attribute [local go_sem] Oper.semAt_some
set_option linter.unusedVariables false
set_option linter.unusedSimpArgs false
set_option linter.unnecessarySimpa false
namespace Wr
theorem cut_lines {s : W} (h : s ≠ []) : lnOf (split 10 s) = ((Lib.cut s [10]).1, (Lib.cut s [10]).2.2) :: lnOf (split 10 (Lib.cut s [10]).2.1) ∧ (Lib.cut s [10]).2.1.length < s.length ∧ (Lib.cut s [10]).1.length ≤ s.length := by
  have hl : 1 ≤ s.length := by
    cases s with
    | nil => exact absurd rfl h
    | cons => simp
  by_cases hm : (10 : UInt8) ∈ s
  · obtain ⟨a, r, e, hn⟩ := List.eq_append_cons_of_mem hm
    rw [e, cut_at hn, split_app hn]
    obtain ⟨x, t, e2⟩ := split_cons (10 : UInt8) r
    refine ⟨?_, by simp only [List.length_append, List.length_cons]; omega, by simp only [List.length_append]; omega⟩
    simp only
    rw [e2, lnOf]
  · rw [cut_no hm, split_none hm]
    refine ⟨?_, by simp; omega, by simp⟩
    simp [lnOf, h, split]
theorem cut_lt {s : W} (h : s ≠ []) : (Lib.cut s [10]).2.1.length < s.length := (cut_lines h).2.1
end Wr
namespace Fl
def lenAt (b : Nat) (w : World) : Nat := match w.cell? ⟨b, 0, none⟩ with
  | some (.string s) => s.size
  | _ => 0
theorem lenAt_of {b : Nat} {w : World} {s : Wr.W} (h : w.cell? ⟨b, 0, none⟩ = some (strV s)) : lenAt b w = s.length := by
  unfold lenAt
  rw [h]
  simp [strV, ByteArray.size]
set_option maxRecDepth 100000 in
set_option maxHeartbeats 4000000 in
theorem lines_it (l bs : Nat) (A : Wr.W → World → Prop) (X : World → Prop)
    (hA : ∀ s w, A s w → s.length ≤ 60000 ∧ w.cell? ⟨bs, 0, none⟩ = some (strV s) ∧ w.frozen? ⟨bs, 0, none⟩ = false ∧ Hw w ∧ ∀ n, A s (w.drewN n))
    (hY : ∀ s w, A s w → s ≠ [] → YieldAt Fence.wide 0 Tryd.prog l #[strV (Lib.cut s [10]).1, .bool (Lib.cut s [10]).2.2] w fun e w' =>
      (e = .returned (.bool true) ∧ w'.cell? ⟨bs, 0, none⟩ = some (strV s) ∧ w'.frozen? ⟨bs, 0, none⟩ = false ∧ A (Lib.cut s [10]).2.1 (w'.setCell ⟨bs, 0, none⟩ (strV (Lib.cut s [10]).2.1))) ∨ (e = .returned (.bool false) ∧ X w'))
    (s0 : Wr.W) (w0 : World) (h0 : A s0 w0) :
    CallsIn Fence.wide 0 Tryd.prog 28 #[.func (.yield l) #[] #[], .pointer (some ⟨bs, 0, none⟩)] w0 fun e w' => (∃ v, e = .returned v) ∧ (A [] w' ∨ X w') := by
  refine callsIn_of_wp Tryd.func28 rfl trivial ?_ rfl
  simp only [Tryd.ntmps28, List.size_toArray, List.length_cons, List.length_nil, Nat.reduceAdd, Nat.reduceSub, Array.replicate_succ, Array.replicate_zero, List.push_toArray, List.append_toArray, List.nil_append, List.cons_append]
  gi_wp2
  gi_loopw [3] (fun p wr => ∃ s : Wr.W, A s wr) (fun p wr => lenAt bs wr)
  case atStart =>
    exact ⟨s0, h0⟩
  case round =>
    obtain ⟨s, hs⟩ := hrel
    obtain ⟨h1, hc0, hf, hH, hd⟩ := hA s _ hs
    have hc : wr.cell? ⟨bs, 0, none⟩ = some (.string ⟨s.toArray⟩) := hc0
    have hm : lenAt bs wr = s.length := lenAt_of hc0
    clear hc0
    cases s with
    | nil =>
      gi_wp2
      go_end0
      exact ⟨⟨_, rfl⟩, .inl hs⟩
    | cons c r =>
      obtain ⟨m, hm'⟩ := hH.2.1
      have CUT : Calls Tryd.prog 29 #[.string ⟨(c :: r).toArray⟩, .string ⟨#[10]⟩] wr fun e w' => e = .returned (.tuple #[.string ⟨(Lib.cut (c :: r) [10]).1.toArray⟩, .string ⟨(Lib.cut (c :: r) [10]).2.1.toArray⟩, .bool (Lib.cut (c :: r) [10]).2.2]) ∧ ∃ n, w' = wr.drewN n := Tryd.strings_Cut ⟨(c :: r).toArray⟩ ⟨#[10]⟩ m wr (by simp [ByteArray.size] at h1 ⊢; omega) (max_cell hm')
      gi_wp2
      refine ⟨trivial, rfl, (callsIn_wide.2 CUT).mono ?_⟩
      rintro e w1 ⟨rfl, n, rfl⟩
      obtain ⟨fn, tmps, assign, body, hy, hR⟩ := hY (c :: r) (wr.drewN n) (hd n) (by simp)
      simp only [strV] at hy hR
      gi_wp2
      refine ⟨rfl, hR.mono ?_⟩
      rintro e W3 (⟨rfl, hc3, hf3, hA3⟩ | ⟨rfl, hX⟩)
      · have hc4 : W3.cell? ⟨bs, 0, none⟩ = some (.string ⟨(c :: r).toArray⟩) := hc3
        have hm3 := lenAt_of (hA _ _ hA3).2.1
        have hlt := Wr.cut_lt (s := c :: r) (by simp)
        clear hc3
        gi_wp2
        go_roundw
        case rel => exact ⟨_, hA3⟩
        case measure =>
          rw [hm]
          exact hm3 ▸ hlt
      · gi_wp2
        refine bodyPost_ret (results_none rfl _ _ _) rfl ?_
        exact ⟨⟨_, rfl⟩, .inr hX⟩
end Fl
end Go.Proofs.YtbjnbngpjdoejaaDoor
namespace Go.Proofs.YtbjnbngpjdoejaaDoor
open Go.RowKit
set_option linter.unusedVariables false
set_option linter.unusedSimpArgs false
set_option linter.unnecessarySimpa false
namespace Fl
section
variable {P : Program} {c : Cx} {k : List Item} {f : Fm} {L L2 : List Res}
theorem St.permR (hp : L2.Perm L) {a : Act} {w : World} (s : St c f L a w) : St c f L2 a w := by
  have hm : ∀ x, x ∈ foots L2 ↔ x ∈ foots L := fun x => foots_perm hp x
  have ho : okk c L2 = okk c L := by funext x; unfold okk; rw [hm]
  refine ⟨s.kp, s.size, s.dfr, fun q hq => by rw [ho]; exact s.res q (hp.mem_iff.1 hq), fun x hx => s.frm x ((hm x).1 hx), ?_, fun t d ht => by rw [ho]; exact s.fr t d ht⟩
  exact (hp.pairwise_iff (fun {x y} hxy z hz hz' => hxy z hz' hz)).2 s.ap
theorem St.moreR {a : Act} {w : World} (s : St c f L a w) (o : Obj) {Φ : World → Prop} (h : ∀ w' S, Keeps S (w.alloc o) w' → w.heap.size ∉ S → Φ w') : St c f (.obj [w.heap.size] Φ :: L) a (w.alloc o) := by
  have k : Keeps [] w (w.alloc o) := (Keeps.refl [] w).alloc o
  have hr : ∀ x ∈ (Res.obj [w.heap.size] Φ).foot, w.heap.size ≤ x := by simp [Res.foot]
  have m : Mon (okk c L) (okk c (.obj [w.heap.size] Φ :: L)) w (w.alloc o) := Mon.of_keeps k fun g hg ho => ⟨okk_cons_new hr g hg ho, by simp⟩
  refine ⟨s.kp.trans k (by simp), s.size, s.dfr, fun q hq => ?_, fun x hx => ?_, List.pairwise_cons.2 ⟨fun q hq x hx hx' => ?_, s.ap⟩, fun t d ht => RD.mon m d _ (s.fr t d ht)⟩
  · rcases List.mem_cons.1 hq with rfl | hq
    · exact ⟨by simp, fun w' S k' hn => h w' S k' (hn _ (by simp))⟩
    · exact (s.res q hq).mon k m (by simp)
  · rw [foots_cons] at hx
    rcases hx with hx | hx
    · exact .inr (Nat.le_trans s.kp.size (hr x hx))
    · exact s.frm x hx
  · have h1 := hr x hx
    have h2 := s.lt x (mem_foots.2 ⟨q, hq, hx'⟩)
    omega
theorem St.after {Ll Lr L' : List Res} {a : Act} {w w' : World} (s : St c f (Ll ++ Lr) a w) (kp : Keeps (foots Ll) w w') (g1 : ∀ y ∈ foots L', y ∈ foots Ll ∨ w.heap.size ≤ y) (g2 : Apart L') (g3 : ∀ q ∈ L', q.holds (okr (okk c (Ll ++ Lr)) w Ll L') w') : St c f (L' ++ Lr) a w' := by
  have hap := List.pairwise_append.1 (show List.Pairwise _ (Ll ++ Lr) from s.ap)
  have hfl : ∀ x, x ∈ foots Ll → x ∈ foots (Ll ++ Lr) := fun x hx => by rw [foots_app]; exact .inl hx
  have hfr : ∀ x, x ∈ foots Lr → x ∈ foots (Ll ++ Lr) := fun x hx => by rw [foots_app]; exact .inr hx
  have hlr : ∀ x, x ∈ foots Ll → x ∉ foots Lr := fun x hx hx' => by
    obtain ⟨q, hq, h1⟩ := mem_foots.1 hx
    obtain ⟨r, hr, h2⟩ := mem_foots.1 hx'
    exact hap.2.2 q hq r hr x h1 h2
  have hok : ∀ g, g < w'.heap.size → okr (okk c (Ll ++ Lr)) w Ll L' g → okk c (L' ++ Lr) g := fun g _ hg => by
    obtain ⟨hg, hn⟩ := hg
    rcases hg with hg | hg | hg
    · exact ⟨hg.1, fun hx => by rcases (foots_app _ _ _).1 hx with hx | hx; exact hn hx; exact hg.2 (hfr g hx)⟩
    · exact ⟨.inr (s.frm g (hfl g hg)), fun hx => by rcases (foots_app _ _ _).1 hx with hx | hx; exact hn hx; exact hlr g hg hx⟩
    · exact ⟨.inr (.inr (Nat.le_trans s.kp.size hg)), fun hx => by
        rcases (foots_app _ _ _).1 hx with hx | hx
        · exact hn hx
        · have := s.lt g (hfr g hx); omega⟩
  have m1 : Mon (okr (okk c (Ll ++ Lr)) w Ll L') (okk c (L' ++ Lr)) w' w' := ⟨Nat.le_refl _, fun g hg ho => ⟨hok g hg ho, rfl⟩⟩
  have m2 : Mon (okk c (Ll ++ Lr)) (okk c (L' ++ Lr)) w w' := Mon.of_keeps kp fun g hg ho => ⟨⟨ho.1, fun hx => by
    rcases (foots_app _ _ _).1 hx with hx | hx
    · rcases g1 g hx with h | h
      · exact ho.2 (hfl g h)
      · omega
    · exact ho.2 (hfr g hx)⟩, fun hx => ho.2 (hfl g hx)⟩
  refine ⟨s.kp.trans kp (fun x hx => s.frm x (hfl x hx)), s.size, s.dfr, fun q hq => ?_, fun x hx => ?_, ?_, fun t d ht => RD.mon m2 d _ (s.fr t d ht)⟩
  · rcases List.mem_append.1 hq with hq | hq
    · exact (g3 q hq).mon (Keeps.refl [] w') m1 (by simp)
    · exact (s.res q (List.mem_append_right _ hq)).mon kp m2 (fun x hx hx' => hlr x hx' (mem_foots.2 ⟨q, hq, hx⟩))
  · rcases (foots_app _ _ _).1 hx with hx | hx
    · rcases g1 x hx with h | h
      · exact s.frm x (hfl x h)
      · exact .inr (Nat.le_trans s.kp.size h)
    · exact s.frm x (hfr x hx)
  · refine List.pairwise_append.2 ⟨g2, hap.2.1, fun q hq r hr x hx hx' => ?_⟩
    have hxr : x ∈ foots Lr := mem_foots.2 ⟨r, hr, hx'⟩
    rcases g1 x (mem_foots.2 ⟨q, hq, hx⟩) with h | h
    · exact hlr x h hxr
    · have := s.lt x (hfr x hxr); omega
end
abbrev lp (l : Nat) (rc : Loop) : Res := .obj [l] fun w => w.heap[l]? = some (.loop rc)
abbrev dO (D : Nat) : Res := .obj [D] fun w => w.heap[D]? = some (.deferred (some []))
def markOf (D : Nat) : Deferred := { target := .collected D, args := #[] }
def busy (rc : Loop) : Loop := { rc with state := .busy }
def cxR (F : FuncId) {κ : Type} (l : Nat) (ok : Nat → Prop) (e : World) (L : List Res) (post : κ → Bool × List Res) (N : Nat) : Cx :=
  { cx F ok e L (fun j => (D.c (.v (.bool (post j).1)), (post j).2)) N with rnd := some l }
section
variable {P : Program} {F : FuncId} {κ : Type} {l N : Nat} {ok : Nat → Prop} {e : World} {L0 L : List Res} {post : κ → Bool × List Res} {k : List Item} {f : Fm}
theorem lp_put {c : Cx} {a : Act} {w : World} {rc rc' : Loop} (s : St c f (lp l rc :: L) a w) : St c f (lp l rc' :: L) a (w.putObj l (.loop rc')) := by
  have hr := s.res (lp l rc) (List.mem_cons_self ..)
  have hlt : l < w.heap.size := hr.1 l (by simp)
  have kp : Keeps [l] w (w.putObj l (.loop rc')) := ⟨rfl, rfl, rfl, by simp, fun i hi hn => World.putObj_heap_other (by simpa using hn)⟩
  exact s.set (i := 0) (r := lp l rc) (r' := lp l rc') rfl rfl kp ⟨fun x hx => by simp at hx; subst hx; simpa using hlt, fun w' S k' hn => by
    show w'.heap[l]? = _
    rw [k'.block l (by simpa using hlt) (hn l (by simp))]
    exact World.putObj_heap_same hlt⟩
theorem lp_at {c : Cx} {a : Act} {w : World} {rc : Loop} (s : St c f (lp l rc :: L) a w) : w.heap[l]? = some (.loop rc) :=
  (s.res (lp l rc) (List.mem_cons_self ..)).2 w [] (Keeps.refl [] w) (by simp)
theorem J.begin_ {rc : Loop} (hc : rc.state = .ready) (h : J P (cxR F l ok e L0 post N) k f (lp l (busy rc) :: L)) : J P (cxR F l ok e L0 post N) (.beginRound :: k) f (lp l rc :: L) := ⟨fun a w s => by
  have h1 := h.go a _ (lp_put (rc' := busy rc) s)
  exact fun b cs hb hk hr => (h1 b cs hb hk hr).of (.one (stepR_beginRound hr (run_beginRound (lp_at s) hc)))⟩
theorem J.rpost {a : Act} {w : World} (s : St (cxR F l ok e L0 post N) f L a w) (j : κ) (hp : (post j).2 = L) : (cxR F l ok e L0 post N).R (.returned (.bool (post j).1)) w := by
  refine ⟨j, _, rfl, s.kp, fun y hy => s.frm y (by rw [hp] at hy; exact hy), by rw [hp]; exact s.ap, ?_, RD.v rfl⟩
  rw [hp]
  exact s.res
theorem J.rfin (j : κ) (hp : post j = (true, L)) : J P (cxR F l ok e L0 post N) [] f L := ⟨fun a w s b cs hb hk hr =>
  ⟨.returned (.bool true), w, a, [], by have := J.rpost s j (by rw [hp]); rw [hp] at this; exact this, .refl _ _, .inl ⟨rfl, rfl⟩⟩⟩
theorem J.rret (j : κ) (hp : post j = (false, L)) : J P (cxR F l ok e L0 post N) (.code .ret :: k) f L := ⟨fun a w s b cs hb hk hr =>
  ⟨.returned (.bool false), w, a, .code .ret :: k, by have := J.rpost s j (by rw [hp]); rw [hp] at this; exact this, .refl _ _, .inr ⟨rfl, k, rfl⟩⟩⟩
end
def endOf (b : Bool) (rc : Loop) : Loop := { busy rc with state := if b then .ready else .done, pending := if b then none else some .ret }
theorem round_in {P : Program} {F : FuncId} {κ : Type} {l N : Nat} {ok : Nat → Prop} {L0 : List Res} {post : κ → Bool × List Res} {f : Fm} {rc : Loop} {tmps : Array Value} {assign body : Code} {W : World}
    (hpost : ∀ j, ∃ L', (post j).2 = lp l (busy rc) :: L') (hJ : J P (cxR F l ok W L0 post N) [.code assign, .beginRound, .code body] f L0)
    (s : St (cxR F l ok W L0 post N) f L0 { tmps := tmps, defers := [] } W) :
    RoundIn Fence.wide 0 P l F tmps assign body W fun en w2 => ∃ j w', en = .returned (.bool (post j).1) ∧ PostR ok W L0 (.c (.v (.bool (post j).1))) (post j).2 (.returned (.bool (post j).1)) w' ∧ w2 = w'.putObj l (.loop (endOf (post j).1 rc)) := by
  refine ⟨trivial, fun c cs _ => ?_⟩
  let b : Frame := { (default : Frame) with fn := F, kind := .normal, roundOf := some l }
  have hb0 : Frame.round l F tmps assign body .normal = b.atR { tmps := tmps, defers := [] } [.code assign, .beginRound, .code body] := by
    simp [Frame.round, Frame.atR, b]
  obtain ⟨en, w', a', k', hR, hs, hfin⟩ := hJ.go _ W s b (c :: cs) rfl rfl rfl
  obtain ⟨j, x, hen, h1, h2, h3, h4, h5⟩ := hR
  have hx : x = .bool (post j).1 := by
    unfold RD RA at h5; exact h5.1
  subst hx
  obtain ⟨L', hL'⟩ := hpost j
  have hl : w'.heap[l]? = some (.loop (busy rc)) := (h4 (lp l (busy rc)) (by simp only [hL']; exact List.mem_cons_self ..)).2 w' [] (Keeps.refl [] w') (by simp)
  rw [← hb0] at hs
  rcases hfin with ⟨he, rfl⟩ | ⟨he, k1, rfl⟩
  · have hb : (post j).1 = true := by
      rw [hen] at he; simpa using he
    have hend := run_endRound (P := P) none hl
    have hst := stepR_round_end (P := P) (b := b) (a := a') (c := c) (cs := cs) (w := w') rfl rfl hend
    refine ⟨.returned (.bool true), _, ⟨j, w', by rw [hb], ⟨_, rfl, h1, h2, h3, h4, h5⟩, rfl⟩, ?_⟩
    rw [hb]
    exact stepsIn_wide.2 (hs.trans (.one hst))
  · have hb : (post j).1 = false := by
      rw [hen] at he; simpa using he
    have hend := run_endRound (P := P) (some .ret) hl
    have hst := stepR_round_ret (P := P) (b := b) (a := a') (k := k1) (c := c) (cs := cs) (w := w') rfl rfl hend
    refine ⟨.returned (.bool false), _, ⟨j, w', by rw [hb], ⟨_, rfl, h1, h2, h3, h4, h5⟩, rfl⟩, ?_⟩
    rw [hb]
    exact stepsIn_wide.2 (hs.trans (.one hst))
def LinesIt (P : Program) (g : FuncId) : Prop := ∀ (l bs : Nat) (A : Wr.W → World → Prop) (X : World → Prop),
  (∀ s w, A s w → s.length ≤ 60000 ∧ w.cell? ⟨bs, 0, none⟩ = some (strV s) ∧ w.frozen? ⟨bs, 0, none⟩ = false ∧ Hw w ∧ ∀ n, A s (w.drewN n)) →
  (∀ s w, A s w → s ≠ [] → YieldAt Fence.wide 0 P l #[strV (Lib.cut s [10]).1, .bool (Lib.cut s [10]).2.2] w fun e w' =>
      (e = .returned (.bool true) ∧ w'.cell? ⟨bs, 0, none⟩ = some (strV s) ∧ w'.frozen? ⟨bs, 0, none⟩ = false ∧ A (Lib.cut s [10]).2.1 (w'.setCell ⟨bs, 0, none⟩ (strV (Lib.cut s [10]).2.1))) ∨ (e = .returned (.bool false) ∧ X w')) →
  ∀ (s0 : Wr.W) (w0 : World), A s0 w0 → CallsIn Fence.wide 0 P g #[.func (.yield l) #[] #[], .pointer (some ⟨bs, 0, none⟩)] w0 fun e w' => (∃ v, e = .returned v) ∧ (A [] w' ∨ X w')
theorem linesIt : LinesIt Tryd.prog 28 := fun l bs A X hA hY s0 w0 h0 => lines_it l bs A X hA hY s0 w0 h0
def Cx.mark (c : Cx) (D : Nat) : Cx := { c with dfs := [markOf D] }
section
variable {P : Program} {c : Cx} {k : List Item} {f : Fm} {L L2 : List Res}
theorem St.sub (hs : L2.Sublist L) {a : Act} {w : World} (s : St c f L a w) : St c f L2 a w := by
  have hm : ∀ q, q ∈ L2 → q ∈ L := fun q hq => hs.subset hq
  have hf : ∀ x, x ∈ foots L2 → x ∈ foots L := fun x hx => by
    obtain ⟨q, hq, hx⟩ := mem_foots.1 hx
    exact mem_foots.2 ⟨q, hm q hq, hx⟩
  have mo : Mon (okk c L) (okk c L2) w w := ⟨Nat.le_refl _, fun g _ hg => ⟨⟨hg.1, fun hx => hg.2 (hf g hx)⟩, rfl⟩⟩
  exact ⟨s.kp, s.size, s.dfr, fun q hq => (s.res q (hm q hq)).mon (Keeps.refl [] w) mo (by simp), fun x hx => s.frm x (hf x hx), s.ap.sublist hs, fun t d ht => RD.mon mo d _ (s.fr t d ht)⟩
theorem St.drewN {a : Act} {w : World} (s : St c f L a w) (n : Nat) : St c f L a (w.drewN n) := by
  have m : Mon (okk c L) (okk c L) w (w.drewN n) := Mon.of_keeps ((Keeps.refl [] w).drewN n) fun g _ hg => ⟨hg, by simp⟩
  exact ⟨s.kp.drewN n, s.size, s.dfr, fun r hr => (s.res r hr).mon ((Keeps.refl [] w).drewN n) m (by simp), s.frm, s.ap, fun t d ht => RD.mon m d _ (s.fr t d ht)⟩
theorem St.str {bs T : Nat} {s : Wr.W} {a : Act} {w : World} (h : St c f L a w) (hm : Res.box bs T [sA s] ∈ L) : Blk w bs [strV s] T := by
  obtain ⟨vs, h1, h2⟩ := h.res _ hm
  obtain ⟨ys, e1, r1⟩ := RC.c1 (as_ := []) h2
  have := r1.n0
  subst this e1
  exact h1
theorem Blk.cell0 {w : World} {b T : Nat} {v : Value} (h : Blk w b [v] T) : w.cell? ⟨b, 0, none⟩ = some v ∧ w.frozen? ⟨b, 0, none⟩ = false := by
  unfold Blk at h
  exact ⟨by simp [World.cell?, h], by simp [World.frozen?, h]⟩
end
end Fl
end Go.Proofs.YtbjnbngpjdoejaaDoor
namespace Go.Proofs.YtbjnbngpjdoejaaDoor
open Go.RowKit
set_option linter.unusedVariables false
set_option linter.unusedSimpArgs false
set_option linter.unnecessarySimpa false
namespace Fl
section
variable {P : Program} {c : Cx} {k : List Item} {f : Fm}
theorem Fin.mark {D : Nat} {b : Frame} {cs : List Frame} {m : Machine} (h : Fin P (c.mark D) b cs m) : Fin P c b cs m := h
theorem St.mark {D : Nat} {L : List Res} {a : Act} {w : World} (s : St c f L a w) (hd : c.dfs = []) : St (c.mark D) f L { a with defers := [markOf D] ++ a.defers } w :=
  ⟨s.kp, s.size, by show [markOf D] ++ a.defers = [markOf D]; rw [s.dfr, hd]; rfl, s.res, s.frm, s.ap, fun t d ht => s.fr t d ht⟩
theorem J.rangeLines {t p1 p2 g bs T : Nat} {assign body : Code} [TyC P g] (hr : c.rnd = none) (hd : c.dfs = []) (IT : LinesIt P g) (hW : ∀ w, Keeps c.lent c.e w → Hw w) (hp1 : p1 < c.N) (hp2 : p2 < c.N) (hne : p1 ≠ p2)
    (hg : Fl.look f t = some (.c (.v (.func (.func g) #[] #[.pointer (some ⟨bs, 0, none⟩)])))) {ι κ : Type} (inv : ι → Wr.W → Prop) (Li : ι → List Res) (Lx : κ → List Res) (i0 : ι) {s0 : Wr.W} (h0 : inv i0 s0) (hs0 : s0.length ≤ 60000)
    (round : ∀ (i : ι) (s : Wr.W) (l : Nat) (rc : Loop) (ok : Nat → Prop) (e : World), inv i s → s ≠ [] → s.length ≤ 60000 → rc.state = .ready → (∀ w, Keeps (foots (lp l rc :: Li i)) e w → Hw w) →
      J P (cxR c.F l ok e (lp l rc :: Li i) (fun j : { i' : ι // inv i' (Lib.cut s [10]).2.1 } ⊕ κ => match j with
        | .inl i' => (true, lp l (busy rc) :: Li i'.1)
        | .inr j => (false, lp l (busy rc) :: Lx j)) c.N) [.code assign, .beginRound, .code body] ((p2, .c (.v (.bool (Lib.cut s [10]).2.2))) :: (p1, .c (sA (Lib.cut s [10]).1)) :: f) (lp l rc :: Li i))
    (done : ∀ i, inv i [] → ∀ D, J P (c.mark D) k f (dO D :: Li i))
    (stop : ∀ j D, J P (c.mark D) (.code .ret :: k) f (dO D :: Lx j)) :
    J P c (.code (.rangeFunc (.tmp t) #[p1, p2] assign body) :: k) f (.box bs T [sA s0] :: Li i0) := ⟨fun a w s => by
  intro b cs hb hk hrd
  have hbn : b.roundOf = none := hrd.trans hr
  obtain ⟨rc, hrc⟩ : ∃ rc : Loop, rc = { state := .ready, pending := none, fn := c.F, tmps := a.tmps, params := #[p1, p2], assign, body, defers := w.heap.size } := ⟨_, rfl⟩
  have he : (Instr.enterLoop b.fn a.tmps #[p1, p2] assign body b.roundOf).run P w = .ok (w.heap.size + 1, [markOf w.heap.size]) ((w.alloc (.deferred (some []))).alloc (.loop rc)) := by
    rw [hbn, hb, hrc]; exact run_enterLoop_outer _ _ _ _ _
  have s1 : St c f (dO w.heap.size :: .box bs T [sA s0] :: Li i0) a (w.alloc (.deferred (some []))) := s.moreR (.deferred (some [])) fun w' S k' hn => by
    show w'.heap[w.heap.size]? = _
    rw [k'.block _ (by simp) hn]; exact World.alloc_heap_new w _
  have s2 := s1.moreR (.loop rc) (Φ := fun w' => w'.heap[w.heap.size + 1]? = some (.loop rc)) fun w' S k' hn => by
    have hz : (w.alloc (.deferred (some []))).heap.size = w.heap.size + 1 := by simp
    have := World.alloc_heap_new (w.alloc (.deferred (some []))) (.loop rc)
    rw [hz] at this hn
    rw [k'.block _ (by simp) hn]; exact this
  rw [show (w.alloc (.deferred (some []))).heap.size = w.heap.size + 1 by simp] at s2
  generalize hw1 : (w.alloc (.deferred (some []))).alloc (.loop rc) = w1 at he s2
  generalize hD : w.heap.size = D at he s2
  have hgv : a.eval (.tmp t) = .func (.func g) #[] #[.pointer (some ⟨bs, 0, none⟩)] := s.val (x := .tmp t) hg
  have eg : ∀ args w, (callFunc g args).run P w = .ok (.enter g args) w := run_enter (TyC.h (P := P) (F := g))
  have hres : (resolve a.eval (rangeCall (.tmp t) (D + 1)) 0).run P w1 = .ok { target := .fn (.func g) #[.pointer (some ⟨bs, 0, none⟩)], args := #[.func (.yield (D + 1)) #[] #[]] } w1 := by
    simp only [resolve, hgv]
    simp [go_sem]
  have hinv : (invoke (.fn (.func g) #[.pointer (some ⟨bs, 0, none⟩)]) #[.func (.yield (D + 1)) #[] #[]]).run P w1 = .ok (.enter g #[.func (.yield (D + 1)) #[] #[], .pointer (some ⟨bs, 0, none⟩)]) w1 := by
    simp [invoke, go_sem, eg]
  have henter := stepR_rangeFunc (P := P) (b := b) (a := a) (k := k) (cs := cs) (w := w) he hres hinv
  have hrcs : rc.state = .ready ∧ rc.pending = none ∧ rc.fn = c.F ∧ rc.tmps = a.tmps ∧ rc.params = #[p1, p2] ∧ rc.assign = assign ∧ rc.body = body := by rw [hrc]; exact ⟨rfl, rfl, rfl, rfl, rfl, rfl, rfl⟩
  clear hrc
  obtain ⟨q1, q2, q3, q4, q5, q6, q7⟩ := hrcs
  have hend1 : endOf true rc = rc := by
    unfold endOf busy
    rw [if_pos rfl, if_pos rfl]
    cases rc; simp only at q1 q2; subst q1 q2; rfl
  let l := D + 1
  have hcall := (IT l bs (fun s w => ∃ i, inv i s ∧ s.length ≤ 60000 ∧ St c f (lp l rc :: dO D :: .box bs T [sA s] :: Li i) a w) (fun w => ∃ j s, St c f (lp l (endOf false rc) :: dO D :: .box bs T [sA s] :: Lx j) a w)
    (by
      rintro s w ⟨i, hi, hl, st⟩
      obtain ⟨c1, c2⟩ := Blk.cell0 (st.str (bs := bs) (T := T) (s := s) (by simp))
      exact ⟨hl, c1, c2, hW w st.kp, fun n => ⟨i, hi, hl, st.drewN n⟩⟩)
    (by
      rintro s w ⟨i, hi, hl, st⟩ hne0
      have hy := run_yield (P := P) (args := #[strV (Lib.cut s [10]).1, .bool (Lib.cut s [10]).2.2]) (lp_at st) (by rw [q5]; rfl)
      rw [q3, q4, q5, q6, q7] at hy
      refine ⟨_, _, _, _, hy, ?_⟩
      have sp : St c f ((lp l rc :: Li i) ++ [dO D, .box bs T [sA s]]) a w := st.permR (List.Perm.cons _ List.perm_append_comm)
      have sl := sp.sub (List.sublist_append_left (lp l rc :: Li i) [dO D, .box bs T [sA s]])
      have hW' : ∀ w', Keeps (foots (lp l rc :: Li i)) w w' → Hw w' := fun w' k' => hW w' (sl.kp.trans k' (fun x hx => sl.frm x hx))
      have hJ := round i s l rc (okk c ((lp l rc :: Li i) ++ [dO D, .box bs T [sA s]])) w hi hne0 hl q1 hW'
      have R := round_in (rc := rc) (tmps := (#[p1, p2].zip #[strV (Lib.cut s [10]).1, .bool (Lib.cut s [10]).2.2]).foldl (fun tmps (t, a) => tmps.setIfInBounds t a) a.tmps) (by rintro (j | j) <;> exact ⟨_, rfl⟩) hJ (by
        have mo : Mon (okk c ((lp l rc :: Li i) ++ [dO D, .box bs T [sA s]])) (okk (cxR c.F l (okk c ((lp l rc :: Li i) ++ [dO D, .box bs T [sA s]])) w (lp l rc :: Li i) (fun j : { i' : ι // inv i' (Lib.cut s [10]).2.1 } ⊕ κ => match j with
            | .inl i' => (true, lp l (busy rc) :: Li i'.1)
            | .inr j => (false, lp l (busy rc) :: Lx j)) c.N) (lp l rc :: Li i)) w w := ⟨Nat.le_refl _, fun g _ ho => ⟨⟨.inl ho, fun hx => ho.2 (by rw [foots_app]; exact .inl hx)⟩, rfl⟩⟩
        have hz : a.tmps.size = c.N := sp.size
        refine ⟨Keeps.refl _ _, by simp [hz, cxR, cx], rfl, fun r hr => (sp.res r (List.mem_append_left _ hr)).mon (Keeps.refl [] w) mo (by simp), fun x hx => .inl hx, sl.ap, fun u d hu => ?_⟩
        have ht : ((#[p1, p2].zip #[strV (Lib.cut s [10]).1, .bool (Lib.cut s [10]).2.2]).foldl (fun tmps (t, a) => tmps.setIfInBounds t a) a.tmps) = (a.tmps.setIfInBounds p1 (strV (Lib.cut s [10]).1)).setIfInBounds p2 (.bool (Lib.cut s [10]).2.2) := by simp
        rw [ht]
        by_cases e2 : p2 = u
        · subst e2
          rw [look_cons_eq] at hu; cases hu
          have : ((a.tmps.setIfInBounds p1 (strV (Lib.cut s [10]).1)).setIfInBounds p2 (.bool (Lib.cut s [10]).2.2)).getD p2 undef = .bool (Lib.cut s [10]).2.2 := by
            simp [Array.getD_eq_getD_getElem?, Array.getElem?_setIfInBounds, hz, hp2]
          rw [this]
          exact RD.v rfl
        · rw [look_cons_ne e2] at hu
          by_cases e1 : p1 = u
          · subst e1
            rw [look_cons_eq] at hu; cases hu
            have : ((a.tmps.setIfInBounds p1 (strV (Lib.cut s [10]).1)).setIfInBounds p2 (.bool (Lib.cut s [10]).2.2)).getD p1 undef = strV (Lib.cut s [10]).1 := by
              rw [Array.getD_eq_getD_getElem?, Array.getElem?_setIfInBounds_ne e2]
              simp [Array.getElem?_setIfInBounds, hz, hp1]
            rw [this]
            exact RD.v rfl
          · rw [look_cons_ne e1] at hu
            have : ((a.tmps.setIfInBounds p1 (strV (Lib.cut s [10]).1)).setIfInBounds p2 (.bool (Lib.cut s [10]).2.2)).getD u undef = a.tmps.getD u undef := by
              rw [Array.getD_eq_getD_getElem?, Array.getElem?_setIfInBounds_ne e2, Array.getElem?_setIfInBounds_ne e1, ← Array.getD_eq_getD_getElem?]
            rw [this]
            exact RD.mon mo d _ (sp.fr u d hu))
      refine R.mono ?_
      rintro en w2 ⟨j, w', rfl, ⟨_, _, h1, h2, h3, h4, _⟩, rfl⟩
      cases j with
      | inl i' =>
        left
        have sa := sp.after h1 h2 h3 h4
        have sb := (lp_put (rc' := endOf true rc) (L := Li i'.1 ++ [dO D, .box bs T [sA s]]) sa).permR (L2 := lp l (endOf true rc) :: dO D :: .box bs T [sA s] :: Li i'.1) (List.Perm.cons _ (List.perm_append_comm (l₁ := [dO D, .box bs T [sA s]])))
        rw [hend1] at sb
        simp only [hend1]
        have hb1 := sb.str (bs := bs) (T := T) (s := s) (by simp)
        obtain ⟨c1, c2⟩ := Blk.cell0 hb1
        refine ⟨trivial, c1, c2, i'.1, i'.2, ?_, sb.set (i := 2) (r := .box bs T [sA s]) (r' := .box bs T [sA (Lib.cut s [10]).2.1]) rfl rfl ((Keeps.refl [bs] _).setCell (p := ⟨bs, 0, none⟩) (.inl (by simp)) _) ⟨[strV (Lib.cut s [10]).2.1], hb1.set 0 _, RC.cons (RA.w rfl) RC.nil⟩⟩
        have := (Wr.cut_lines hne0).2.1
        omega
      | inr j =>
        right
        have sa := sp.after h1 h2 h3 h4
        exact ⟨rfl, j, s, (lp_put (rc' := endOf false rc) (L := Lx j ++ [dO D, .box bs T [sA s]]) sa).permR (L2 := lp l (endOf false rc) :: dO D :: .box bs T [sA s] :: Lx j) (List.Perm.cons _ (List.perm_append_comm (l₁ := [dO D, .box bs T [sA s]])))⟩) s0 w1 ⟨i0, h0, hs0, s2⟩).2 (b.atR { a with defers := [markOf D] ++ a.defers } (.inRangeFunc l :: k) :: cs) (room_wide _)
  obtain ⟨en, w3, fr, ⟨⟨v, rfl⟩, hAX⟩, hsteps, hfn, hleave⟩ := hcall
  have hst1 : Steps P (lone (b.atR a (.code (.rangeFunc (.tmp t) #[p1, p2] assign body) :: k)) cs w) (lone (b.atR { a with defers := [markOf D] ++ a.defers } (.endRangeFunc l :: k)) cs w3) := by
    refine (Steps.one henter).trans ((stepsIn_wide.1 hsteps).trans (.one ?_))
    rw [← finish_atR_inRangeFunc l v]
    exact step_leave_returned hleave
  refine Fin.of ?_ hst1
  rcases hAX with ⟨i, hi, _, s3⟩ | ⟨j, sx, s3⟩
  · have hel := run_endLoop (P := P) (lp_at s3) (by rw [q1]; simp)
    rw [q2] at hel
    have s4 := (lp_put (rc' := { rc with state := .exhausted, pending := none }) s3).sub (L2 := dO D :: Li i) (((List.Sublist.refl (Li i)).cons _).cons_cons _ |>.cons _)
    refine Fin.of ?_ (.one (stepR_endRangeFunc (P := P) (b := b) (k := k) (cs := cs) hel))
    exact Fin.mark ((done i hi D).go _ _ (s4.mark hd) b cs hb hk hrd)
  · have hel := run_endLoop (P := P) (lp_at s3) (by simp [endOf])
    have s4 := (lp_put (rc' := { endOf false rc with state := .exhausted }) s3).sub (L2 := dO D :: Lx j) (((List.Sublist.refl (Lx j)).cons _).cons_cons _ |>.cons _)
    refine Fin.of ?_ (.one (stepR_endRangeFunc (P := P) (b := b) (k := k) (cs := cs) hel))
    exact Fin.mark ((stop j D).go _ _ (s4.mark hd) b cs hb hk hrd)⟩
end
section
variable {P : Program} {F : FuncId} {fn : Func} {N : Nat} {ok : Nat → Prop} {e : World} {L0 L L' : List Res} {ι : Type} {post : ι → D × List Res} {k : List Item} {f : Fm}
theorem J.retM {B : Nat} (hf : P.funcs[F]? = some fn) {rs : List ResultVar} {ds : List D} (hres : fn.results = rs.toArray) (h : ResDs P f L rs ds) {d : D} (i : ι) (hle : LeD (oneD ds) d) (idx : List Nat) (hnd : idx.Nodup) (hL : idx.map (fun i => L[i]?) = L'.map some) (hp : post i = (d, L')) : J P ((cx F ok e L0 post N).mark B) (.code .ret :: k) f (dO B :: L) := ⟨fun a w s => by
  have hB := (s.res (dO B) (List.mem_cons_self ..)).2 w [] (Keeps.refl [] w) (by simp)
  have hlt : B < w.heap.size := (s.res (dO B) (List.mem_cons_self ..)).1 B (by simp)
  have kp : Keeps [B] w (w.putObj B (.deferred none)) := ⟨rfl, rfl, rfl, by simp, fun i hi hn => World.putObj_heap_other (by simpa using hn)⟩
  have ap := List.pairwise_cons.1 s.ap
  have m : Mon (okk ((cx F ok e L0 post N).mark B) (dO B :: L)) (okk (cx F ok e L0 post N) L) w (w.putObj B (.deferred none)) := Mon.of_keeps kp fun g _ hg => ⟨⟨hg.1, fun hx => hg.2 (by rw [foots_cons]; exact .inr hx)⟩, fun hm => hg.2 (by rw [foots_cons]; exact .inl hm)⟩
  have s2 : St (cx F ok e L0 post N) f L { a with defers := [] } (w.putObj B (.deferred none)) :=
    ⟨s.kp.trans kp (fun x hx => s.frm x (by rw [foots_cons]; exact .inl hx)), s.size, rfl, fun q hq => (s.res q (List.mem_cons_of_mem _ hq)).mon kp m (fun x hx hx' => ap.1 q hq x hx' hx), fun x hx => s.frm x (by rw [foots_cons]; exact .inr hx), ap.2, fun t d ht => RD.mon m d _ (s.fr t d ht)⟩
  obtain ⟨x, h1, h2⟩ := ret_run hf hres h hle idx hnd hL hp s2
  intro b cs hb hk hr
  have hdf : a.defers = [markOf B] := s.dfr
  have st := step_collected (P := P) (fr := { b.atR a (.code .ret :: k) with mode := .returning }) (cs := cs) (w := w) (by simp) (show a.defers = markOf B :: [] from hdf) rfl (run_takeDeferred hB)
  exact ⟨.returned x, _, _, h2, (Steps.one (stepR_ret hr)).trans (.one st), hb, rfl, rfl, hk, fn, by simpa [Frame.atR, hb, cx, Cx.mark] using hf, h1⟩⟩
end
end Fl
end Go.Proofs.YtbjnbngpjdoejaaDoor
