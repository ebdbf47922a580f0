/-
  A slice that came in, of numbers, of bools, or of structs of such fields, is opened into a View.
  Conditions: none.
-/
import Derived.Test.YtopkfhmdgheghaaRow
import Derived.ProofKit
import Derived.OpenShut
import Derived.ChangeOld
import Derived.Deep.Slices
import Derived.Deep.Fields
namespace Go.Proofs.Ytopkfhmdgheghaa
open Go.RowKit Go.ChangeShapes Go.WideShapes Go.Deep
set_option linter.unusedVariables false
set_option linter.unusedSimpArgs false
set_option linter.unnecessarySimpa false

/-- what one cell is: a number of a kind; or (none) a bool -/
def ckOk : Option IntKind → Value → Prop
  | some k, v => ∃ n, v = .int k n ∧ (Lit.int k n).wf = true
  | none, v => ∃ b, v = .bool b
def kindOf (P : Program) (t : TypeId) : Option (Option IntKind) := match P.underlying t with
  | some (.int k) => some (some k)
  | some .bool => some none
  | _ => none
def flatOf (P : Program) (e : TypeId) : Option (List (Option IntKind)) := match P.underlying e with
  | some (.struct fs) => if oneCellFields P fs && P.cellsOf e == fs.size then fs.toList.mapM (fun f => kindOf P f.type) else none
  | _ => if P.cellsOf e == 1 then (kindOf P e).map (fun k => [k]) else none

section
variable {H : Type} {enc : TypeId × Value → H} {P : Program} {w : World} {base : Nat} {spare : Nat → Bool} {held : Bool}

theorem kind_cell {t : TypeId} {k : Option IntKind} {fuel : Nat} {cs : List Value} {x : DataW H × List MemPlace} (hk : kindOf P t = some k) (h : DataW.trod enc P w base spare held fuel t cs = some x) : cs.length = 1 ∧ ckOk k (cs.getD 0 undef) := by
  unfold kindOf at hk
  split at hk
  · rename_i k' hu
    obtain rfl := Option.some.inj hk
    obtain ⟨n, rfl, _, hw⟩ := DataW.trod_int hu h
    exact ⟨rfl, n, rfl, hw⟩
  · rename_i hu
    obtain rfl := Option.some.inj hk
    obtain ⟨b, rfl, _⟩ := DataW.trod_bool hu h
    exact ⟨rfl, b, rfl⟩
  · cases hk

theorem flat_elem {e : TypeId} {ks : List (Option IntKind)} {fuel : Nat} {cs : List Value} {x : DataW H × List MemPlace} (hf : flatOf P e = some ks) (h : DataW.trod enc P w base spare held fuel e cs = some x) :
    P.cellsOf e = ks.length ∧ cs.length = ks.length ∧ ∀ (i : Nat) (k : Option IntKind), ks[i]? = some k → ckOk k (cs.getD i undef) := by
  unfold flatOf at hf
  split at hf
  · rename_i fs hu
    split at hf
    · rename_i hc
      simp only [Bool.and_eq_true, beq_iff_eq] at hc
      obtain ⟨xs, n, _, _, hcl, hxl, hfi⟩ := DataW.trod_struct hu h
      have hlen : ks.length = fs.size := by have := mapM_some_length hf; rw [this]; simp
      refine ⟨by omega, by omega, fun i k hi => ?_⟩
      have hlt : i < fs.size := by have := (List.getElem?_eq_some_iff.1 hi).1; omega
      have hfs : fs[i]? = some fs[i] := Array.getElem?_eq_getElem hlt
      obtain ⟨ho, h1⟩ := hone_of hc.1 i fs[i] hfs
      have g := hfi i fs[i] hfs
      rw [ho, h1, take1_drop cs i undef (by omega), List.getElem?_eq_getElem (by omega)] at g
      have hk := mapM_some_get hf i fs[i] (by simpa using hfs)
      rw [hi] at hk
      have := (kind_cell hk g).2
      simpa using this
    · cases hf
  · split at hf
    · rename_i hc
      simp only [beq_iff_eq] at hc
      obtain ⟨k0, hk, rfl⟩ := Option.map_eq_some_iff.1 hf
      have := kind_cell hk h
      refine ⟨by simpa using hc, by simp [this.1], fun i k hi => ?_⟩
      match i, hi with
      | 0, hi => simp at hi; subst hi; exact this.2
    · cases hf

theorem open_flat {t e : TypeId} {ks : List (Option IntKind)} {W : World} {r : Reach} {b0 : Nat} {v : Value} {d : DataW H} {p : List MemPlace} (ht : P.underlying t = some (.slice e)) (hf : flatOf P e = some ks) (h0 : 0 < ks.length)
    (hv : Value.okWide P W r b0 t v) (h : DataW.Trod enc P W 0 (fun _ => true) true t v d p) :
    ∃ (n : Nat) (xs : List Value) (S : List Nat), View W v ks.length n xs S ∧ ∀ k, k < n → ∀ (f : Nat) (q : Option IntKind), ks[f]? = some q → ckOk q (xs.getD (k * ks.length + f) undef) := by
  obtain ⟨ao, len, cap, rfl⟩ := okWide_slice ht hv
  obtain ⟨fuel, hfu⟩ := h
  rcases open_slice ht hfu with ⟨hcs, _⟩ | ⟨a, l, c, m, n, D, Pl, hcs, hb, hl, hm, hmm, _, hx⟩
  · simp [Value.cells] at hcs
    obtain ⟨rfl, rfl, rfl⟩ := hcs
    exact ⟨0, [], [], View.nil _ _, fun k hk => by omega⟩
  · simp [Value.cells] at hcs
    obtain ⟨rfl, rfl, rfl⟩ := hcs
    by_cases hz : len = 0
    · subst hz
      exact ⟨0, [], [], ⟨by simp, _, _, rfl, hl, hm, .inl ⟨rfl, rfl⟩⟩, fun k hk => by omega⟩
    · have hmc : len ≤ m := by rw [hmm]; simp; omega
      have hcell : ∀ k, k < len → P.cellsOf e = ks.length ∧ (∀ f, f < ks.length → ∃ u, W.cell? (a.add (k * ks.length + f)) = some u ∧ ∀ q, ks[f]? = some q → ckOk q u) := by
        intro k hk
        obtain ⟨cs', h1, h2⟩ := hx k (by omega)
        obtain ⟨e1, e2, e3⟩ := flat_elem hf h2
        refine ⟨e1, fun f hf' => ?_⟩
        obtain ⟨_, _, hcc⟩ := World.cells?_some h1
        have := hcc f (by omega)
        rw [Go.Deep.add_add, e1, List.getElem?_eq_getElem (by omega)] at this
        refine ⟨_, this, fun q hq => ?_⟩
        have := e3 f q hq
        simpa [List.getD, List.getElem?_eq_getElem (show f < cs'.length by omega)] using this
      obtain ⟨g, off, spot⟩ := a
      obtain ⟨u0, hu0, _⟩ := (hcell 0 (by omega)).2 0 h0
      have hspot : spot = none := by simpa [Addr.add] using World.cell?_spot hu0
      subst hspot
      have hex : ∀ j, j < len * ks.length → ∃ u, W.cell? ⟨g, off + j, none⟩ = some u := by
        intro j hj
        have hk : j / ks.length < len := Nat.div_lt_of_lt_mul (by rw [Nat.mul_comm]; exact hj)
        obtain ⟨u, hu, _⟩ := (hcell (j / ks.length) hk).2 (j % ks.length) (Nat.mod_lt _ h0)
        rw [add_plain, Nat.mul_comm, Nat.div_add_mod] at hu
        exact ⟨u, hu⟩
      have hgl : g < W.heap.size := by
        rw [add_plain] at hu0
        exact block_lt_of_cell hu0
      let xs := (List.range (len * ks.length)).map fun j => (W.cell? ⟨g, off + j, none⟩).getD undef
      have hxl : xs.length = len * ks.length := by simp [xs]
      have hxs : ∀ j, j < len * ks.length → W.cell? ⟨g, off + j, none⟩ = xs[j]? := by
        intro j hj
        obtain ⟨u, hu⟩ := hex j hj
        simp [xs, hj, hu]
      refine ⟨len, xs, [g], ⟨hxl, _, _, rfl, hl, hm, .inr ⟨g, off, rfl, rfl, hgl, fun j hj => hxs j (by omega)⟩⟩, fun k hk f q hq => ?_⟩
      have hfl : f < ks.length := (List.getElem?_eq_some_iff.1 hq).1
      obtain ⟨u, hu, hq'⟩ := (hcell k hk).2 f hfl
      have hj : k * ks.length + f < len * ks.length := by
        have : (k + 1) * ks.length ≤ len * ks.length := Nat.mul_le_mul_right _ hk
        rw [Nat.add_mul] at this; omega
      rw [add_plain, hxs _ hj] at hu
      rw [List.getD, hu]
      exact hq' q hq

/-- the bounds of an int -/
theorem wf64 {n : Int} (h : (Lit.int .i64 n).wf = true) : -9223372036854775808 ≤ n ∧ n ≤ 9223372036854775807 := by
  simpa [Lit.wf, IntKind.min, IntKind.max, IntKind.signed, IntKind.bits] using h
theorem wf8 {n : Int} (h : (Lit.int .u8 n).wf = true) : 0 ≤ n ∧ n ≤ 255 := by
  simpa [Lit.wf, IntKind.min, IntKind.max, IntKind.signed, IntKind.bits] using h
theorem wf16 {n : Int} (h : (Lit.int .u16 n).wf = true) : 0 ≤ n ∧ n ≤ 65535 := by
  simpa [Lit.wf, IntKind.min, IntKind.max, IntKind.signed, IntKind.bits] using h

def num : Value → Int
  | .int _ n => n
  | _ => 0
def tru : Value → Bool
  | .bool b => b
  | _ => false
end

/-- cell f of element k of a View, in a later world -/
theorem View.at {w wr : World} {g off n sz : Nat} {xs : List Value} {S : List Nat} (hl : xs.length = n * sz) (hc : ∀ j, j < xs.length → w.cell? ⟨g, off + j, none⟩ = xs[j]?) (hg : g < w.heap.size) (hk : Keeps S w wr) (hS : g ∉ S) {k f : Nat} (h1 : k < n) (h2 : f < sz) :
    wr.cell? ⟨g, off + k * sz + f, none⟩ = some (xs.getD (k * sz + f) undef) := by
  rw [Nat.add_assoc]
  have hj : k * sz + f < xs.length := by
    have : (k + 1) * sz ≤ n * sz := Nat.mul_le_mul_right _ h1
    rw [Nat.add_mul] at this; omega
  rw [World.cell?_of_block (w := w) (hk.block g hg hS), hc _ hj]
  simp [List.getD, hj]
theorem View.at0 {w wr : World} {g off n sz : Nat} {xs : List Value} {S : List Nat} (hl : xs.length = n * sz) (hc : ∀ j, j < xs.length → w.cell? ⟨g, off + j, none⟩ = xs[j]?) (hg : g < w.heap.size) (hk : Keeps S w wr) (hS : g ∉ S) {k : Nat} (h1 : k < n) (h2 : 0 < sz) :
    wr.cell? ⟨g, off + k * sz, none⟩ = some (xs.getD (k * sz) undef) := View.at hl hc hg hk hS h1 h2
theorem ck_int {k : IntKind} {v : Value} (h : ckOk (some k) v) : v = .int k (num v) ∧ (Lit.int k (num v)).wf = true := by
  obtain ⟨n, rfl, hw⟩ := h; exact ⟨rfl, hw⟩
theorem ck_bool {v : Value} (h : ckOk none v) : v = .bool (tru v) := by
  obtain ⟨b, rfl⟩ := h; rfl
/-- a callee that leaves the world, in a quiet region -/
theorem quiet_own {P : Program} {f : FuncId} {args : Array Value} {w : World} {n : Nat} {v : Value}
    (h : Calls P f args (w.drewN n) fun e w' => e = .returned v ∧ w.drewN n = w') : Calls P f args (w.drewN n) fun e w'' => e = .returned v ∧ ∃ m, w'' = w.drewN m :=
  h.mono fun _ _ ⟨he, hm⟩ => ⟨he, n, hm.symm⟩
end Go.Proofs.Ytopkfhmdgheghaa
