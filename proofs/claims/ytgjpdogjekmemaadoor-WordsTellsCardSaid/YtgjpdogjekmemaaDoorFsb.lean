/-
  Small things that the reference's side and the program's side both need.
  Conditions: none.
-/
import Derived.Test.YtgjpdogjekmemaaDoorFsa
import Derived.Test.YtgjpdogjekmemaaDoorFlB
namespace Go.Proofs.YtgjpdogjekmemaaDoor
open Go.RowKit
set_option linter.unusedVariables false
set_option linter.unusedSimpArgs false
set_option linter.unnecessarySimpa false
namespace Fl
theorem at_map {α β : Type} {l : List α} {h : α → β} {k : Nat} {a : α} (e : l[k]? = some a) : (l.map h)[k]? = some (h a) := by rw [List.getElem?_map, e]; rfl
theorem J.frzN {P : Program} {c : Cx} {k : List Item} {f : Fm} {L L1 L2 : List Res} (i j n : Nat) {v : Value} {e : TypeId} {sz : Nat} {ll : List (List A)} {b : Nat} {B : TypeId} {cs : List A} [st : SetAt L j (.box b B (cs.set n (.r sz ll))) L1] [er : EraseAt L1 i L2] (hi : L[i]? = some (.row v e sz ll)) (hj : L[j]? = some (.box b B cs)) (hc : cs[n]? = some (.v v)) (h : J P c k f L2) : J P c k f L :=
  J.frzB i j n hi hj hc (by rw [st.h, er.h]; exact h)
def zSt : List A := vs [.int .i64 0, .int .i64 0, .int .i64 0, .slice none 0 0, .slice none 0 0, .slice none 0 0, .slice none 0 0, .slice none 0 0, .int .i64 0, .slice none 0 0, .int .i64 0, .slice none 0 0]
def drs (l : List Int) : A := .r 1 (l.map fun n => [.v (.int .u16 n)])
theorem drs_at {l : List Int} {k : Int} (h0 : 0 ≤ k) (h : k < l.length) : (l.map fun n => [A.v (.int .u16 n)])[k.toNat]? = some [.v (.int .u16 (Sx.atK l k))] := by
  have : k.toNat < l.length := by omega
  refine at_map ?_
  unfold Sx.atK
  rw [List.getElem?_eq_getElem this, List.getD_eq_getElem?_getD, List.getElem?_eq_getElem this]; rfl
theorem atK_mem {l : List Int} {k : Int} (h0 : 0 ≤ k) (h : k < l.length) : Sx.atK l k ∈ l := by
  have : k.toNat < l.length := by omega
  unfold Sx.atK
  rw [List.getD_eq_getElem?_getD, List.getElem?_eq_getElem this]
  exact List.getElem_mem _
theorem gr_wG (s : Sx.St) (g k : Nat) (x : Sx.Gr) (hg : g < s.gs.length) : Sx.gr (Sx.withG s g x) k = if k = g then x else Sx.gr s k := by
  unfold Sx.gr Sx.withG
  rw [List.getD_eq_getElem?_getD, List.getD_eq_getElem?_getD, List.getElem?_set]
  by_cases h : g = k
  · subst h; simp [hg]
  · rw [if_neg h, if_neg (Ne.symm h)]
end Fl
end Go.Proofs.YtgjpdogjekmemaaDoor
