/-
  The plain part of the law ModelWaits.
  Conditions: none; no program stands here.
-/
import Derived.Test.YtopkfhmdgheghaaModelU
import Derived.Test.YtopkfhmdgheghaaModelT
namespace Go.Proofs.Ytopkfhmdgheghaa
set_option linter.unusedVariables false
set_option linter.unusedSimpArgs false
set_option linter.unnecessarySimpa false
namespace Md
theorem another_self (st : St) (g : Int) (o : Pn.Op) (ch : Int) (b : Bool) : another ⟨st.chans, fun c => if c = g then some o else st.waits c⟩ g ch b = another st g ch b := by
  cases h : another st g ch b with
  | true =>
    unfold another at h
    simp only [decide_eq_true_eq] at h
    obtain ⟨x, p, h1, h2, h3⟩ := h
    exact another_true (h := x) (o := p) (by simp [h2, h1]) h2 h3
  | false =>
    refine another_false (fun x p h1 h2 => ?_)
    simp only [h2, if_false] at h1
    cases hp : any p (meetsP ch b) with
    | false => rfl
    | true => rw [another_true h1 h2 hp] at h; cases h
theorem may_self (st : St) (g : Int) (o : Pn.Op) (s : Sd) : may ⟨st.chans, fun c => if c = g then some o else st.waits c⟩ g s = may st g s := by
  unfold may
  simp only [another_self]
theorem anyMay_self (st : St) (g : Int) (o a : Pn.Op) : anyMay ⟨st.chans, fun c => if c = g then some o else st.waits c⟩ g a = anyMay st g a := by
  unfold anyMay
  simp only [may_self]
theorem wait_yes {st st' : St} {g : Int} {o : Pn.Op} (h : wait st g o = (st', true)) : st'.waits g = some o ∧ anyMay st' g o = false ∧ wait st' g o = (st', false) := by
  unfold wait at h
  split at h
  · rename_i hc
    simp only [Prod.mk.injEq, and_true] at h
    subst h
    refine ⟨by simp, by rw [anyMay_self]; exact hc.2.2.2, ?_⟩
    unfold wait
    rw [if_neg (by simp)]
  · cases h
theorem meet_yes {st st' : St} {g h : Int} {a b : Pn.Op} {i k v : Int} (hm : meet st g a i h b k = (st', some v)) : st'.waits g = none ∧ st'.waits h = none := by
  unfold meet at hm
  repeat' split at hm
  all_goals first | (cases hm; done) | skip
  simp only [Prod.mk.injEq] at hm
  rw [← hm.1]
  exact ⟨by simp [drops], by simp [drops]⟩
theorem side_range {o : Pn.Op} {i : Int} {s : Sd} (h : side o i = some s) : i = -1 ∨ (0 ≤ i ∧ i < (o.cases.length : Int)) := by
  unfold side at h
  split at h
  · rename_i hc; exact .inl hc.2
  · split at h
    · rename_i hc; exact .inl hc.2
    · split at h
      · rename_i hc
        refine .inr ⟨hc.2, ?_⟩
        have : (o.cases[i.toNat]?).isSome = true := by cases hx : o.cases[i.toNat]? with | none => rw [hx] at h; cases h | some _ => rfl
        by_cases hl : i.toNat < o.cases.length
        · omega
        · rw [List.getElem?_eq_none (by omega)] at this; cases this
      · cases h
theorem any_of {o : Pn.Op} {p : Int → Sd → Bool} {i : Int} {s : Sd} (h : side o i = some s) (hp : p i s = true) : any o p = true := by
  have hr := side_range h
  obtain ⟨k, hk⟩ : ∃ k : Nat, i = (k : Int) - 1 := ⟨(i + 1).toNat, by omega⟩
  subst hk
  refine any_more (k := k + 1) ?_ (by omega)
  show (anyUpto o p k || (match side o ((k : Int) - 1) with | some s => p ((k : Int) - 1) s | none => false)) = true
  rw [h]
  simp [hp]
theorem may_any {st : St} {g : Int} {o : Pn.Op} {i : Int} (h : mayAt st g o i = true) : anyMay st g o = true := by
  unfold mayAt at h
  cases hs : side o i with
  | none => rw [hs] at h; cases h
  | some s => rw [hs] at h; exact any_of hs h
theorem no_any {st : St} {g : Int} {o : Pn.Op} (h : no st g o = true) : anyMay st g o = false := by
  unfold no at h
  simp at h
  exact h.2
end Md
end Go.Proofs.Ytopkfhmdgheghaa
