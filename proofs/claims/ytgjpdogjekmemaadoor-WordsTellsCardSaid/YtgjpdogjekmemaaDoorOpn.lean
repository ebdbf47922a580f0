/-
  Arguments told in Fl's words: an element in the older words is one told so; a law that is shown so.
  Conditions: none.
-/
import Derived.Test.YtgjpdogjekmemaaDoorFsb
namespace Go.Proofs.YtgjpdogjekmemaaDoor
open Go.RowKit Go.ChangeShapes Go.WideShapes Go.Deep
set_option linter.unusedVariables false
set_option linter.unusedSimpArgs false
set_option linter.unnecessarySimpa false
namespace Fl
section
variable {α : Type} {E : World → List Value → α → List Nat → Prop} {enc : α → List A}
/-- an element in the older words is one told in Fl's words -/
def Si (enc : α → List A) (E : World → List Value → α → List Nat → Prop) : Prop :=
  ∀ (ok : Nat → Prop) (w : World) (cs : List Value) (a : α) (U : List Nat), E w cs a U → (∀ x ∈ U, ok x) → RC ok w (enc a) cs
theorem Si.rx (h : Si enc E) {ok : Nat → Prop} {w : World} {sz : Nat} {S : List Nat} (hS : ∀ x ∈ S, ok x) : ∀ {l : List α} {xs : List Value}, xs.length = l.length * sz → Parts E sz w xs l S → RX ok w sz (l.map enc) xs
  | [], xs, hl, r => by simp at hl; subst hl; rfl
  | a :: l, xs, hl, r => by
    have hl' : xs.length = l.length * sz + sz := by rw [hl, List.length_cons, Nat.add_mul]; omega
    refine ⟨xs.take sz, xs.drop sz, (List.take_append_drop sz xs).symm, by rw [List.length_take]; omega, ?_, Si.rx h hS (by rw [List.length_drop]; omega) fun k b hk => ?_⟩
    · obtain ⟨U, u1, u2⟩ := r 0 a rfl
      have : chunk xs sz 0 = xs.take sz := by unfold chunk; simp
      rw [this] at u1
      exact h ok w _ a U u1 fun x hx => hS x (u2 x hx)
    · obtain ⟨U, u1, u2⟩ := r (k + 1) b (by simpa using hk)
      have : chunk xs sz (k + 1) = chunk (xs.drop sz) sz k := by
        unfold chunk
        rw [List.drop_drop, show (k + 1) * sz = sz + k * sz by rw [Nat.add_mul]; omega]
      rw [this] at u1
      exact ⟨U, u1, u2⟩
theorem Si.ra (h : Si enc E) {ok : Nat → Prop} {w : World} {sz : Nat} {v : Value} {l : List α} {S : List Nat} (r : GV E sz w v l S) (hS : ∀ x ∈ S, ok x) : RA ok w (.r sz (l.map enc)) v := by
  obtain ⟨xs, T, v1, v2, v3, v4, v5⟩ := r
  exact RA.of_view (ys := xs) (S := T) (by rw [List.length_map]; exact v1) (h.rx hS v1.len v2) fun g hg => hS g (v3 g hg)
theorem Si.row (h : Si enc E) {sz : Nat} : Si (fun l : List α => [A.r sz (l.map enc)]) (rowE E sz) := fun ok w cs l U r hS => by
  obtain ⟨v, rfl, g⟩ := r
  exact RC.cons (h.ra g hS) RC.nil
end
theorem RA.w {ok : Nat → Prop} {w : World} {v : Value} (h : v.oneCell' = true) : RA ok w (.v v) v := by unfold RA; exact ⟨rfl, h⟩
theorem RD.v {ok : Nat → Prop} {w : World} {v : Value} (h : v.oneCell' = true) : RD ok w (.c (.v v)) v := by unfold RD RA; exact ⟨rfl, h⟩
/-- a law that is shown in Fl's words -/
theorem law1 {P : Program} {F : FuncId} {ds : List D} (h : Pure P F ds (.c (bI true))) {w : World} {xs : List Value} (hd : RDs (fun _ => True) w ds xs) : Calls P F xs.toArray w fun e w' => e = .returned (.bool true) ∧ Keeps [] w w' := by
  refine Calls.mono (h.go (fun _ => True) w xs hd (by simp) List.Pairwise.nil (by simp [foots])) ?_
  rintro en w' ⟨i, x, rfl, kp, _, _, _, r⟩
  unfold RD bI RA at r
  exact ⟨by rw [r.1], by simpa [foots] using kp⟩
end Fl
end Go.Proofs.YtgjpdogjekmemaaDoor
