/-
  Contracts of package pool, the fourth part: Give.
  Conditions: what holds of every pool (Po.Inv).
-/
import Derived.Test.YtofnbflkhgammaaPoolC
import Derived.StillTailTactics
namespace Go.Proofs.Ytofnbflkhgammaa
open Go.RowKit
set_option linter.unusedVariables false
set_option linter.unusedSimpArgs false
set_option linter.unnecessarySimpa false

def GivePost (r : Po.St × Bool) (p : Value) (size most : Nat) (S : List Nat) (w : World) (e : Ending) (w' : World) : Prop :=
  e = .returned (.bool r.2) ∧ ∃ S', PS w' p size most r.1 S' ∧ Keeps S w w' ∧ ∀ k ∈ S', k ∈ S ∨ w.heap.size ≤ k
/-- Give, with the cache in hand -/
def GMid (w : World) (b : Nat) (size most : Nat) (vc vh : Value) (f : Nat) (o m : List Int) (U Tm : List Nat) (v7 : Value) (w' : World) : Prop :=
  ∃ ao cap vm Tm', v7 = .slice ao o.length cap ∧ Keeps (b :: Tm) w w' ∧ Blk w' b [.int .i64 size, .int .i64 most, vc, vm, .int .i64 f, vh] 96 ∧
    IR w' v7 3 o U ∧ IR w' vm 3 m Tm' ∧ (∀ x ∈ Tm', x ∈ Tm ∨ w.heap.size ≤ x)
/-- Give's loop, at its k-th round -/
def GLoop (w : World) (b : Nat) (size most : Nat) (vc vh : Value) (f : Nat) (M c : List Int) (U Tm : List Nat) (k : Nat) (v7 : Value) (w' : World) : Prop :=
  ∃ ao cap vm Tm', v7 = .slice ao (c.length - k) cap ∧ Keeps (b :: Tm) w w' ∧ Blk w' b [.int .i64 size, .int .i64 most, vc, vm, .int .i64 f, vh] 96 ∧
    IR w' v7 3 (c.take (c.length - k)) U ∧ IR w' vm 3 (M ++ c.reverse.take k) Tm' ∧ (∀ x ∈ Tm', x ∈ Tm ∨ w.heap.size ≤ x)

theorem GLoop.step {w wr w7 : World} {b size most : Nat} {vc vh : Value} {f : Nat} {M c : List Int} {U Tm T6 T7 : List Nat} {k gC offC j capc n7 cap7 : Nat} {ao7 : Option Addr}
    (hbU : b ∉ U) (hbT : b ∉ Tm) (hTU : ∀ x ∈ Tm, x ∉ U) (hb : b < w.heap.size) (hUl : ∀ x ∈ U, x < w.heap.size) (hke : Keeps (b :: Tm) w wr)
    {vm : Value} (hbl : Blk wr b [.int .i64 size, .int .i64 most, vc, vm, .int .i64 f, vh] 96)
    (hrc : IR wr (.slice (some ⟨gC, offC, none⟩) (j + 1) capc) 3 (c.take (j + 1)) U) (hT6 : ∀ x ∈ T6, x ∈ Tm ∨ w.heap.size ≤ x) (hj : c.length - k = j + 1)
    (r7 : IR w7 (.slice ao7 n7 cap7) 3 ((M ++ c.reverse.take k) ++ [c.getD j 0]) T7) (k7 : Keeps T6 wr w7) (s7 : ∀ x ∈ T7, x ∈ T6 ∨ wr.heap.size ≤ x) (m : Nat) :
    GLoop w b size most vc vh f M c U Tm (k + 1) (.slice (some ⟨gC, offC, none⟩) j capc) ((w7.setCell ⟨b, 3, none⟩ (.slice ao7 n7 cap7)).drewN m) := by
  have hsz := hke.size
  have hb6 : b ∉ T6 := fun hx => by rcases hT6 b hx with h | h; exact hbT h; omega
  have hb7 : b ∉ T7 := fun hx => by rcases s7 b hx with h | h; exact hb6 h; omega
  have hU6 : ∀ x ∈ U, x ∉ T6 := fun x hx h6 => by rcases hT6 x h6 with h | h; exact hTU x h hx; have := hUl x hx; omega
  have hml : (c.take (j + 1)).length = j + 1 := by simp; omega
  have hset : Keeps [b] w7 (w7.setCell ⟨b, 3, none⟩ (.slice ao7 n7 cap7)) := (Keeps.refl [b] w7).setCell (by simp) _
  have hpre : IR wr (.slice (some ⟨gC, offC, none⟩) j capc) 3 (c.take j) U := by
    have := IR.prefix (l := c.take (j + 1)) (by rw [hml]; exact hrc) j (by omega)
    rwa [List.take_take, Nat.min_eq_left (by omega)] at this
  have hdr : ∀ W : World, Keeps [] W (W.drewN m) := fun W => (Keeps.refl [] W).drewN m
  refine ⟨some ⟨gC, offC, none⟩, capc, .slice ao7 n7 cap7, T7, by rw [show c.length - (k + 1) = j by omega], ?_, ?_, ?_, ?_, ?_⟩
  · refine ((hke.trans k7 (fun x hx => ?_)).setCell (by simp) _).drewN m
    rcases hT6 x hx with h | h
    · left; simp [h]
    · exact .inr h
  · have := ((hbl.keep k7 hb6).set 3 (.slice ao7 n7 cap7)).keep (hdr _) (by simp)
    simpa using this
  · rw [show c.length - (k + 1) = j by omega]
    exact ((hpre.keep k7 hU6).keep hset (fun x hx h => by simp at h; subst h; exact hbU hx)).then (hdr _)
  · rw [Po.rev_next c k j hj, ← List.append_assoc]
    exact (r7.keep hset (fun x hx h => by simp at h; subst h; exact hb7 hx)).then (hdr _)
  · intro x hx
    rcases s7 x hx with h | h
    · exact hT6 x h
    · right; omega

end Go.Proofs.Ytofnbflkhgammaa
