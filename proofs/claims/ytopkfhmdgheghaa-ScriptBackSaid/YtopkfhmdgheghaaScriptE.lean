/-
  How a script lies in memory; its argument opened.
  Conditions: none.
-/
import Derived.Test.YtopkfhmdgheghaaScriptL
import Derived.Test.YtopkfhmdgheghaaScriptN
import Derived.Laws.BitsLemmas
namespace Go.Proofs.Ytopkfhmdgheghaa
open Go.RowKit Go.ChangeShapes Go.WideShapes Go.Deep
set_option linter.unusedVariables false
set_option linter.unusedSimpArgs false
set_option linter.unnecessarySimpa false

theorem elemU16 : Elem Try.prog 39 112 1 2 (.int .u16 0) := ⟨Try.underlying39, by kernel_rfl, rfl, by decide, by decide⟩
theorem elemInt : Elem Try.prog 40 3 1 8 (.int .i64 0) := ⟨Try.underlying40, by kernel_rfl, rfl, by decide, by decide⟩
def scE (w : World) (cs : List Value) (s : Sn.Sc) (U : List Nat) : Prop :=
  ∃ vp vd vk, cs = [vp, .int .i64 s.sudogs, .int .i64 s.cache, vd, vk] ∧ GV opsE 1 w vp s.plan U ∧ GV (numE .u16) 1 w vd s.draws U ∧ GV (numE .i64) 1 w vk s.picks U
theorem scE_kept : Kept scE :=
  ⟨fun h k hn => by obtain ⟨vp, vd, vk, h1, h2, h3, h4⟩ := h; exact ⟨vp, vd, vk, h1, h2.keep opsE_kept k hn, h3.keep (numE_kept _) k hn, h4.keep (numE_kept _) k hn⟩,
   fun h => by obtain ⟨vp, vd, vk, h1, h2, _⟩ := h; exact h2.lt⟩
theorem wraps_i64 (n : Int) (h₀ : 0 ≤ n) (h₁ : n < 2 ^ 20) : IntKind.i64.wrap n = n := by rw [IntKind.wrap_i64]; omega
theorem or_byte {x y : Int} (hx : 0 ≤ x ∧ x ≤ 255) (hy : 0 ≤ y ∧ y ≤ 255) : bits .or .i64 (x * 256) y = x * 256 + y :=
  bits_join .i64 20 (by decide) wraps_i64 8 (x * 256) y (by omega) (by omega) (by omega) (by omega) (by omega) (by omega)
theorem wrap_u16 {x : Int} (h : 0 ≤ x) (h2 : x ≤ 65535) : IntKind.u16.wrap x = x := by
  simp [IntKind.wrap, IntKind.bits, IntKind.signed]; omega
theorem wf_u16 {x : Int} (h : 0 ≤ x ∧ x ≤ 65535) : (Lit.int .u16 x).wf = true := by
  simp [Lit.wf, IntKind.min, IntKind.max, IntKind.signed, IntKind.bits]; omega
theorem wfu16 {x : Int} (h : (Lit.int .u16 x).wf = true) : 0 ≤ x ∧ x ≤ 65535 := by
  simpa [Lit.wf, IntKind.min, IntKind.max, IntKind.signed, IntKind.bits] using h
/-- a block of five cells -/
theorem Blk.five {w : World} {g : Nat} {a b c d e : Value} {t : TypeId} (h : Blk w g [a, b, c, d, e] t) : (w.cell? ⟨g, 0, none⟩ = some a ∧ w.cell? ⟨g, 1, none⟩ = some b ∧ w.cell? ⟨g, 2, none⟩ = some c ∧ w.cell? ⟨g, 3, none⟩ = some d ∧ w.cell? ⟨g, 4, none⟩ = some e) ∧
    (w.frozen? ⟨g, 0, none⟩ = false ∧ w.frozen? ⟨g, 1, none⟩ = false ∧ w.frozen? ⟨g, 2, none⟩ = false ∧ w.frozen? ⟨g, 3, none⟩ = false ∧ w.frozen? ⟨g, 4, none⟩ = false) :=
  ⟨⟨h.cell 0, h.cell 1, h.cell 2, h.cell 3, h.cell 4⟩, ⟨h.free 0, h.free 1, h.free 2, h.free 3, h.free 4⟩⟩
def ZS : List Value := [.slice none 0 0, .int .i64 0, .int .i64 0, .slice none 0 0, .slice none 0 0]
def ScPost (s : Sn.Sc) (w : World) (e : Ending) (w' : World) : Prop := ∃ cs U, e = .returned (.agg cs) ∧ scE w' cs.toList s U ∧ Keeps [] w w'
section
variable {P : Program} {t e : TypeId} {bytes : Nat} {z : Value} {k : IntKind}
/-- append(s, n) in a region that draws its order -/
theorem step_appk1 (E : Elem P t e 1 bytes z) {w : World} {ops : Array Oper} {o : Oper} {a : Act} {K : Act → World → Prop} {Q : Exit → Act → World → Prop} {F : Prop} {s x : Operand}
    {v : Value} {l : List Int} {n : Int} {bx : Nat} {S : List Nat} (h : KR k w v e l S) (hb : (l.length + 1) * bytes ≤ 140737488355328)
    (hK : ∀ ao cap w' S', KR k w' (.slice ao (l.length + 1) cap) e (l ++ [n]) S' → Keeps S w w' → (∀ k ∈ S', k ∈ S ∨ w.heap.size ≤ k) → K (a.put o.dst (.slice ao (l.length + 1) cap)) w')
    (hg : o.guard = none := by rfl) (hop : o.op = Op.call { callee := Callee.builtin Builtin.append, args := #[s, x], argTypes := #[t, t] } := by rfl) (hs : a.eval s = v := by rfl) (hx : a.eval x = .slice (some ⟨bx, 0, none⟩) 1 1 := by rfl) (hbx : bx = w.heap.size := by first | rfl | simp) :
    if Region.wanted o (yielded ops a.tmps) = true then Oper.wp P o a (w.alloc (.cells #[.int k n] e)) K Q else F :=
  step_app1 E (m := 1) (ys := [.int k n]) h rfl one_le_max oc_int hb (fun ao cap w' S' r1 r2 r3 => hK ao cap w' S' (by unfold KR; simpa using r1) r2 r3) hg hop hs hx hbx
end
end Go.Proofs.Ytopkfhmdgheghaa
