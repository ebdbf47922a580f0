/-
  errors.Is at a chain of *fault.Fault around an error of errors.New's make, the target another such error: its contract.
  Conditions: none.
-/
import Derived.Test.YtihmklfmeghgaaaDoorChecked
import Derived.WalkKit
import Derived.LaidEql
import Derived.Stop.Asserts
import Derived.RowKitTokens
import Derived.Elder7
set_option linter.unusedVariables false
set_option linter.unusedSimpArgs false
set_option linter.unnecessarySimpa false
namespace Go.Proofs.YtihmklfmeghgaaaDoor
open Go.RowKit Go.Extern.Stop Go.Stop Go.Extern

theorem isTypeOf (v : Value) (w : World) : (Extern.ReflectliteType.typeOf #[.iface 96 v]).run Tryd.prog w = .ok (.iface 63 (.agg #[.pointer (some ⟨7, 96, none⟩)])) w := by kernel_rfl
def cmpE : Array Value → Sem Value := Extern.ReflectliteType.method fun t => do Rtype.noPackHeld "Comparable" t; pure (.bool (← typeInfo t).comparable)
theorem isComparable (w : World) : (cmpE #[.agg #[.pointer (some ⟨7, 96, none⟩)]]).run Tryd.prog w = .ok (.bool true) w := by kernel_rfl
theorem isMethodComparable (v : Value) (w : World) : (Go.method 228 63 v "Comparable").run Tryd.prog w = .ok (65, v) w := by kernel_rfl
theorem isComp : (Tryd.prog.info? 96).map (·.comparable) = some true := by kernel_rfl
theorem isSize : (Tryd.prog.info? 116).map (·.size) = some 1 := by kernel_rfl
theorem noIsE (v : Value) (xT : TypeId) (w : World) : (Instr.typeAssert (.iface 96 v) xT 76 true).run Tryd.prog w = .ok (.tuple #[.nilIface, .bool false]) w := run_typeAssert_lacksB Tryd.underlying76 (by kernel_rfl) (by kernel_rfl) v xT w
theorem noUnwrapE (v : Value) (xT : TypeId) (w : World) : (Instr.typeAssert (.iface 96 v) xT 70 true).run Tryd.prog w = .ok (.tuple #[.nilIface, .bool false]) w := run_typeAssert_lacksB Tryd.underlying70 (by kernel_rfl) (by kernel_rfl) v xT w
theorem noUnwrapsE (v : Value) (xT : TypeId) (w : World) : (Instr.typeAssert (.iface 96 v) xT 71 true).run Tryd.prog w = .ok (.tuple #[.nilIface, .bool false]) w := run_typeAssert_lacksB Tryd.underlying71 (by kernel_rfl) (by kernel_rfl) v xT w
theorem noIsW (v : Value) (xT : TypeId) (w : World) : (Instr.typeAssert (.iface 33 v) xT 76 true).run Tryd.prog w = .ok (.tuple #[.nilIface, .bool false]) w := run_typeAssert_lacksB Tryd.underlying76 (by kernel_rfl) (by kernel_rfl) v xT w
theorem hasUnwrapW (v : Value) (xT : TypeId) (w : World) : (Instr.typeAssert (.iface 33 v) xT 70 true).run Tryd.prog w = .ok (.tuple #[.iface 33 v, .bool true]) w := run_typeAssert_hasB Tryd.underlying70 (by kernel_rfl) v xT w
theorem methodUnwrap (v : Value) (w : World) : (Go.method 228 33 v "Unwrap").run Tryd.prog w = .ok (15, v) w := by kernel_rfl

/-- A chain in the world W: the value; the error at its end. -/
inductive Chain (W : World) (a : Addr) : Value → Nat → Prop
  | leaf (ca : Array Value) (ta : TypeId) : W.heap[a.block]? = some (.cells ca ta (0, 0)) → Chain W a (.iface 96 (.pointer (some a))) 0
  | wrap (pb : Nat) (E : Value) (n : Nat) : W.cell? ⟨pb, 2, none⟩ = some E → Chain W a E n → Chain W a (.iface 33 (.pointer (some ⟨pb, 0, none⟩))) (n + 1)

theorem Chain.unique {W : World} {a : Addr} {E : Value} {l l' : Nat} (h : Chain W a E l) (h' : Chain W a E l') : l = l' := by
  induction h generalizing l' with
  | leaf ca ta _ => cases h'; rfl
  | wrap pb E1 l1 hc h1 ih =>
    cases h' with
    | wrap _ E2 l2 hc2 h2 => rw [hc] at hc2; cases hc2; rw [ih h2]

open Classical in
noncomputable def chainLen (W : World) (a : Addr) (E : Value) : Nat := if h : ∃ l, Chain W a E l then h.choose else 0
theorem chainLen_eq {W : World} {a : Addr} {E : Value} {l : Nat} (h : Chain W a E l) : chainLen W a E = l := by
  unfold chainLen
  rw [dif_pos ⟨l, h⟩]
  exact Chain.unique (Exists.choose_spec (⟨l, h⟩ : ∃ l, Chain W a E l)) h

set_option maxRecDepth 1000000 in
set_option maxHeartbeats 4000000 in
theorem is_chain {W : World} (a b : Addr) (cb : Array Value) (tb : TypeId) (hb : W.heap[b.block]? = some (.cells cb tb (0, 0))) (E : Value) (n : Nat) (hch : Chain W a E n) :
    Calls Tryd.prog 26 #[E, .iface 96 (.pointer (some b)), .bool true] W fun e w' => e = .returned (.bool (decide (a = b))) ∧ w' = W := by
  obtain ⟨i, hi, hcmp⟩ := Option.map_eq_some_iff.1 isComp
  obtain ⟨j, hj, hjs⟩ := Option.map_eq_some_iff.1 isSize
  have nE := noIsE
  have uE := noUnwrapE
  have vE := noUnwrapsE
  have nW := noIsW
  have uW := hasUnwrapW
  have mU := methodUnwrap
  go_enter Tryd.func26, Tryd.ntmps26
  go_wp2
  go_loopw [0] (fun E' wl => wl = W ∧ ∃ n', Chain W a E' n') (fun E' _ => chainLen W a E')
  case atStart => exact ⟨rfl, n, hch⟩
  case round =>
    obtain ⟨rfl, n', hc'⟩ := hrel
    cases hc' with
    | leaf ca ta ha =>
      by_cases hab : a = b
      · subst hab
        have heq := run_eql_iface_ptr_same (P := Tryd.prog) wr a Tryd.underlying24 Tryd.underlying96 hi hcmp hj
        go_wp2
        go_ret
        exact ⟨by simp, rfl⟩
      · have heq := run_eql_iface_ptr_other (P := Tryd.prog) wr Tryd.underlying24 Tryd.underlying96 hi hcmp hj (by rw [hjs]; decide) hab ha hb
        go_wp2
        go_ret
        exact ⟨by simp [hab], rfl⟩
    | wrap pb E1 n1 hcell h1 =>
      have hty := run_eql_iface_types (P := Tryd.prog) 33 96 (.pointer (some ⟨pb, 0, none⟩)) (.pointer (some b)) Tryd.underlying24 (by decide) wr
      have hlen := chainLen_eq h1
      have hlen0 := chainLen_eq (Chain.wrap pb E1 n1 hcell h1)
      have hne : ∃ u v, E1 = .iface u v := by cases h1 <;> exact ⟨_, _, rfl⟩
      obtain ⟨u1, v1, rfl⟩ := hne
      have HC : Hid (Chain wr a (.iface u1 v1) n1) := h1
      clear h1
      go_wp2
      go_roundw
      case rel => exact ⟨trivial, n1, HC.out⟩
      case measure =>
        show chainLen wr a (.iface u1 v1) < _
        rw [hlen, hlen0]; omega

set_option maxHeartbeats 4000000 in
/-- errors.Is(e, x), e such a chain. -/
theorem is_any {W : World} (a b : Addr) (cb : Array Value) (tb : TypeId) (hb : W.heap[b.block]? = some (.cells cb tb (0, 0))) (E : Value) (n : Nat) (hch : Chain W a E n) :
    Calls Tryd.prog 16 #[E, .iface 96 (.pointer (some b))] W fun e w' => e = .returned (.bool (decide (a = b))) ∧ w' = W := by
  have h8 := @run_callFunc_extern Tryd.prog 25 _ Extern.ReflectliteType.typeOf Tryd.func25 (by kernel_rfl) (by kernel_rfl) (by kernel_rfl) (by kernel_rfl)
  have h32 := @run_callFunc_extern Tryd.prog 65 _ cmpE Tryd.func65 (by kernel_rfl) (by kernel_rfl) (by kernel_rfl) (by kernel_rfl)
  have tT := isTypeOf
  have cT := isComparable
  have mR := isMethodComparable
  have hne : ∃ u v, E = .iface u v := by cases hch <;> exact ⟨_, _, rfl⟩
  obtain ⟨u1, v1, rfl⟩ := hne
  have HC : Hid (Chain W a (.iface u1 v1) n) := hch
  clear hch
  have HB : Hid (W.heap[b.block]? = some (.cells cb tb (0, 0))) := hb
  clear hb
  go_enter Tryd.func16, Tryd.ntmps16
  go_wp2_with (go_at_call 26; refine (is_chain a b cb tb HB.out _ n HC.out).mono ?_; rintro e w' ⟨rfl, rfl⟩)
  go_ret
  exact ⟨rfl, rfl⟩

/-- errors.Is(nil, x). -/
theorem is_nil (b : Addr) (w : World) :
    Calls Tryd.prog 16 #[.nilIface, .iface 96 (.pointer (some b))] w fun e w' => e = .returned (.bool false) ∧ w' = w := by
  have hn := run_eql_iface_nil_left (P := Tryd.prog) w 96 (.pointer (some b)) Tryd.underlying24
  go_enter Tryd.func16, Tryd.ntmps16
  go_wp2
  go_ret
  exact ⟨rfl, rfl⟩
end Go.Proofs.YtihmklfmeghgaaaDoor
