/-
  handoffref20.Fire: its contract.
  Conditions: rows of no more than 100000.
-/
import Derived.Test.YtopkfhmdgheghaaR20N
import Derived.Test.YtopkfhmdgheghaaR20O
import Derived.Test.YtopkfhmdgheghaaR20P
import Derived.Test.YtopkfhmdgheghaaR20Q
import Derived.Test.YtopkfhmdgheghaaR20R
import Derived.Test.YtopkfhmdgheghaaR20S
import Derived.Test.YtopkfhmdgheghaaR20T
import Derived.Test.YtopkfhmdgheghaaR20U
import Derived.Test.YtopkfhmdgheghaaR20V
namespace Go.Proofs.Ytopkfhmdgheghaa
open Go.RowKit
set_option linter.unusedVariables false

theorem ref20_fire (w : World) (vc vw va : Value) (st : Md.St) (r : Mr.St) (S : List Nat) (gi : Int) (o : Pn.Op) (UA : List Nat) (i : Int) (h : MR w vc vw r S) (hr : Mr.Rel st r) (ha : GV caseE 3 w va o.cases UA) (hn : r.waits.length ≤ 100000) (hn1 : r.chans.length ≤ 100000) (hn2 : ∀ c ∈ r.chans, c.buf.length ≤ 100000) (R : Nat → Prop) (hR : ∀ x ∈ S, R x) :
    Calls Try.prog 26 #[.agg #[vc, vw], .int .i64 gi, .agg (opV o va), .int .i64 i] w (RFirePost w (Md.fire st gi o i) r.waits.length R) := by
  by_cases h1 : o.kind = 1
  · exact ref20_fire_make w vc vw va st r S gi o UA i h hr ha hn hn1 hn2 R hR h1
  by_cases h7 : o.kind = 7
  · exact ref20_fire_len w vc vw va st r S gi o UA i h hr ha hn hn1 hn2 R hR h7
  by_cases h8 : o.kind = 8
  · exact ref20_fire_cap w vc vw va st r S gi o UA i h hr ha hn hn1 hn2 R hR h8
  by_cases h6 : o.kind = 6
  · exact ref20_fire_close w vc vw va st r S gi o UA i h hr ha hn hn1 hn2 R hR h6
  have hk : ¬ o.kind = 1 ∧ ¬ (o.kind = 7 ∨ o.kind = 8) ∧ ¬ o.kind = 6 := ⟨h1, by omega, h6⟩
  cases hs : Md.side o i with
  | none => exact ref20_fire_noside w vc vw va st r S gi o UA i h hr ha hn hn1 hn2 R hR hk hs
  | some s =>
    obtain ⟨sch, sb, sv⟩ := s
    cases hc : Md.chan r.chans sch with
    | none => exact ref20_fire_nochan w vc vw va st r S gi o UA i h hr ha hn hn1 hn2 R hR hk sb sch sv hs hc
    | some c =>
      cases sb with
      | false => exact ref20_fire_recv w vc vw va st r S gi o UA i h hr ha hn hn1 hn2 R hR hk sch sv c hs hc
      | true =>
        by_cases hp : c.closed = false ∧ decide ((c.buf.length : Int) < c.cap) = true
        · exact ref20_fire_put w vc vw va st r S gi o UA i h hr ha hn hn1 hn2 R hR hk sch sv c hs hc hp.1 hp.2
        · refine ref20_fire_sendno w vc vw va st r S gi o UA i h hr ha hn hn1 hn2 R hR hk sch sv c hs hc (fun h0 => ?_)
          cases hb : decide ((c.buf.length : Int) < c.cap) with
          | true => exact absurd ⟨h0, hb⟩ hp
          | false => rfl
end Go.Proofs.Ytopkfhmdgheghaa
