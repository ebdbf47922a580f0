/-
  The plain laws of models: channels, who waits, what an op does to them.
  Conditions: none; no program stands here.
-/
import Derived.Test.YtgjpdogjekmemaaDoorPlanL
namespace Go.Proofs.YtgjpdogjekmemaaDoor
set_option linter.unusedVariables false
set_option linter.unusedSimpArgs false
set_option linter.unnecessarySimpa false
namespace Md
structure Ch where
  cap : Int
  buf : List Int
  closed : Bool
structure St where
  chans : List Ch
  waits : Int → Option Pn.Op
structure Sd where
  ch : Int
  send : Bool
  v : Int
structure Res where
  code : Int
  cs : Int
  v : Int
  ok : Bool
  n : Int
def noSide : Sd := ⟨0, false, 0⟩
def noRes : Res := ⟨0, 0, 0, false, 0⟩
/-- an op's side, by its number -/
def side (o : Pn.Op) (i : Int) : Option Sd :=
  if (o.kind = 2 ∨ o.kind = 4) ∧ i = -1 then some ⟨o.ch, true, o.v⟩
  else if (o.kind = 3 ∨ o.kind = 5) ∧ i = -1 then some ⟨o.ch, false, 0⟩
  else if o.kind = 9 ∧ 0 ≤ i then (o.cases[i.toNat]?).map (fun c => ⟨c.ch, c.send, c.v⟩)
  else none
/-- is one of the op's sides so, among the first k? (k = 0: none was looked at) -/
def anyUpto (o : Pn.Op) (p : Int → Sd → Bool) : Nat → Bool
  | 0 => false
  | k + 1 => anyUpto o p k || (match side o ((k : Int) - 1) with | some s => p ((k : Int) - 1) s | none => false)
def any (o : Pn.Op) (p : Int → Sd → Bool) : Bool := anyUpto o p (o.cases.length + 1)
/-- the channel of that number, if there is one -/
def chan (l : List Ch) (ch : Int) : Option Ch := if 1 ≤ ch then l[(ch - 1).toNat]? else none
/-- another one than g waits on that side of the channel -/
def Another (st : St) (g ch : Int) (sends : Bool) : Prop := ∃ h o, st.waits h = some o ∧ h ≠ g ∧ any o (fun _ s => s.ch == ch && s.send == sends) = true
noncomputable def another (st : St) (g ch : Int) (sends : Bool) : Bool := by classical exact decide (Another st g ch sends)
noncomputable def may (st : St) (g : Int) (s : Sd) : Bool :=
  match chan st.chans s.ch with
  | none => false
  | some c => c.closed || (s.send && decide ((c.buf.length : Int) < c.cap)) || (!s.send && decide (0 < c.buf.length)) || (decide (c.cap = 0) && another st g s.ch (!s.send))
noncomputable def mayAt (st : St) (g : Int) (o : Pn.Op) (i : Int) : Bool := match side o i with | some s => may st g s | none => false
noncomputable def anyMay (st : St) (g : Int) (o : Pn.Op) : Bool := any o (fun _ s => may st g s)
def putChan (l : List Ch) (ch : Int) (c : Ch) : List Ch := l.set (ch - 1).toNat c
def makes (l : List Ch) (room : Int) : List Ch × Res :=
  if 8 ≤ l.length then (l, ⟨7, -1, 0, false, 0⟩) else (l ++ [⟨room, [], false⟩], ⟨1, -1, 0, true, (l.length : Int) + 1⟩)
def looks (l : List Ch) (o : Pn.Op) : Res :=
  match chan l o.ch with
  | none => ⟨1, -1, 0, true, 0⟩
  | some c => ⟨1, -1, 0, true, if o.kind = 7 then (c.buf.length : Int) else c.cap⟩
def closes (l : List Ch) (ch : Int) : List Ch × Res :=
  match chan l ch with
  | none => (l, ⟨5, -1, 0, false, 0⟩)
  | some c => if c.closed = true then (l, ⟨4, -1, 0, false, 0⟩) else (putChan l ch ⟨c.cap, c.buf, true⟩, ⟨1, -1, 0, true, 0⟩)
/-- a side is done by itself, if it can be -/
def does (l : List Ch) (o : Pn.Op) (i : Int) : List Ch × Option Res :=
  match side o i with
  | none => (l, none)
  | some s =>
    match chan l s.ch with
    | none => (l, none)
    | some c =>
      if s.send = true then
        (if c.closed = true then (l, some ⟨3, i, 0, false, 0⟩)
         else if (c.buf.length : Int) < c.cap then (putChan l s.ch ⟨c.cap, c.buf ++ [s.v], c.closed⟩, some ⟨1, i, 0, true, 0⟩)
         else (l, none))
      else
        (if 0 < c.buf.length then (putChan l s.ch ⟨c.cap, c.buf.drop 1, c.closed⟩, some ⟨1, i, c.buf.getD 0 0, true, 0⟩)
         else if c.closed = true then (l, some ⟨1, i, 0, false, 0⟩)
         else (l, none))
/-- what an op does by itself to the channels, and its answer; none: it can't be done -/
def fires (l : List Ch) (o : Pn.Op) (i : Int) : List Ch × Option Res :=
  if o.kind = 1 then ((makes l o.n).1, some (makes l o.n).2)
  else if o.kind = 7 ∨ o.kind = 8 then (l, some (looks l o))
  else if o.kind = 6 then ((closes l o.ch).1, some (closes l o.ch).2)
  else does l o i
def drops (f : Int → Option Pn.Op) (g : Int) : Int → Option Pn.Op := fun c => if c = g then none else f c
def fire (st : St) (g : Int) (o : Pn.Op) (i : Int) : St × Option Res :=
  match fires st.chans o i with
  | (l, some r) => (⟨l, drops st.waits g⟩, some r)
  | (_, none) => (st, none)
def begins (o : Pn.Op) : Bool := decide (o.kind = 2 ∨ o.kind = 3 ∨ (o.kind = 9 ∧ o.els = false))
def tries (o : Pn.Op) : Bool := decide (o.kind = 4 ∨ o.kind = 5 ∨ (o.kind = 9 ∧ o.els = true))
noncomputable def no (st : St) (g : Int) (o : Pn.Op) : Bool := tries o && !anyMay st g o
noncomputable def wait (st : St) (g : Int) (o : Pn.Op) : St × Bool :=
  if begins o = true ∧ any o (fun _ s => (chan st.chans s.ch).isSome) = true ∧ st.waits g = none ∧ anyMay st g o = false then (⟨st.chans, fun c => if c = g then some o else st.waits c⟩, true)
  else (st, false)
theorem side_case {o : Pn.Op} {i : Int} (h : o.kind = 9) (hi : 0 ≤ i) : side o i = (o.cases[i.toNat]?).map (fun c => ⟨c.ch, c.send, c.v⟩) := by
  unfold side
  rw [if_neg (by omega), if_neg (by omega), if_pos ⟨h, hi⟩]
theorem chan_none {l : List Ch} {ch : Int} (h : ch < 1 ∨ (l.length : Int) < ch) : chan l ch = none := by
  unfold chan
  split
  · exact List.getElem?_eq_none (by omega)
  · rfl
theorem chan_some {l : List Ch} {ch : Int} (h : 1 ≤ ch) (h2 : ch ≤ (l.length : Int)) : ∃ c, chan l ch = some c ∧ l[(ch - 1).toNat]? = some c := by
  unfold chan
  rw [if_pos h]
  exact ⟨_, List.getElem?_eq_getElem (by omega), List.getElem?_eq_getElem (by omega)⟩
end Md
end Go.Proofs.YtgjpdogjekmemaaDoor
