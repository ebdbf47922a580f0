/-
  States of the machine, plain: goroutines, channels, sudogs, marks, and a state's beginning.
  Conditions: none; no program stands here.
-/
import Derived.Test.YtgjpdogjekmemaaDoorModelL
namespace Go.Proofs.YtgjpdogjekmemaaDoor
set_option linter.unusedVariables false
set_option linter.unusedSimpArgs false
set_option linter.unnecessarySimpa false

namespace Sx
/-- a goroutine -/
structure Gr where
  ops : List Pn.Op
  at_ : Int
  place : Int
  status : Int
  token : Bool
  call : Int
  picked : Bool
  param : Int
  mine : Int
  hold : Int
  t : Int
  arrive : Int
  point : Int
  wi : Int
  fire : Int
  res : Md.Res
  order : List Int
  locks : List Int
  sgs : List Int
  wakes : List Int
  k : Int
/-- a channel -/
structure Cn where
  cap : Int
  buf : List Int
  closed : Bool
  lock : Int
  recv : List Int
  send : List Int
/-- a sudog -/
structure Su where
  live : Bool
  g : Int
  ch : Int
  cs : Int
  send : Bool
  v : Int
  done : Bool
/-- what is told of an operation -/
structure Mk where
  g : Int
  op : Int
  call : Int
  arrive : Int
  point : Int
  wi : Int
  fire : Int
  re : Int
  res : Md.Res
structure St where
  sudogN : Int
  cacheN : Int
  step : Int
  gs : List Gr
  chans : List Cn
  sudogs : List Su
  cache : List (List Int)
  middle : List Int
  fresh : Int
  draws : List Int
  drawn : Int
  done : List Mk
def noRes : Md.Res := ⟨0, -1, 0, false, 0⟩
/-- a goroutine with nothing in hand -/
def clean (ops : List Pn.Op) (a : Int) : Gr := ⟨ops, a, 0, 0, false, 0, false, -1, -1, -1, 0, 0, 0, -1, -1, noRes, [], [], [], [], 0⟩
def noSu : Su := ⟨false, 0, 0, 0, false, 0, false⟩
def noSt : St := ⟨0, 0, 0, [], [], [], [], [], 0, [], 0, []⟩
/-- how many sudogs, goroutines, cached ones there may be -/
def can (s g c : Int) : Bool := decide (0 ≤ s ∧ s ≤ 64 ∧ 0 ≤ g ∧ g ≤ 8 ∧ 1 ≤ c ∧ c ≤ 16)
def start (p : List (List Pn.Op)) (s c : Int) (d : List Int) : St := ⟨s, c, 0, p.map (clean · 0), [], List.replicate s.toNat noSu, p.map (fun _ => []), [], 0, d, 0, []⟩
/-- a state at its beginning, and the error's number -/
def new (p : List (List Pn.Op)) (s c : Int) (d : List Int) : St × Int :=
  if Pn.right p = false then (noSt, 3) else if can s p.length c = false then (noSt, 1) else (start p s c d, 0)
end Sx
end Go.Proofs.YtgjpdogjekmemaaDoor
