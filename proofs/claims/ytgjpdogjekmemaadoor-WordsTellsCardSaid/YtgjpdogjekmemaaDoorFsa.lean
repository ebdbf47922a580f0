/-
  States of the machine as plain data of Fl.
  Conditions: none.
-/
import Derived.Test.YtgjpdogjekmemaaDoorTab
import Derived.Test.YtgjpdogjekmemaaDoorStM
namespace Go.Proofs.YtgjpdogjekmemaaDoor
open Go.RowKit
set_option linter.unusedVariables false
set_option linter.unusedSimpArgs false
set_option linter.unnecessarySimpa false

namespace Fl
def nI (n : Int) : A := .v (.int .i64 n)
def bI (b : Bool) : A := .v (.bool b)
def ints (l : List Int) : A := .r 1 (l.map fun n => [nI n])
def eCs (c : Pn.Cs) : List A := [bI c.send, nI c.ch, nI c.v]
def eOp (o : Pn.Op) : List A := [nI o.kind, nI o.ch, nI o.n, nI o.v, .r 3 (o.cases.map eCs), bI o.els]
def eRes (r : Md.Res) : List A := [nI r.code, nI r.cs, nI r.v, bI r.ok, nI r.n]
def eG (g : Sx.Gr) : List A :=
  [.r 6 (g.ops.map eOp), nI g.at_, nI g.place, nI g.status, bI g.token, nI g.call, bI g.picked, nI g.param, nI g.mine, nI g.hold, nI g.t, nI g.arrive, nI g.point, nI g.wi, nI g.fire,
   nI g.res.code, nI g.res.cs, nI g.res.v, bI g.res.ok, nI g.res.n, ints g.order, ints g.locks, ints g.sgs, ints g.wakes, nI g.k]
def eC (c : Sx.Cn) : List A := [nI c.cap, ints c.buf, bI c.closed, nI c.lock, ints c.recv, ints c.send]
def eS (s : Sx.Su) : List A := [bI s.live, nI s.g, nI s.ch, nI s.cs, bI s.send, nI s.v, bI s.done]
def eM (m : Sx.Mk) : List A := [nI m.g, nI m.op, nI m.call, nI m.arrive, nI m.point, nI m.wi, nI m.fire, nI m.re, nI m.res.code, nI m.res.cs, nI m.res.v, bI m.res.ok, nI m.res.n]
def eSt (s : Sx.St) : List A :=
  [nI s.sudogN, nI s.cacheN, nI s.step, .r 25 (s.gs.map eG), .r 6 (s.chans.map eC), .r 7 (s.sudogs.map eS), .r 1 (s.cache.map fun l => [ints l]), ints s.middle, nI s.fresh, .r 1 (s.draws.map fun n => [.v (.int .u16 n)]), nI s.drawn, .r 13 (s.done.map eM)]
theorem LeA.snoc {l : List Int} {a : Int} : LeA (.r 1 (([] ++ l.map fun n => [nI n]) ++ [[nI a]])) (ints (l ++ [a])) := by
  have : ([] ++ l.map fun n => [nI n]) ++ [[nI a]] = (l ++ [a]).map fun n => [nI n] := by simp
  rw [this]; exact .refl
theorem LeA.clone {l : List Int} : LeA (.r 1 ([] ++ l.map fun n => [nI n])) (ints l) := by
  rw [List.nil_append]; exact .refl
theorem LeA.tl {l : List Int} {k : Nat} (h : l.length = k) : LeA (.r 1 ([] ++ (((l.map fun n => [nI n]).take k).drop 1))) (ints l.tail) := by
  subst h
  have : ([] ++ (((l.map fun n => [nI n]).take l.length).drop 1)) = l.tail.map fun n => [nI n] := by
    rw [List.take_of_length_le (by simp)]; simp
  rw [this]; exact .refl
end Fl
end Go.Proofs.YtgjpdogjekmemaaDoor
