/-
  The document's machine, plain: what each step does to a state.
  Conditions: none; no program stands here.
-/
import Derived.Test.YtgjpdogjekmemaaDoorStL
import Derived.Test.YtgjpdogjekmemaaDoorPooL
namespace Go.Proofs.YtgjpdogjekmemaaDoor
set_option linter.unusedVariables false
set_option linter.unusedSimpArgs false
set_option linter.unnecessarySimpa false

namespace Sx
def noOp : Pn.Op := ⟨0, 0, 0, 0, [], false⟩
def noCn : Cn := ⟨0, [], false, -1, [], []⟩
def gr (s : St) (g : Nat) : Gr := s.gs.getD g (clean [] 0)
def cn (s : St) (ch : Int) : Cn := s.chans.getD (ch - 1).toNat noCn
def su (s : St) (i : Int) : Su := s.sudogs.getD i.toNat noSu
def op (s : St) (g : Nat) : Pn.Op := (gr s g).ops.getD (gr s g).at_.toNat noOp
def made (s : St) (ch : Int) : Bool := decide (1 ≤ ch ∧ ch ≤ s.chans.length)
def withG (s : St) (g : Nat) (x : Gr) : St := { s with gs := s.gs.set g x }
def withC (s : St) (ch : Int) (c : Cn) : St := { s with chans := s.chans.set (ch - 1).toNat c }
def withS (s : St) (i : Int) (x : Su) : St := { s with sudogs := s.sudogs.set i.toNat x }
def goTo (s : St) (g : Nat) (p : Int) : St := withG s g { gr s g with place := p }
def cleared (x : Gr) : Gr := { clean x.ops x.at_ with place := x.place, status := x.status, token := x.token }
def clear (s : St) (g : Nat) : St := withG s g (cleared (gr s g))
def tryLock (s : St) (g : Nat) (ch : Int) : St × Bool := if (cn s ch).lock = -1 then (withC s ch { cn s ch with lock := g }, true) else (s, false)
def free (s : St) (ch : Int) : St := withC s ch { cn s ch with lock := -1 }
/-- all that lies in a cache, or in the middle -/
def allOut (s : St) : List Int := s.middle ++ s.cache.flatten
def liveP (s : St) (x : Int) : Bool := decide (0 ≤ x) && decide (x < s.fresh) && !(allOut s).contains x
/-- one takes a sudog from the pool -/
def sudog (s : St) (g : Nat) : St × Int × Bool :=
  if Po.own s.cacheN.toNat (s.cache.getD g []) s.middle = [] then (if s.fresh < s.sudogN then ({ s with fresh := s.fresh + 1 }, s.fresh, true) else (s, 0, false))
  else ({ s with cache := s.cache.set g (Po.own s.cacheN.toNat (s.cache.getD g []) s.middle).dropLast, middle := Po.mid s.cacheN.toNat (s.cache.getD g []) s.middle }, (Po.own s.cacheN.toNat (s.cache.getD g []) s.middle).getLastD 0, true)
/-- the pool when x has come back -/
def poolGive (s : St) (g : Nat) (x : Int) : St :=
  if liveP s x then { s with cache := s.cache.set g ((s.cache.getD g []).take ((s.cache.getD g []).length - Po.puts s.cacheN.toNat (s.cache.getD g [])) ++ [x]), middle := s.middle ++ (s.cache.getD g []).reverse.take (Po.puts s.cacheN.toNat (s.cache.getD g [])) }
  else s
def give (s : St) (g : Nat) (x : Int) : St := withS (poolGive s g x) x noSu
def park (s : St) (g : Nat) : St :=
  withG s g (if (gr s g).status = 0 ∧ (gr s g).token = true then { gr s g with token := false } else if (gr s g).status = 0 then { gr s g with status := 1 } else gr s g)
def ready (s : St) (g : Nat) : St :=
  withG s g (if (gr s g).status = 1 then { gr s g with status := 0 } else if (gr s g).status = 0 then { gr s g with token := true } else gr s g)
def pair (s : St) (g : Nat) (i : Int) : St :=
  let x := gr s g
  let o := (su s i).g
  withG (withG s o.toNat { gr s o.toNat with point := x.t, wi := g, fire := (su s i).cs }) g { x with point := x.t, wi := o }
def serve (s : St) (g : Nat) (i : Int) (d : Bool) : St :=
  let o := (su s i).g
  let s2 := withS (withG s o.toNat { gr s o.toNat with param := i }) i { su s i with done := d }
  withG s2 g { gr s2 g with wakes := (gr s2 g).wakes ++ [o], hold := -1 }
def wakes (s : St) (g : Nat) : St := if 0 < (gr s g).wakes.length then goTo s g 17 else goTo s g 18
def common (s : St) (g : Nat) : St × Bool :=
  let x := gr s g
  let o := op s g
  if x.place = 4 then
    (if (tryLock s g o.ch).2 = true then (if o.kind = 6 then (goTo (tryLock s g o.ch).1 g 21, true) else (goTo (tryLock s g o.ch).1 g 5, true)) else (s, true))
  else if x.place = 12 then (goTo (free s o.ch) g 13, true)
  else if x.place = 13 then (park (goTo s g 14) g, true)
  else if x.place = 15 then (goTo (withG (give s g x.mine) g { x with mine := -1 }) g 18, true)
  else if x.place = 16 then (wakes (free s o.ch) g, true)
  else if x.place = 17 then (wakes (withG (ready s (x.wakes.headD 0).toNat) g { x with wakes := x.wakes.tail }) g, true)
  else (s, false)
def pointAt (s : St) (g : Nat) (r : Md.Res) (p : Int) : St := withG s g { gr s g with point := s.step, res := r, place := p }
/-! ### sends -/
def got (v : Int) (ok : Bool) : Md.Res := ⟨1, -1, v, ok, 0⟩
def res (c : Int) : Md.Res := ⟨c, -1, 0, false, 0⟩
def sent : Md.Res := ⟨1, -1, 0, true, 0⟩
def room (c : Cn) : Bool := if 0 < c.cap then decide ((c.buf.length : Int) < c.cap) else decide (0 < c.recv.length)
def somE (c : Cn) : Bool := if 0 < c.cap then decide (0 < c.buf.length) else decide (0 < c.send.length)
def without (l : List Int) (x : Int) : List Int := l.filter (· != x)
/-- a sudog waits no more -/
def drop (s : St) (i : Int) : St :=
  if made s (su s i).ch = true then withC s (su s i).ch { cn s (su s i).ch with recv := without (cn s (su s i).ch).recv i, send := without (cn s (su s i).ch).send i } else s
def taken (s : St) (g : Nat) (i win hand : Int) : St :=
  if 0 ≤ (su s i).cs then goTo (withG s g { gr s g with hold := i }) g win
  else goTo (pair (drop (withG s g { gr s g with hold := i, t := s.step }) i) g i) g hand
def win (s : St) (g : Nat) (back on : Int) : St :=
  let x := gr s g
  let p := (su s x.hold).g.toNat
  if (gr s p).picked = true then withG (drop s x.hold) g { x with hold := -1, place := back }
  else goTo (pair (withG (withG s g { x with t := s.step }) p { gr s p with picked := true }) g x.hold) g on
def mine (s : St) (g : Nat) (d : Su) : St :=
  if (sudog s g).2.2 = true then withG (withS (sudog s g).1 (sudog s g).2.1 d) g { gr s g with mine := (sudog s g).2.1, place := 11 }
  else withG (sudog s g).1 g { gr s g with res := { (gr s g).res with code := 6 }, place := 16 }
/-- the held one gets the value v, and is served -/
def sendHand (s : St) (g : Nat) (v : Int) : St :=
  let h := (gr s g).hold
  let s1 := drop s h
  serve (withS s1 h { su s1 h with v := v }) g h true
def ringPut (l : List Int) (room v : Int) : List Int × Bool := if room ≤ l.length then (l, false) else (l ++ [v], true)
def ringGet (l : List Int) : List Int × Int × Bool := if l.length = 0 then (l, 0, false) else (l.tail, l.headD 0, true)
def ringPass (l : List Int) (room v : Int) : List Int × Int × Bool := if (l.length : Int) < room ∨ l.length = 0 then (l, 0, false) else (l.tail ++ [v], l.headD 0, true)
def sendStep (s : St) (g : Nat) : St × Bool :=
  let x := gr s g
  let o := op s g
  let c := cn s o.ch
  if o.kind ≠ 2 ∧ o.kind ≠ 4 then (s, false)
  else if (common s g).2 = true then ((common s g).1, true)
  else if made s o.ch = false then (s, false)
  else if x.place = 1 then (if room c = true then (goTo s g 4, true) else (pointAt s g x.res 2, true))
  else if x.place = 2 then (if c.closed = true then (withG s g { x with point := 0, place := 4 }, true) else (withG s g { x with res := { x.res with code := 2 }, place := 18 }, true))
  else if x.place = 5 then (if c.closed = true then (pointAt s g (res 3) 16, true) else (goTo s g 6, true))
  else if x.place = 6 then (if c.recv.length = 0 then (goTo s g 9, true) else (taken s g (c.recv.headD 0) 7 8, true))
  else if x.place = 7 then (win s g 6 8, true)
  else if x.place = 8 then (withG (sendHand s g o.v) g { gr (sendHand s g o.v) g with res := sent, place := 16 }, true)
  else if x.place = 9 then
    (if (ringPut c.buf c.cap o.v).2 = true then (pointAt (withC s o.ch { c with buf := (ringPut c.buf c.cap o.v).1 }) g sent 16, true)
     else if o.kind = 4 then (pointAt s g (res 2) 16, true) else (goTo s g 10, true))
  else if x.place = 10 then (mine s g ⟨true, g, o.ch, -1, true, o.v, false⟩, true)
  else if x.place = 11 then (withG (withC s o.ch { c with send := c.send ++ [x.mine] }) g { x with arrive := s.step, place := 12 }, true)
  else if x.place = 14 then (withG s g { x with res := if (su s x.param).done = true then sent else res 3, param := -1, place := 15 }, true)
  else (s, false)
/-! ### receives -/
/-- what a receiver gets of a sudog that waits to send -/
def hand (s : St) (ch i : Int) : St × Int :=
  let c := cn s ch
  if c.cap = 0 then (s, (su s i).v)
  else (withC s ch { c with buf := (ringPass c.buf c.cap (su s i).v).1 }, (ringPass c.buf c.cap (su s i).v).2.1)
def recvStep (s : St) (g : Nat) : St × Bool :=
  let x := gr s g
  let o := op s g
  let c := cn s o.ch
  if o.kind ≠ 3 ∧ o.kind ≠ 5 then (s, false)
  else if (common s g).2 = true then ((common s g).1, true)
  else if made s o.ch = false then (s, false)
  else if x.place = 1 then (if somE c = true then (goTo s g 4, true) else (pointAt s g x.res 2, true))
  else if x.place = 2 then (if c.closed = true then (goTo s g 3, true) else (withG s g { x with res := { x.res with code := 2 }, place := 18 }, true))
  else if x.place = 3 then (if somE c = true then (withG s g { x with point := 0, place := 4 }, true) else (pointAt s g (got 0 false) 18, true))
  else if x.place = 5 then
    (if c.closed = true ∧ c.buf.length = 0 then (pointAt s g (got 0 false) 16, true) else if c.closed = true then (goTo s g 9, true) else (goTo s g 6, true))
  else if x.place = 6 then (if c.send.length = 0 then (goTo s g 9, true) else (taken s g (c.send.headD 0) 7 8, true))
  else if x.place = 7 then (win s g 6 8, true)
  else if x.place = 8 then
    (let n := hand (drop s x.hold) o.ch x.hold
     let n2 := serve n.1 g x.hold true
     (withG n2 g { gr n2 g with res := got n.2 true, place := 16 }, true))
  else if x.place = 9 then
    (if (ringGet c.buf).2.2 = true then (pointAt (withC s o.ch { c with buf := (ringGet c.buf).1 }) g (got (ringGet c.buf).2.1 true) 16, true)
     else if o.kind = 5 then (pointAt s g (res 2) 16, true) else (goTo s g 10, true))
  else if x.place = 10 then (mine s g ⟨true, g, o.ch, -1, false, 0, false⟩, true)
  else if x.place = 11 then (withG (withC s o.ch { c with recv := c.recv ++ [x.mine] }) g { x with arrive := s.step, place := 12 }, true)
  else if x.place = 14 then (withG s g { x with res := if (su s x.param).done = true then got (su s x.param).v true else got 0 false, param := -1, place := 15 }, true)
  else (s, false)
/-! ### closes -/
def closedOn (s : St) (g : Nat) : St :=
  let i := (gr s g).hold
  let s1 := drop (withG s g { gr s g with t := s.step }) i
  let d := su s1 i
  serve (withG s1 d.g.toNat { gr s1 d.g.toNat with point := (gr s1 g).t, fire := d.cs }) g i false
def drainAt (s : St) (g : Nat) (i : Int) : St :=
  let s1 := withG s g { gr s g with hold := i }
  if 0 ≤ (su s1 i).cs then goTo s1 g 23 else closedOn s1 g
def drainWin (s : St) (g : Nat) : St :=
  let x := gr s g
  let p := (su s x.hold).g.toNat
  if (gr s p).picked = true then withG (drop s x.hold) g { x with hold := -1, place := 22 }
  else goTo (closedOn (withG s p { gr s p with picked := true }) g) g 22
def shutStep (s : St) (g : Nat) : St × Bool :=
  let x := gr s g
  let o := op s g
  let c := cn s o.ch
  if o.kind ≠ 6 then (s, false)
  else if (common s g).2 = true then ((common s g).1, true)
  else if made s o.ch = false then (s, false)
  else if x.place = 21 then (if c.closed = true then (pointAt s g (res 4) 16, true) else (pointAt (withC s o.ch { c with closed := true }) g sent 22, true))
  else if x.place = 22 then
    (if 0 < c.recv.length then (drainAt s g (c.recv.headD 0), true) else if 0 < c.send.length then (drainAt s g (c.send.headD 0), true) else (goTo s g 16, true))
  else if x.place = 23 then (drainWin s g, true)
  else (s, false)
/-! ### selects -/
def unlock (s : St) (g : Nat) (p : Int) : St := withG s g { gr s g with k := (gr s g).locks.length, place := p }
def fires (s : St) (g : Nat) (r : Md.Res) (i : Int) : St :=
  let s1 := pointAt s g { r with cs := i } 30
  unlock (withG s1 g { gr s1 g with fire := i }) g 30
def atK (l : List Int) (k : Int) : Int := l.getD k.toNat 0
def lock (s : St) (g : Nat) (p : Int) : St :=
  let x := gr s g
  if (tryLock s g (atK x.locks x.k)).2 = true then
    (if x.k + 1 = x.locks.length then withG (tryLock s g (atK x.locks x.k)).1 g { x with k := 0, place := p } else withG (tryLock s g (atK x.locks x.k)).1 g { x with k := x.k + 1 })
  else s
def next (s : St) (g : Nat) (p : Int) : St :=
  let x := gr s g
  if x.k + 1 = x.order.length then withG s g { x with k := 0, place := p } else withG s g { x with k := x.k + 1 }
def won (s : St) (g : Nat) : St :=
  let x := gr s g
  if x.place = 27 then withG s g { x with fire := atK x.order x.k } else withG s g x
def noCs : Pn.Cs := ⟨false, 0, 0⟩
def caseAt (o : Pn.Op) (i : Int) : Pn.Cs := o.cases.getD i.toNat noCs
def pollSend (s : St) (g : Nat) (i : Int) (k : Pn.Cs) : St × Bool :=
  let c := cn s k.ch
  if c.closed = true then (fires s g ⟨3, 0, 0, false, 0⟩ i, true)
  else if 0 < c.recv.length then (won (taken s g (c.recv.headD 0) 26 27) g, true)
  else if (ringPut c.buf c.cap k.v).2 = true then (fires (withC s k.ch { c with buf := (ringPut c.buf c.cap k.v).1 }) g ⟨1, 0, 0, true, 0⟩ i, true)
  else (s, false)
def pollRecv (s : St) (g : Nat) (i : Int) (k : Pn.Cs) : St × Bool :=
  let c := cn s k.ch
  if 0 < c.send.length then (won (taken s g (c.send.headD 0) 26 27) g, true)
  else if (ringGet c.buf).2.2 = true then (fires (withC s k.ch { c with buf := (ringGet c.buf).1 }) g (got (ringGet c.buf).2.1 true) i, true)
  else if c.closed = true then (fires s g (got 0 false) i, true)
  else (s, false)
def poll (s : St) (g : Nat) (o : Pn.Op) : St :=
  let x := gr s g
  let i := atK x.order x.k
  let k := caseAt o i
  let r := if k.send = true then pollSend s g i k else pollRecv s g i k
  if r.2 = true then r.1
  else if x.k + 1 < x.order.length then next s g 25
  else if o.els = true then fires s g ⟨2, 0, 0, false, 0⟩ (-1)
  else next (withG s g { x with sgs := List.replicate o.cases.length (-1) }) g 28
def pollHand (s : St) (g : Nat) (o : Pn.Op) : St :=
  let x := gr s g
  let i := atK x.order x.k
  let k := caseAt o i
  let s1 := drop s x.hold
  let n := if k.send = true then (withS s1 x.hold { su s1 x.hold with v := k.v }, (⟨1, i, 0, true, 0⟩ : Md.Res)) else ((hand s1 k.ch x.hold).1, { got (hand s1 k.ch x.hold).2 true with cs := i })
  let s2 := serve n.1 g x.hold true
  unlock (withG s2 g { gr s2 g with res := n.2 }) g 30
def sudogs (s : St) (g : Nat) (o : Pn.Op) : St :=
  let x := gr s g
  let i := atK x.order x.k
  let k := caseAt o i
  if (sudog s g).2.2 = true then
    next (withG (withS (sudog s g).1 (sudog s g).2.1 ⟨true, g, k.ch, i, k.send, k.v, false⟩) g { x with sgs := x.sgs.set i.toNat (sudog s g).2.1 }) g 29
  else unlock (withG (sudog s g).1 g { x with res := { x.res with code := 6 } }) g 30
def queues (s : St) (g : Nat) (o : Pn.Op) : St :=
  let x := gr s g
  let i := atK x.order x.k
  let k := caseAt o i
  let c := cn s k.ch
  let s1 := withC s k.ch (if k.send = true then { c with send := c.send ++ [atK x.sgs i] } else { c with recv := c.recv ++ [atK x.sgs i] })
  if x.k + 1 < x.order.length then next s1 g 29
  else unlock (withG s1 g { x with arrive := s1.step }) g 30
def freed (s : St) (g : Nat) : St × Bool :=
  let x := gr s g
  (withG (free s (atK x.locks (x.k - 1))) g { x with k := x.k - 1 }, decide (0 < x.k - 1))
def someGe (l : List Int) : Bool := l.any (fun x => decide (0 ≤ x))
def wake (s : St) (g : Nat) : St :=
  let x := gr s g
  let d := su s x.param
  let r : Md.Res := if d.done = true then { got d.v true with cs := d.cs } else { got 0 false with cs := d.cs }
  let r2 : Md.Res := if d.send = true ∧ d.done = true then { r with v := 0 } else if d.send = true then ⟨3, d.cs, 0, false, 0⟩ else r
  withG s g { x with res := r2, param := -1, k := 0, place := 31 }
def lose (s : St) (g : Nat) : St :=
  let x := gr s g
  let s1 := drop s (atK x.sgs (atK x.order x.k))
  if x.k + 1 < x.order.length then next s1 g 32 else unlock s1 g 33
def frees (s : St) (g : Nat) : St :=
  let x := gr s g
  let i := atK x.order x.k
  let s1 := if 0 ≤ atK x.sgs i then give s g (atK x.sgs i) else s
  if x.k + 1 = x.order.length then wakes (next (withG s1 g { x with sgs := [] }) g 34) g
  else next (withG s1 g { x with sgs := x.sgs.set i.toNat (-1) }) g 34
def chooseStep (s : St) (g : Nat) : St × Bool :=
  let x := gr s g
  let o := op s g
  if o.kind ≠ 9 then (s, false)
  else if x.place = 24 then (lock s g 25, true)
  else if x.place = 25 then (poll s g o, true)
  else if x.place = 26 then (won (win s g 25 27) g, true)
  else if x.place = 27 then (pollHand s g o, true)
  else if x.place = 28 then (sudogs s g o, true)
  else if x.place = 29 then (queues s g o, true)
  else if x.place = 30 then
    (if (freed s g).2 = true then ((freed s g).1, true) else if x.res.code = 0 then (goTo (freed s g).1 g 13, true)
     else if someGe x.sgs = true then (goTo (freed s g).1 g 34, true) else (wakes (freed s g).1 g, true))
  else if x.place = 14 then (wake s g, true)
  else if x.place = 31 then (lock s g 32, true)
  else if x.place = 32 then (lose s g, true)
  else if x.place = 33 then (if (freed s g).2 = true then ((freed s g).1, true) else (goTo (freed s g).1 g 34, true))
  else if x.place = 34 then (frees s g, true)
  else if x.place = 13 ∨ x.place = 17 then common s g
  else (s, false)
/-! ### beginnings and ends -/
def never (s : St) (g : Nat) : St := park (goTo s g 19) g
def draw (l : List Int) (at_ n : Int) : Int × Int := if n < 1 ∨ (l.length : Int) ≤ at_ then (0, at_) else ((atK l at_) % n, at_ + 1)
/-- the first n draws of a select -/
def drawn : St → Nat → List Int × Int
  | s, 0 => ([], s.drawn)
  | s, n + 1 => ((drawn s n).1 ++ [(draw s.draws (drawn s n).2 (n + 1)).1], (draw s.draws (drawn s n).2 (n + 1)).2)
def swap (l : List Int) (i j : Nat) : List Int := (l.set i (l.getD j 0)).set j (l.getD i 0)
/-- the order that the first n draws make -/
def orderN (ds : List Int) : Nat → List Int
  | 0 => []
  | n + 1 => swap (orderN ds n ++ [(n : Int)]) (ds.getD n 0 % (n + 1)).toNat n
def insert (x : Int) : List Int → List Int
  | [] => [x]
  | y :: l => if y ≤ x then y :: insert x l else x :: y :: l
def sort (l : List Int) : List Int := l.foldl (fun acc x => insert x acc) []
def addLock (acc : List Int) (x : Int) : List Int := if x ≤ 0 ∨ (0 < acc.length ∧ acc.getLastD 0 = x) then acc else acc ++ [x]
def locks (l : List Int) : List Int := (sort l).foldl addLock []
def selects (s : St) (g : Nat) (o : Pn.Op) : St :=
  let n := o.cases.length
  let s1 := { s with drawn := (drawn s n).2 }
  let ord := orderN (drawn s n).1 n
  let good := ord.filter (fun i => made s (caseAt o i).ch)
  let ids := good.map (fun i => (caseAt o i).ch)
  let s2 := withG s1 g { gr s g with order := (gr s g).order ++ good, locks := locks ids, place := 24 }
  if 0 < ids.length then s2 else if o.els = true then pointAt s2 g (res 2) 18 else never s2 g
def begin_ (s : St) (g : Nat) : St :=
  let x := gr s g
  if (x.ops.length : Int) ≤ x.at_ then withG s g { x with status := 2, token := false }
  else
    let s1 := clear s g
    let s2 := withG s1 g { gr s1 g with call := s1.step }
    let o := op s2 g
    let m := made s2 o.ch
    if o.kind = 1 ∨ o.kind = 7 ∨ o.kind = 8 then goTo s2 g 20
    else if o.kind = 2 ∨ o.kind = 3 then (if m = true then goTo s2 g 4 else never s2 g)
    else if o.kind = 4 ∨ o.kind = 5 then (if m = true then goTo s2 g 1 else pointAt s2 g (res 2) 18)
    else if o.kind = 6 then (if m = true then goTo s2 g 4 else pointAt s2 g (res 5) 18)
    else selects s2 g o
def doOp (s : St) (g : Nat) : St :=
  let o := op s g
  if o.kind = 1 ∧ 8 ≤ s.chans.length then pointAt s g (res 7) 18
  else if o.kind = 1 then pointAt { s with chans := s.chans ++ [⟨o.n, [], false, -1, [], []⟩] } g ⟨1, -1, 0, true, s.chans.length + 1⟩ 18
  else if made s o.ch = true ∧ o.kind = 7 then pointAt s g ⟨1, -1, 0, true, (cn s o.ch).buf.length⟩ 18
  else if made s o.ch = true then pointAt s g ⟨1, -1, 0, true, (cn s o.ch).cap⟩ 18
  else pointAt s g ⟨1, -1, 0, true, 0⟩ 18
def mark (s : St) (g : Nat) (re : Int) : Mk :=
  let x := gr s g
  ⟨g, x.at_, x.call, x.arrive, x.point, x.wi, x.fire, re, x.res⟩
def answer (s : St) (g : Nat) : St :=
  let s1 := { s with done := s.done ++ [mark s g s.step] }
  clear (withG s1 g { gr s1 g with at_ := (gr s1 g).at_ + 1, place := 0 }) g
def otherStep (s : St) (g : Nat) : St × Bool :=
  let x := gr s g
  if x.place = 0 then (begin_ s g, true) else if x.place = 20 then (doOp s g, true) else if x.place = 18 then (answer s g, true) else (s, false)
/-! ### runs -/
def running (s : St) : List Int := ((List.range s.gs.length).filter (fun g => decide ((gr s g).status = 0))).map Int.ofNat
def one (s : St) (g : Int) : St × Bool :=
  if g < 0 ∨ (s.gs.length : Int) ≤ g ∨ (gr s g.toNat).status ≠ 0 then (s, false)
  else
    let n := { s with step := s.step + 1 }
    if (otherStep n g.toNat).2 = true then ((otherStep n g.toNat).1, true)
    else if (sendStep n g.toNat).2 = true then ((sendStep n g.toNat).1, true)
    else if (recvStep n g.toNat).2 = true then ((recvStep n g.toNat).1, true)
    else if (shutStep n g.toNat).2 = true then ((shutStep n g.toNat).1, true)
    else if (chooseStep n g.toNat).2 = true then ((chooseStep n g.toNat).1, true)
    else (s, false)
def pick (s : St) (p : Int) : Int := if (running s).length = 0 then -1 else atK (running s) (p % ((running s).length : Int))
def runs (s : St) : List Int → St × Int
  | [] => (s, 0)
  | p :: r => if pick s p < 0 then (s, 0) else ((runs (one s (pick s p)).1 r).1, (runs (one s (pick s p)).1 r).2 + 1)
end Sx
end Go.Proofs.YtgjpdogjekmemaaDoor
