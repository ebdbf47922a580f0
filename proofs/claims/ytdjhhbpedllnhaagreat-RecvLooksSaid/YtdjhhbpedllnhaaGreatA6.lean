/-
  What the laws need, part A6.
  Conditions: none.
-/
import Derived.Test.YtdjhhbpedllnhaaGreatA5
set_option linter.unusedVariables false
set_option linter.unusedSimpArgs false
set_option linter.unnecessarySimpa false
set_option maxHeartbeats 2000000
namespace Go.Proofs.YtdjhhbpedllnhaaGreat
namespace Sx
def yG:Pn.Op:=⟨0,0,0,0,[],false⟩
def rP:Cn:=⟨0,[],false,-1,[],[]⟩
def aa (s:ah) (g:Nat):Gr:=s.gs.getD g (clean [] 0)
def cn (s:ah) (ch:Int):Cn:=s.au.getD (ch - 1).toNat rP
def su (s:ah) (i:Int):Su:=s.aB.getD i.toNat fB
def ag (s:ah) (g:Nat):Pn.Op:=(aa s g).ops.getD (aa s g).at_.toNat yG
def aL (s:ah) (ch:Int):Bool:=decide (1≤ch∧ch≤s.au.length)
def ai (s:ah) (g:Nat) (x:Gr):ah:={ s with gs:=s.gs.set g x }
def aA (s:ah) (ch:Int) (c:Cn):ah:={ s with au:=s.au.set (ch - 1).toNat c }
def aN (s:ah) (i:Int) (x:Su):ah:={ s with aB:=s.aB.set i.toNat x }
def aG (s:ah) (g:Nat) (p:Int):ah:=ai s g { aa s g with place:=p }
def oX (x:Gr):Gr:={ clean x.ops x.at_ with place:=x.place,status:=x.status,token:=x.token }
def clear (s:ah) (g:Nat):ah:=ai s g (oX (aa s g))
def tryLock (s:ah) (g:Nat) (ch:Int):ah × Bool:=if (cn s ch).lock=-1 then (aA s ch { cn s ch with lock:=g },true) else (s,false)
def free (s:ah) (ch:Int):ah:=aA s ch { cn s ch with lock:=-1 }
def uO (s:ah):List Int:=s.middle ++ s.cache.flatten
def gX (s:ah) (x:Int):Bool:=decide (0≤x) && decide (x < s.fresh) && !(uO s).contains x
def aQ (s:ah) (g:Nat):ah × Int × Bool :=
 if Po.own s.bP.toNat (s.cache.getD g []) s.middle=[] then (if s.fresh < s.dh then ({ s with fresh:=s.fresh + 1 },s.fresh,true) else (s,0,false))
 else ({ s with cache:=s.cache.set g (Po.own s.bP.toNat (s.cache.getD g []) s.middle).dropLast,middle:=Po.bp s.bP.toNat (s.cache.getD g []) s.middle },(Po.own s.bP.toNat (s.cache.getD g []) s.middle).getLastD 0,true)
def eE (s:ah) (g:Nat) (x:Int):ah :=
 if gX s x then { s with cache:=s.cache.set g ((s.cache.getD g []).take ((s.cache.getD g []).length - Po.eD s.bP.toNat (s.cache.getD g [])) ++ [x]),middle:=s.middle ++ (s.cache.getD g []).reverse.take (Po.eD s.bP.toNat (s.cache.getD g [])) }
 else s
def cy (s:ah) (g:Nat) (x:Int):ah:=aN (eE s g x) x fB
def fF (s:ah) (g:Nat):ah :=
 ai s g (if (aa s g).status=0∧(aa s g).token=true then { aa s g with token:=false } else if (aa s g).status=0 then { aa s g with status:=1 } else aa s g)
def ready (s:ah) (g:Nat):ah :=
 ai s g (if (aa s g).status=1 then { aa s g with status:=0 } else if (aa s g).status=0 then { aa s g with token:=true } else aa s g)
def pair (s:ah) (g:Nat) (i:Int):ah :=
 let x:=aa s g
 let o:=(su s i).g
 ai (ai s o.toNat { aa s o.toNat with bE:=x.t,wi:=g,dJ:=(su s i).cs }) g { x with bE:=x.t,wi:=o }
def serve (s:ah) (g:Nat) (i:Int) (d:Bool):ah :=
 let o:=(su s i).g
 let s2:=aN (ai s o.toNat { aa s o.toNat with param:=i }) i { su s i with done:=d }
 ai s2 g { aa s2 g with ak:=(aa s2 g).ak ++ [o],hold:=-1 }
def ak (s:ah) (g:Nat):ah:=if 0 < (aa s g).ak.length then aG s g 17 else aG s g 18
def common (s:ah) (g:Nat):ah × Bool :=
 let x:=aa s g
 let o:=ag s g
 if x.place=4 then
  (if (tryLock s g o.ch).2=true then (if o.kind=6 then (aG (tryLock s g o.ch).1 g 21,true) else (aG (tryLock s g o.ch).1 g 5,true)) else (s,true))
 else if x.place=12 then (aG (free s o.ch) g 13,true)
 else if x.place=13 then (fF (aG s g 14) g,true)
 else if x.place=15 then (aG (ai (cy s g x.aI) g { x with aI:=-1 }) g 18,true)
 else if x.place=16 then (ak (free s o.ch) g,true)
 else if x.place=17 then (ak (ai (ready s (x.ak.headD 0).toNat) g { x with ak:=x.ak.tail }) g,true)
 else (s,false)
def br (s:ah) (g:Nat) (r:Md.an) (p:Int):ah:=ai s g { aa s g with bE:=s.step,res:=r,place:=p }
def cZ (v:Int) (ok:Bool):Md.an:=⟨1,-1,v,ok,0⟩
def res (c:Int):Md.an:=⟨c,-1,0,false,0⟩
def gj:Md.an:=⟨1,-1,0,true,0⟩
def room (c:Cn):Bool:=if 0 < c.cap then decide ((c.buf.length:Int) < c.cap) else decide (0 < c.recv.length)
def ke (c:Cn):Bool:=if 0 < c.cap then decide (0 < c.buf.length) else decide (0 < c.send.length)
def eZ (l:List Int) (x:Int):List Int:=l.filter (· != x)
def aT (s:ah) (i:Int):ah :=
 if aL s (su s i).ch=true then aA s (su s i).ch { cn s (su s i).ch with recv:=eZ (cn s (su s i).ch).recv i,send:=eZ (cn s (su s i).ch).send i } else s
def taken (s:ah) (g:Nat) (i cU hand:Int):ah :=
 if 0≤(su s i).cs then aG (ai s g { aa s g with hold:=i }) g cU
 else aG (pair (aT (ai s g { aa s g with hold:=i,t:=s.step }) i) g i) g hand
def cU (s:ah) (g:Nat) (back on:Int):ah :=
 let x:=aa s g
 let p:=(su s x.hold).g.toNat
 if (aa s p).aU=true then ai (aT s x.hold) g { x with hold:=-1,place:=back }
 else aG (pair (ai (ai s g { x with t:=s.step }) p { aa s p with aU:=true }) g x.hold) g on
def aI (s:ah) (g:Nat) (d:Su):ah :=
 if (aQ s g).2.2=true then ai (aN (aQ s g).1 (aQ s g).2.1 d) g { aa s g with aI:=(aQ s g).2.1,place:=11 }
 else ai (aQ s g).1 g { aa s g with res:={ (aa s g).res with code:=6 },place:=16 }
def nE (s:ah) (g:Nat) (v:Int):ah :=
 let h:=(aa s g).hold
 let s1:=aT s h
 serve (aN s1 h { su s1 h with v:=v }) g h true
def iW (l:List Int) (room v:Int):List Int × Bool:=if room≤l.length then (l,false) else (l ++ [v],true)
def dX (l:List Int):List Int × Int × Bool:=if l.length=0 then (l,0,false) else (l.tail,l.headD 0,true)
def eF (l:List Int) (room v:Int):List Int × Int × Bool:=if (l.length:Int) < room∨l.length=0 then (l,0,false) else (l.tail ++ [v],l.headD 0,true)
def bV (s:ah) (g:Nat):ah × Bool :=
  let x:=aa s g
  let o:=ag s g
  let c:=cn s o.ch
  if o.kind≠2∧o.kind≠4 then (s,false)
  else if (common s g).2=true then ((common s g).1,true)
  else if aL s o.ch=false then (s,false)
  else if x.place=1 then (if room c=true then (aG s g 4,true) else (br s g x.res 2,true))
  else if x.place=2 then (if c.closed=true then (ai s g { x with bE:=0,place:=4 },true) else (ai s g { x with res:={ x.res with code:=2 },place:=18 },true))
  else if x.place=5 then (if c.closed=true then (br s g (res 3) 16,true) else (aG s g 6,true))
  else if x.place=6 then (if c.recv.length=0 then (aG s g 9,true) else (taken s g (c.recv.headD 0) 7 8,true))
  else if x.place=7 then (cU s g 6 8,true)
  else if x.place=8 then (ai (nE s g o.v) g { aa (nE s g o.v) g with res:=gj,place:=16 },true)
  else if x.place=9 then
    (if (iW c.buf c.cap o.v).2=true then (br (aA s o.ch { c with buf:=(iW c.buf c.cap o.v).1 }) g gj 16,true)
     else if o.kind=4 then (br s g (res 2) 16,true) else (aG s g 10,true))
  else if x.place=10 then (aI s g ⟨true,g,o.ch,-1,true,o.v,false⟩,true)
  else if x.place=11 then (ai (aA s o.ch { c with send:=c.send ++ [x.aI] }) g { x with iJ:=s.step,place:=12 },true)
  else if x.place=14 then (ai s g { x with res:=if (su s x.param).done=true then gj else res 3,param:=-1,place:=15 },true)
  else (s,false)
def hand (s:ah) (ch i:Int):ah × Int :=
 let c:=cn s ch
 if c.cap=0 then (s,(su s i).v)
 else (aA s ch { c with buf:=(eF c.buf c.cap (su s i).v).1 },(eF c.buf c.cap (su s i).v).2.1)
def bz (s:ah) (g:Nat):ah × Bool :=
  let x:=aa s g
  let o:=ag s g
  let c:=cn s o.ch
  if o.kind≠3∧o.kind≠5 then (s,false)
  else if (common s g).2=true then ((common s g).1,true)
  else if aL s o.ch=false then (s,false)
  else if x.place=1 then (if ke c=true then (aG s g 4,true) else (br s g x.res 2,true))
  else if x.place=2 then (if c.closed=true then (aG s g 3,true) else (ai s g { x with res:={ x.res with code:=2 },place:=18 },true))
  else if x.place=3 then (if ke c=true then (ai s g { x with bE:=0,place:=4 },true) else (br s g (cZ 0 false) 18,true))
  else if x.place=5 then
    (if c.closed=true∧c.buf.length=0 then (br s g (cZ 0 false) 16,true) else if c.closed=true then (aG s g 9,true) else (aG s g 6,true))
  else if x.place=6 then (if c.send.length=0 then (aG s g 9,true) else (taken s g (c.send.headD 0) 7 8,true))
  else if x.place=7 then (cU s g 6 8,true)
  else if x.place=8 then
    (let n:=hand (aT s x.hold) o.ch x.hold
     let n2:=serve n.1 g x.hold true
     (ai n2 g { aa n2 g with res:=cZ n.2 true,place:=16 },true))
  else if x.place=9 then
    (if (dX c.buf).2.2=true then (br (aA s o.ch { c with buf:=(dX c.buf).1 }) g (cZ (dX c.buf).2.1 true) 16,true)
     else if o.kind=5 then (br s g (res 2) 16,true) else (aG s g 10,true))
  else if x.place=10 then (aI s g ⟨true,g,o.ch,-1,false,0,false⟩,true)
  else if x.place=11 then (ai (aA s o.ch { c with recv:=c.recv ++ [x.aI] }) g { x with iJ:=s.step,place:=12 },true)
  else if x.place=14 then (ai s g { x with res:=if (su s x.param).done=true then cZ (su s x.param).v true else cZ 0 false,param:=-1,place:=15 },true)
  else (s,false)
def fR (s:ah) (g:Nat):ah :=
 let i:=(aa s g).hold
 let s1:=aT (ai s g { aa s g with t:=s.step }) i
 let d:=su s1 i
 serve (ai s1 d.g.toNat { aa s1 d.g.toNat with bE:=(aa s1 g).t,dJ:=d.cs }) g i false
def ff (s:ah) (g:Nat) (i:Int):ah :=
 let s1:=ai s g { aa s g with hold:=i }
 if 0≤(su s1 i).cs then aG s1 g 23 else fR s1 g
def ic (s:ah) (g:Nat):ah :=
 let x:=aa s g
 let p:=(su s x.hold).g.toNat
 if (aa s p).aU=true then ai (aT s x.hold) g { x with hold:=-1,place:=22 }
 else aG (fR (ai s p { aa s p with aU:=true }) g) g 22
def cj (s:ah) (g:Nat):ah × Bool :=
 let x:=aa s g
 let o:=ag s g
 let c:=cn s o.ch
 if o.kind≠6 then (s,false)
 else if (common s g).2=true then ((common s g).1,true)
 else if aL s o.ch=false then (s,false)
 else if x.place=21 then (if c.closed=true then (br s g (res 4) 16,true) else (br (aA s o.ch { c with closed:=true }) g gj 22,true))
 else if x.place=22 then
  (if 0 < c.recv.length then (ff s g (c.recv.headD 0),true) else if 0 < c.send.length then (ff s g (c.send.headD 0),true) else (aG s g 16,true))
 else if x.place=23 then (ic s g,true)
 else (s,false)
def unlock (s:ah) (g:Nat) (p:Int):ah:=ai s g { aa s g with k:=(aa s g).aF.length,place:=p }
def fC (s:ah) (g:Nat) (r:Md.an) (i:Int):ah :=
 let s1:=br s g { r with cs:=i } 30
 unlock (ai s1 g { aa s1 g with dJ:=i }) g 30
def aE (l:List Int) (k:Int):Int:=l.getD k.toNat 0
def lock (s:ah) (g:Nat) (p:Int):ah :=
 let x:=aa s g
 if (tryLock s g (aE x.aF x.k)).2=true then
  (if x.k + 1=x.aF.length then ai (tryLock s g (aE x.aF x.k)).1 g { x with k:=0,place:=p } else ai (tryLock s g (aE x.aF x.k)).1 g { x with k:=x.k + 1 })
 else s
def next (s:ah) (g:Nat) (p:Int):ah :=
 let x:=aa s g
 if x.k + 1=x.order.length then ai s g { x with k:=0,place:=p } else ai s g { x with k:=x.k + 1 }
def gY (s:ah) (g:Nat):ah :=
 let x:=aa s g
 if x.place=27 then ai s g { x with dJ:=aE x.order x.k } else ai s g x
def Q0:Pn.Cs:=⟨false,0,0⟩
def cD (o:Pn.Op) (i:Int):Pn.Cs:=o.cases.getD i.toNat Q0
def iX (s:ah) (g:Nat) (i:Int) (k:Pn.Cs):ah × Bool :=
 let c:=cn s k.ch
 if c.closed=true then (fC s g ⟨3,0,0,false,0⟩ i,true)
 else if 0 < c.recv.length then (gY (taken s g (c.recv.headD 0) 26 27) g,true)
 else if (iW c.buf c.cap k.v).2=true then (fC (aA s k.ch { c with buf:=(iW c.buf c.cap k.v).1 }) g ⟨1,0,0,true,0⟩ i,true)
 else (s,false)
def jP (s:ah) (g:Nat) (i:Int) (k:Pn.Cs):ah × Bool :=
 let c:=cn s k.ch
 if 0 < c.send.length then (gY (taken s g (c.send.headD 0) 26 27) g,true)
 else if (dX c.buf).2.2=true then (fC (aA s k.ch { c with buf:=(dX c.buf).1 }) g (cZ (dX c.buf).2.1 true) i,true)
 else if c.closed=true then (fC s g (cZ 0 false) i,true)
 else (s,false)
def kG (s:ah) (g:Nat) (o:Pn.Op):ah :=
 let x:=aa s g
 let i:=aE x.order x.k
 let k:=cD o i
 let r:=if k.send=true then iX s g i k else jP s g i k
 if r.2=true then r.1
 else if x.k + 1 < x.order.length then next s g 25
 else if o.dR=true then fC s g ⟨2,0,0,false,0⟩ (-1)
 else next (ai s g { x with ax:=List.replicate o.cases.length (-1) }) g 28
def kH (s:ah) (g:Nat) (o:Pn.Op):ah :=
 let x:=aa s g
 let i:=aE x.order x.k
 let k:=cD o i
 let s1:=aT s x.hold
 let n:=if k.send=true then (aN s1 x.hold { su s1 x.hold with v:=k.v },(⟨1,i,0,true,0⟩:Md.an)) else ((hand s1 k.ch x.hold).1,{ cZ (hand s1 k.ch x.hold).2 true with cs:=i })
 let s2:=serve n.1 g x.hold true
 unlock (ai s2 g { aa s2 g with res:=n.2 }) g 30
def aB (s:ah) (g:Nat) (o:Pn.Op):ah :=
 let x:=aa s g
 let i:=aE x.order x.k
 let k:=cD o i
 if (aQ s g).2.2=true then
  next (ai (aN (aQ s g).1 (aQ s g).2.1 ⟨true,g,k.ch,i,k.send,k.v,false⟩) g { x with ax:=x.ax.set i.toNat (aQ s g).2.1 }) g 29
 else unlock (ai (aQ s g).1 g { x with res:={ x.res with code:=6 } }) g 30
def mj (s:ah) (g:Nat) (o:Pn.Op):ah :=
 let x:=aa s g
 let i:=aE x.order x.k
 let k:=cD o i
 let c:=cn s k.ch
 let s1:=aA s k.ch (if k.send=true then { c with send:=c.send ++ [aE x.ax i] } else { c with recv:=c.recv ++ [aE x.ax i] })
 if x.k + 1 < x.order.length then next s1 g 29
 else unlock (ai s1 g { x with iJ:=s1.step }) g 30
def dy (s:ah) (g:Nat):ah × Bool :=
 let x:=aa s g
 (ai (free s (aE x.aF (x.k - 1))) g { x with k:=x.k - 1 },decide (0 < x.k - 1))
def oh (l:List Int):Bool:=l.any (fun x=>decide (0≤x))
def mq (s:ah) (g:Nat):ah :=
 let x:=aa s g
 let d:=su s x.param
 let r:Md.an:=if d.done=true then { cZ d.v true with cs:=d.cs } else { cZ 0 false with cs:=d.cs }
 let r2:Md.an:=if d.send=true∧d.done=true then { r with v:=0 } else if d.send=true then ⟨3,d.cs,0,false,0⟩ else r
 ai s g { x with res:=r2,param:=-1,k:=0,place:=31 }
def mu (s:ah) (g:Nat):ah :=
 let x:=aa s g
 let s1:=aT s (aE x.ax (aE x.order x.k))
 if x.k + 1 < x.order.length then next s1 g 32 else unlock s1 g 33
def kI (s:ah) (g:Nat):ah :=
 let x:=aa s g
 let i:=aE x.order x.k
 let s1:=if 0≤aE x.ax i then cy s g (aE x.ax i) else s
 if x.k + 1=x.order.length then ak (next (ai s1 g { x with ax:=[] }) g 34) g
 else next (ai s1 g { x with ax:=x.ax.set i.toNat (-1) }) g 34
def bL (s:ah) (g:Nat):ah × Bool :=
  let x:=aa s g
  let o:=ag s g
  if o.kind≠9 then (s,false)
  else if x.place=24 then (lock s g 25,true)
  else if x.place=25 then (kG s g o,true)
  else if x.place=26 then (gY (cU s g 25 27) g,true)
  else if x.place=27 then (kH s g o,true)
  else if x.place=28 then (aB s g o,true)
  else if x.place=29 then (mj s g o,true)
  else if x.place=30 then
    (if (dy s g).2=true then ((dy s g).1,true) else if x.res.code=0 then (aG (dy s g).1 g 13,true)
     else if oh x.ax=true then (aG (dy s g).1 g 34,true) else (ak (dy s g).1 g,true))
  else if x.place=14 then (mq s g,true)
  else if x.place=31 then (lock s g 32,true)
  else if x.place=32 then (mu s g,true)
  else if x.place=33 then (if (dy s g).2=true then ((dy s g).1,true) else (aG (dy s g).1 g 34,true))
  else if x.place=34 then (kI s g,true)
  else if x.place=13∨x.place=17 then common s g
  else (s,false)
def never (s:ah) (g:Nat):ah:=fF (aG s g 19) g
def draw (l:List Int) (at_ n:Int):Int × Int:=if n < 1∨(l.length:Int)≤at_ then (0,at_) else ((aE l at_) % n,at_ + 1)
def drawn:ah→Nat→List Int × Int
 | s,0=>([],s.drawn)
 | s,n + 1=>((drawn s n).1 ++ [(draw s.dG (drawn s n).2 (n + 1)).1],(draw s.dG (drawn s n).2 (n + 1)).2)
def swap (l:List Int) (i j:Nat):List Int:=(l.set i (l.getD j 0)).set j (l.getD i 0)
def eJ (ds:List Int):Nat→List Int
 | 0=>[]
 | n + 1=>swap (eJ ds n ++ [(n:Int)]) (ds.getD n 0 % (n + 1)).toNat n
def insert (x:Int):List Int→List Int
 | []=>[x]
 | y :: l=>if y≤x then y :: insert x l else x :: y :: l
def sort (l:List Int):List Int:=l.foldl (fun acc x=>insert x acc) []
def iK (acc:List Int) (x:Int):List Int:=if x≤0∨(0 < acc.length∧acc.getLastD 0=x) then acc else acc ++ [x]
def aF (l:List Int):List Int:=(sort l).foldl iK []
def kJ (s:ah) (g:Nat) (o:Pn.Op):ah :=
 let n:=o.cases.length
 let s1:={ s with drawn:=(drawn s n).2 }
 let ord:=eJ (drawn s n).1 n
 let fX:=ord.filter (fun i=>aL s (cD o i).ch)
 let ids:=fX.map (fun i=>(cD o i).ch)
 let s2:=ai s1 g { aa s g with order:=(aa s g).order ++ fX,aF:=aF ids,place:=24 }
 if 0 < ids.length then s2 else if o.dR=true then br s2 g (res 2) 18 else never s2 g
def kK (s:ah) (g:Nat):ah :=
 let x:=aa s g
 if (x.ops.length:Int)≤x.at_ then ai s g { x with status:=2,token:=false }
 else
  let s1:=clear s g
  let s2:=ai s1 g { aa s1 g with call:=s1.step }
  let o:=ag s2 g
  let m:=aL s2 o.ch
  if o.kind=1∨o.kind=7∨o.kind=8 then aG s2 g 20
  else if o.kind=2∨o.kind=3 then (if m=true then aG s2 g 4 else never s2 g)
  else if o.kind=4∨o.kind=5 then (if m=true then aG s2 g 1 else br s2 g (res 2) 18)
  else if o.kind=6 then (if m=true then aG s2 g 4 else br s2 g (res 5) 18)
  else kJ s2 g o
def kL (s:ah) (g:Nat):ah :=
 let o:=ag s g
 if o.kind=1∧8≤s.au.length then br s g (res 7) 18
 else if o.kind=1 then br { s with au:=s.au ++ [⟨o.n,[],false,-1,[],[]⟩] } g ⟨1,-1,0,true,s.au.length + 1⟩ 18
 else if aL s o.ch=true∧o.kind=7 then br s g ⟨1,-1,0,true,(cn s o.ch).buf.length⟩ 18
 else if aL s o.ch=true then br s g ⟨1,-1,0,true,(cn s o.ch).cap⟩ 18
 else br s g ⟨1,-1,0,true,0⟩ 18
def mark (s:ah) (g:Nat) (re:Int):Mk :=
 let x:=aa s g
 ⟨g,x.at_,x.call,x.iJ,x.bE,x.wi,x.dJ,re,x.res⟩
def answer (s:ah) (g:Nat):ah :=
 let s1:={ s with done:=s.done ++ [mark s g s.step] }
 clear (ai s1 g { aa s1 g with at_:=(aa s1 g).at_ + 1,place:=0 }) g
def js (s:ah) (g:Nat):ah × Bool :=
 let x:=aa s g
 if x.place=0 then (kK s g,true) else if x.place=20 then (kL s g,true) else if x.place=18 then (answer s g,true) else (s,false)
def running (s:ah):List Int:=((List.range s.gs.length).filter (fun g=>decide ((aa s g).status=0))).map Int.ofNat
def one (s:ah) (g:Int):ah × Bool :=
 if g < 0∨(s.gs.length:Int)≤g∨(aa s g.toNat).status≠0 then (s,false)
 else
  let n:={ s with step:=s.step + 1 }
  if (js n g.toNat).2=true then ((js n g.toNat).1,true)
  else if (bV n g.toNat).2=true then ((bV n g.toNat).1,true)
  else if (bz n g.toNat).2=true then ((bz n g.toNat).1,true)
  else if (cj n g.toNat).2=true then ((cj n g.toNat).1,true)
  else if (bL n g.toNat).2=true then ((bL n g.toNat).1,true)
  else (s,false)
def pick (s:ah) (p:Int):Int:=if (running s).length=0 then -1 else aE (running s) (p % ((running s).length:Int))
def runs (s:ah):List Int→ah × Int
 | []=>(s,0)
 | p :: r=>if pick s p < 0 then (s,0) else ((runs (one s (pick s p)).1 r).1,(runs (one s (pick s p)).1 r).2 + 1)
end Sx
namespace Fl
open Sx Go.Proofs.Tryz
instance:fE prog 2 1:={}
instance:gS prog 2:={}
instance:aX prog 2 [.int .i64 0]:={}
instance:kD prog 2 .i64:={}
instance:fE prog 3 1:={}
instance:gS prog 3:={}
instance:aX prog 3 [.int .i64 0]:={}
instance:kD prog 3 .i64:={}
instance:fE prog 4 1:={}
instance:gS prog 4:={}
instance:aX prog 4 [.bool false]:={}
instance:Bb prog 4:={}
instance:aX prog 5 [.int .u8 0]:={}
instance:kD prog 5 .u8:={}
instance:aX prog 6 [.int .u8 0]:={}
instance:kD prog 6 .u8:={}
instance:aX prog 7 [.int .i64 0,.int .i64 0,.bool false,.int .u8 0]:={}
instance:aX prog 8 [.int .i64 0,.int .i64 0,.bool false,.int .u8 0]:={}
instance:aX prog 9 [.string ⟨#[]⟩]:={}
instance:aX prog 10 [.string ⟨#[]⟩]:={}
instance:aX prog 11 [.string ⟨#[]⟩]:={}
instance:aX prog 12 [.int .u64 0]:={}
instance:kD prog 12 .u64:={}
instance:aX prog 13 [.string ⟨#[]⟩,.int .u64 0]:={}
instance:aX prog 14 [.string ⟨#[]⟩,.int .u64 0]:={}
instance:aX prog 15 [.pointer none]:={}
instance:aX prog 16 [.pointer none]:={}
instance:aX prog 17 [.pointer none]:={}
instance:aX prog 18 [.pointer none]:={}
instance:aX prog 19 [.pointer none]:={}
instance:aX prog 21 [.int .i32 0]:={}
instance:kD prog 21 .i32:={}
instance:gS prog 22:={}
instance:aX prog 22 [.slice none 0 0]:={}
instance:fM prog 22 43 1:={}
instance:ia prog 22 43 1 24 (.slice none 0 0):=⟨⟨by kernel_rfl,by kernel_rfl,rfl,by decide,by decide⟩⟩
instance:aX prog 23 [.int .i64 0,.int .i64 0]:={}
instance:j6 prog 24 2:={}
instance:aX prog 24 [.int .i64 0,.int .i64 0]:={}
instance:bR prog 24 0 0:={}
instance:bR prog 24 1 1:={}
instance:nv prog 24 [(0,1),(1,1)]:={}
instance:gS prog 25:={}
instance:aX prog 25 [.slice none 0 0]:={}
instance:fM prog 25 110 1:={}
instance:ia prog 25 110 1 2 (.int .u16 0):=⟨⟨by kernel_rfl,by kernel_rfl,rfl,by decide,by decide⟩⟩
instance:aX prog 26 [.slice none 0 0,.int .i64 0,.int .i64 0,.slice none 0 0]:={}
instance:j6 prog 27 4:={}
instance:aX prog 27 [.slice none 0 0,.int .i64 0,.int .i64 0,.slice none 0 0]:={}
instance:bR prog 27 0 0:={}
instance:bR prog 27 1 1:={}
instance:bR prog 27 2 3:={}
instance:fE prog 28 1:={}
instance:gS prog 28:={}
instance:aX prog 28 [.slice none 0 0]:={}
instance:fM prog 28 3 1:={}
instance:ia prog 28 3 1 8 (.int .i64 0):=⟨⟨by kernel_rfl,by kernel_rfl,rfl,by decide,by decide⟩⟩
instance:fE prog 30 1:={}
instance:gS prog 30:={}
instance:aX prog 30 [.slice none 0 0]:={}
instance:fM prog 30 47 25:={}
instance:ia prog 30 47 25 280 (.agg #[.slice none 0 0,.int .i64 0,.int .i64 0,.int .i64 0,.bool false,.int .i64 0,.bool false,.int .i64 0,.int .i64 0,.int .i64 0,.int .i64 0,.int .i64 0,.int .i64 0,.int .i64 0,.int .i64 0,.int .i64 0,.int .i64 0,.int .i64 0,.bool false,.int .i64 0,.slice none 0 0,.slice none 0 0,.slice none 0 0,.slice none 0 0,.int .i64 0]):=⟨⟨by kernel_rfl,by kernel_rfl,rfl,by decide,by decide⟩⟩
instance:fE prog 31 1:={}
instance:gS prog 31:={}
instance:aX prog 31 [.slice none 0 0]:={}
instance:fM prog 31 59 6:={}
instance:ia prog 31 59 6 96 (.agg #[.int .i64 0,.slice none 0 0,.bool false,.int .i64 0,.slice none 0 0,.slice none 0 0]):=⟨⟨by kernel_rfl,by kernel_rfl,rfl,by decide,by decide⟩⟩
instance:fE prog 32 1:={}
instance:gS prog 32:={}
instance:aX prog 32 [.slice none 0 0]:={}
instance:fM prog 32 52 7:={}
instance:ia prog 32 52 7 56 (.agg #[.bool false,.int .i64 0,.int .i64 0,.int .i64 0,.bool false,.int .i64 0,.bool false]):=⟨⟨by kernel_rfl,by kernel_rfl,rfl,by decide,by decide⟩⟩
instance:fE prog 33 1:={}
instance:gS prog 33:={}
instance:aX prog 33 [.slice none 0 0]:={}
instance:fM prog 33 28 1:={}
instance:ia prog 33 28 1 24 (.slice none 0 0):=⟨⟨by kernel_rfl,by kernel_rfl,rfl,by decide,by decide⟩⟩
instance:fE prog 34 1:={}
instance:gS prog 34:={}
instance:aX prog 34 [.slice none 0 0]:={}
instance:fM prog 34 54 13:={}
instance:ia prog 34 54 13 104 (.agg #[.int .i64 0,.int .i64 0,.int .i64 0,.int .i64 0,.int .i64 0,.int .i64 0,.int .i64 0,.int .i64 0,.int .i64 0,.int .i64 0,.int .i64 0,.bool false,.int .i64 0]):=⟨⟨by kernel_rfl,by kernel_rfl,rfl,by decide,by decide⟩⟩
instance:aX prog 35 [.int .i64 0,.int .i64 0,.int .i64 0,.slice none 0 0,.slice none 0 0,.slice none 0 0,.slice none 0 0,.slice none 0 0,.int .i64 0,.slice none 0 0,.int .i64 0,.slice none 0 0]:={}
instance:fE prog 36 12:={}
instance:j6 prog 36 12:={}
instance:aX prog 36 [.int .i64 0,.int .i64 0,.int .i64 0,.slice none 0 0,.slice none 0 0,.slice none 0 0,.slice none 0 0,.slice none 0 0,.int .i64 0,.slice none 0 0,.int .i64 0,.slice none 0 0]:={}
instance:bR prog 36 0 0:={}
instance:bR prog 36 1 2:={}
instance:bR prog 36 2 3:={}
instance:bR prog 36 3 4:={}
instance:bR prog 36 4 5:={}
instance:bR prog 36 5 6:={}
instance:bR prog 36 6 7:={}
instance:bR prog 36 7 8:={}
instance:bR prog 36 8 9:={}
instance:bR prog 36 9 10:={}
instance:bR prog 36 10 11:={}
instance:nv prog 36 [(0,2),(2,1),(3,1),(4,1),(5,1),(6,1),(7,1),(8,1),(9,1),(10,1),(11,1)]:={}
instance:aX prog 39 [.pointer none]:={}
instance:fE prog 43 1:={}
instance:gS prog 43:={}
instance:aX prog 43 [.slice none 0 0]:={}
instance:fM prog 43 50 6:={}
instance:ia prog 43 50 6 64 (.agg #[.int .i64 0,.int .i64 0,.int .i64 0,.int .i64 0,.slice none 0 0,.bool false]):=⟨⟨by kernel_rfl,by kernel_rfl,rfl,by decide,by decide⟩⟩
instance:aX prog 44 [.int .i64 0,.int .i64 0,.int .i64 0,.bool false,.int .i64 0]:={}
instance:fE prog 45 5:={}
instance:j6 prog 45 5:={}
instance:aX prog 45 [.int .i64 0,.int .i64 0,.int .i64 0,.bool false,.int .i64 0]:={}
instance:bR prog 45 0 0:={}
instance:bR prog 45 1 1:={}
instance:bR prog 45 2 2:={}
instance:bR prog 45 4 4:={}
instance:nv prog 45 [(0,1),(1,1),(2,1),(3,1),(4,1)]:={}
instance:aX prog 46 [.slice none 0 0,.int .i64 0,.int .i64 0,.int .i64 0,.bool false,.int .i64 0,.bool false,.int .i64 0,.int .i64 0,.int .i64 0,.int .i64 0,.int .i64 0,.int .i64 0,.int .i64 0,.int .i64 0,.int .i64 0,.int .i64 0,.int .i64 0,.bool false,.int .i64 0,.slice none 0 0,.slice none 0 0,.slice none 0 0,.slice none 0 0,.int .i64 0]:={}
instance:fE prog 47 25:={}
instance:j6 prog 47 25:={}
instance:aX prog 47 [.slice none 0 0,.int .i64 0,.int .i64 0,.int .i64 0,.bool false,.int .i64 0,.bool false,.int .i64 0,.int .i64 0,.int .i64 0,.int .i64 0,.int .i64 0,.int .i64 0,.int .i64 0,.int .i64 0,.int .i64 0,.int .i64 0,.int .i64 0,.bool false,.int .i64 0,.slice none 0 0,.slice none 0 0,.slice none 0 0,.slice none 0 0,.int .i64 0]:={}
instance:bR prog 47 0 0:={}
instance:bR prog 47 1 1:={}
instance:bR prog 47 2 2:={}
instance:bR prog 47 3 3:={}
instance:bR prog 47 4 4:={}
instance:bR prog 47 5 5:={}
instance:bR prog 47 6 6:={}
instance:bR prog 47 7 7:={}
instance:bR prog 47 8 8:={}
instance:bR prog 47 9 9:={}
instance:bR prog 47 10 10:={}
instance:bR prog 47 11 11:={}
instance:bR prog 47 12 12:={}
instance:bR prog 47 13 13:={}
instance:bR prog 47 14 14:={}
instance:bR prog 47 15 15:={}
instance:bR prog 47 16 20:={}
instance:bR prog 47 17 21:={}
instance:bR prog 47 18 22:={}
instance:bR prog 47 19 23:={}
instance:bR prog 47 20 24:={}
instance:nv prog 47 [(0,1),(1,1),(2,1),(3,1),(4,1),(5,1),(6,1),(7,1),(8,1),(9,1),(10,1),(11,1),(12,1),(13,1),(14,1),(15,5),(20,1),(21,1),(22,1),(23,1),(24,1)]:={}
instance:fE prog 48 1:={}
instance:gS prog 48:={}
instance:aX prog 48 [.slice none 0 0]:={}
instance:fM prog 48 72 3:={}
instance:ia prog 48 72 3 24 (.agg #[.bool false,.int .i64 0,.int .i64 0]):=⟨⟨by kernel_rfl,by kernel_rfl,rfl,by decide,by decide⟩⟩
instance:aX prog 49 [.int .i64 0,.int .i64 0,.int .i64 0,.int .i64 0,.slice none 0 0,.bool false]:={}
instance:fE prog 50 6:={}
instance:j6 prog 50 6:={}
instance:aX prog 50 [.int .i64 0,.int .i64 0,.int .i64 0,.int .i64 0,.slice none 0 0,.bool false]:={}
instance:bR prog 50 0 0:={}
instance:bR prog 50 1 1:={}
instance:bR prog 50 2 2:={}
instance:bR prog 50 3 3:={}
instance:bR prog 50 4 4:={}
instance:bR prog 50 5 5:={}
instance:nv prog 50 [(0,1),(1,1),(2,1),(3,1),(4,1),(5,1)]:={}
instance:aX prog 51 [.bool false,.int .i64 0,.int .i64 0,.int .i64 0,.bool false,.int .i64 0,.bool false]:={}
instance:fE prog 52 7:={}
instance:j6 prog 52 7:={}
instance:aX prog 52 [.bool false,.int .i64 0,.int .i64 0,.int .i64 0,.bool false,.int .i64 0,.bool false]:={}
instance:bR prog 52 1 1:={}
instance:bR prog 52 2 2:={}
instance:bR prog 52 3 3:={}
instance:bR prog 52 4 4:={}
instance:bR prog 52 5 5:={}
instance:bR prog 52 6 6:={}
instance:nv prog 52 [(0,1),(1,1),(2,1),(3,1),(4,1),(5,1),(6,1)]:={}
instance:aX prog 53 [.int .i64 0,.int .i64 0,.int .i64 0,.int .i64 0,.int .i64 0,.int .i64 0,.int .i64 0,.int .i64 0,.int .i64 0,.int .i64 0,.int .i64 0,.bool false,.int .i64 0]:={}
instance:fE prog 54 13:={}
instance:j6 prog 54 13:={}
instance:aX prog 54 [.int .i64 0,.int .i64 0,.int .i64 0,.int .i64 0,.int .i64 0,.int .i64 0,.int .i64 0,.int .i64 0,.int .i64 0,.int .i64 0,.int .i64 0,.bool false,.int .i64 0]:={}
instance:nv prog 54 [(0,1),(1,1),(2,1),(3,1),(4,1),(5,1),(6,1),(7,1),(8,5)]:={}
instance:fE prog 57 1:={}
instance:gS prog 57:={}
instance:aX prog 57 [.slice none 0 0]:={}
instance:fM prog 57 2 1:={}
instance:ia prog 57 2 1 8 (.int .i64 0):=⟨⟨by kernel_rfl,by kernel_rfl,rfl,by decide,by decide⟩⟩
instance:aX prog 58 [.int .i64 0,.slice none 0 0,.bool false,.int .i64 0,.slice none 0 0,.slice none 0 0]:={}
instance:fE prog 59 6:={}
instance:j6 prog 59 6:={}
instance:aX prog 59 [.int .i64 0,.slice none 0 0,.bool false,.int .i64 0,.slice none 0 0,.slice none 0 0]:={}
instance:bR prog 59 0 0:={}
instance:bR prog 59 1 1:={}
instance:bR prog 59 2 2:={}
instance:bR prog 59 3 3:={}
instance:bR prog 59 4 4:={}
instance:bR prog 59 5 5:={}
instance:nv prog 59 [(0,1),(1,1),(2,1),(3,1),(4,1),(5,1)]:={}
instance:gS prog 60:={}
instance:aX prog 60 [.pointer none]:={}
instance:fE prog 61 1:={}
instance:gS prog 61:={}
instance:aX prog 61 [.slice none 0 0]:={}
instance:fM prog 61 106 1:={}
instance:ia prog 61 106 1 8 (.pointer none):=⟨⟨by kernel_rfl,by kernel_rfl,rfl,by decide,by decide⟩⟩
instance:fE prog 62 1:={}
instance:gS prog 62:={}
instance:aX prog 62 [.slice none 0 0]:={}
instance:fM prog 62 4 1:={}
instance:ia prog 62 4 1 1 (.bool false):=⟨⟨by kernel_rfl,by kernel_rfl,rfl,by decide,by decide⟩⟩
instance:gS prog 63:={}
instance:aX prog 63 [.pointer none]:={}
instance:fE prog 64 1:={}
instance:gS prog 64:={}
instance:aX prog 64 [.pointer none]:={}
instance:fE prog 65 1:={}
instance:gS prog 65:={}
instance:aX prog 65 [.pointer none]:={}
instance:gS prog 66:={}
instance:aX prog 66 [.pointer none]:={}
instance:aX prog 67 [.int .i64 0,.int .i64 0,.int .i64 0,.slice none 0 0,.pointer none,.slice none 0 0,.slice none 0 0,.pointer none,.pointer none,.slice none 0 0,.pointer none,.pointer none,.slice none 0 0,.slice none 0 0]:={}
instance:aX prog 68 [.int .i64 0,.int .i64 0,.int .i64 0,.slice none 0 0,.pointer none,.slice none 0 0,.slice none 0 0,.pointer none,.pointer none,.slice none 0 0,.pointer none,.pointer none,.slice none 0 0,.slice none 0 0]:={}
instance:bR prog 68 0 0:={}
instance:bR prog 68 1 2:={}
instance:bR prog 68 2 3:={}
instance:bR prog 68 3 4:={}
instance:bR prog 68 4 5:={}
instance:bR prog 68 5 6:={}
instance:bR prog 68 6 7:={}
instance:bR prog 68 7 8:={}
instance:bR prog 68 8 9:={}
instance:bR prog 68 9 10:={}
instance:bR prog 68 10 11:={}
instance:bR prog 68 11 12:={}
instance:bR prog 68 12 13:={}
instance:nv prog 68 [(0,2),(2,1),(3,1),(4,1),(5,1),(6,1),(7,1),(8,1),(9,1),(10,1),(11,1),(12,1),(13,1)]:={}
instance:aX prog 71 [.bool false,.int .i64 0,.int .i64 0]:={}
instance:fE prog 72 3:={}
instance:j6 prog 72 3:={}
instance:aX prog 72 [.bool false,.int .i64 0,.int .i64 0]:={}
instance:bR prog 72 0 0:={}
instance:bR prog 72 1 1:={}
instance:bR prog 72 2 2:={}
instance:aX prog 76 [.pointer none]:={}
instance:aX prog 77 [.int .i64 0]:={}
instance:kD prog 77 .i64:={}
instance:gS prog 106:={}
instance:aX prog 106 [.pointer none]:={}
instance:gS prog 110:={}
instance:aX prog 110 [.int .u16 0]:={}
instance:kD prog 110 .u16:={}
instance:aX prog 116 [.pointer none]:={}
instance:aX prog 117 [.pointer none]:={}
instance:aX prog 124 [.slice none 0 0]:={}
instance:ia prog 124 143 2 16 (.agg #[.int .i64 0,.bool false]):=⟨⟨by kernel_rfl,by kernel_rfl,rfl,by decide,by decide⟩⟩
instance:aX prog 125 [.slice none 0 0]:={}
instance:aX prog 126 [.slice none 0 0]:={}
instance:aX prog 127 [.slice none 0 0]:={}
instance:aX prog 128 [.slice none 0 0]:={}
instance:aX prog 129 [.slice none 0 0,.int .i64 0]:={}
instance:aX prog 130 [.slice none 0 0,.int .i64 0]:={}
instance:bR prog 130 0 0:={}
instance:bR prog 130 1 1:={}
instance:nv prog 130 [(0,1),(1,1)]:={}
instance:aX prog 131 [.slice none 0 0]:={}
instance:ia prog 131 136 3 24 (.agg #[.int .i64 0,.int .i64 0,.int .i64 0]):=⟨⟨by kernel_rfl,by kernel_rfl,rfl,by decide,by decide⟩⟩
instance:aX prog 132 [.slice none 0 0]:={}
instance:ia prog 132 138 3 24 (.agg #[.int .i64 0,.int .i64 0,.int .i64 0]):=⟨⟨by kernel_rfl,by kernel_rfl,rfl,by decide,by decide⟩⟩
instance:aX prog 133 [.slice none 0 0,.slice none 0 0]:={}
instance:aX prog 134 [.slice none 0 0,.slice none 0 0]:={}
instance:aX prog 135 [.int .i64 0,.int .i64 0,.int .i64 0]:={}
instance:aX prog 136 [.int .i64 0,.int .i64 0,.int .i64 0]:={}
instance:aX prog 137 [.int .i64 0,.int .i64 0,.int .i64 0]:={}
instance:aX prog 138 [.int .i64 0,.int .i64 0,.int .i64 0]:={}
instance:aX prog 139 [.int .i64 0,.int .i64 0,.slice none 0 0,.slice none 0 0,.int .i64 0,.slice none 0 0]:={}
instance:aX prog 140 [.int .i64 0,.int .i64 0,.slice none 0 0,.slice none 0 0,.int .i64 0,.slice none 0 0]:={}
instance:aX prog 142 [.int .i64 0,.bool false]:={}
instance:aX prog 143 [.int .i64 0,.bool false]:={}
instance:aX prog 147 [.slice none 0 0,.int .i64 0,.int .i64 0]:={}
instance:aX prog 148 [.slice none 0 0,.int .i64 0,.int .i64 0]:={}
instance:aX prog 150 [.pointer none]:={}
instance:aX prog 171 [.pointer none,.int .i64 0,.int .i64 0,.int .i64 0,.int .i64 0,.int .i64 0,.slice none 0 0,.bool false]:={}
instance:aX prog 172 [.pointer none,.int .i64 0,.int .i64 0,.int .i64 0,.int .i64 0,.int .i64 0,.slice none 0 0,.bool false]:={}
instance:aX prog 173 [.pointer none]:={}
instance:aX prog 207 [.int .u64 0]:={}
instance:kD prog 207 .u64:={}
instance:aX prog 211 [.int .i64 0,.int .i64 0,.slice none 0 0,.slice none 0 0,.int .i64 0]:={}
instance:fE prog 212 5:={}
instance:j6 prog 212 5:={}
instance:aX prog 212 [.int .i64 0,.int .i64 0,.slice none 0 0,.slice none 0 0,.int .i64 0]:={}
instance:bR prog 212 0 0:={}
instance:bR prog 212 1 1:={}
instance:bR prog 212 2 2:={}
instance:bR prog 212 3 3:={}
instance:bR prog 212 4 4:={}
instance:nv prog 212 [(0,1),(1,1),(2,1),(3,1),(4,1)]:={}
instance:aX prog 221 [.int .u32 0]:={}
instance:kD prog 221 .u32:={}
instance:aX prog 224 [.int .u64 0]:={}
instance:kD prog 224 .u64:={}
instance:aX prog 234 [.pointer none,.pointer none,.pointer none,.string ⟨#[]⟩]:={}
instance:aX prog 235 [.pointer none,.pointer none,.pointer none,.string ⟨#[]⟩]:={}
instance:aX prog 236 []:={}
instance:aX prog 237 []:={}
instance:aX prog 238 []:={}
instance:aX prog 239 [.int .u8 0]:={}
instance:kD prog 239 .u8:={}
instance:aX prog 240 [.int .u8 0]:={}
instance:kD prog 240 .u8:={}
instance:aX prog 242 [.pointer none]:={}
instance:aX prog 243 [.int .i32 0]:={}
instance:kD prog 243 .i32:={}
instance:aX prog 244 [.int .i32 0]:={}
instance:kD prog 244 .i32:={}
instance:aX prog 245 [.int .u64 0,.int .u64 0,.int .u32 0,.int .u8 0,.int .u8 0,.int .u8 0,.int .u8 0,.nilFunc,.pointer none,.int .i32 0,.int .i32 0]:={}
instance:aX prog 246 [.int .u64 0,.int .u64 0,.int .u32 0,.int .u8 0,.int .u8 0,.int .u8 0,.int .u8 0,.nilFunc,.pointer none,.int .i32 0,.int .i32 0]:={}
instance:aJ prog 13:={}
instance:aJ prog 14:={}
instance:aJ prog 15:={}
instance:aJ prog 18:={}
instance:aJ prog 22:={}
instance:aJ prog 32:={}
instance:aJ prog 43:={}
instance:aJ prog 44:={}
instance:aJ prog 45:={}
instance:aJ prog 46:={}
instance:aJ prog 47:={}
instance:aJ prog 48:={}
instance:aJ prog 49:={}
instance:aJ prog 50:={}
instance:aJ prog 51:={}
instance:aJ prog 52:={}
instance:aJ prog 53:={}
instance:aJ prog 54:={}
instance:aJ prog 55:={}
instance:aJ prog 56:={}
instance:aJ prog 57:={}
instance:aJ prog 58:={}
instance:aJ prog 59:={}
instance:aJ prog 60:={}
instance:aJ prog 61:={}
instance:aJ prog 62:={}
instance:aJ prog 63:={}
instance:aJ prog 64:={}
instance:aJ prog 68:={}
instance:aJ prog 69:={}
instance:aJ prog 91:={}
instance:aJ prog 92:={}
instance:aJ prog 93:={}
instance:aJ prog 94:={}
instance:aJ prog 95:={}
instance:aJ prog 97:={}
instance:aJ prog 98:={}
instance:aJ prog 102:={}
instance:aJ prog 105:={}
instance:aJ prog 107:={}
instance:aJ prog 108:={}
instance:aJ prog 109:={}
instance:aJ prog 114:={}
instance:aJ prog 115:={}
instance:aJ prog 116:={}
instance:aJ prog 117:={}
instance:aJ prog 118:={}
instance:aJ prog 119:={}
instance:aJ prog 120:={}
instance:aJ prog 121:={}
instance:aJ prog 123:={}
instance:aJ prog 137:={}
instance:aJ prog 154:={}
instance:aJ prog 155:={}
instance:aJ prog 156:={}
instance:aJ prog 157:={}
instance:aJ prog 158:={}
instance:aJ prog 159:={}
instance:aJ prog 160:={}
instance:aJ prog 161:={}
instance:aJ prog 162:={}
instance:aJ prog 163:={}
instance:aJ prog 164:={}
instance:aJ prog 165:={}
instance:aJ prog 166:={}
instance:aJ prog 167:={}
instance:aJ prog 168:={}
instance:aJ prog 170:={}
instance:aJ prog 171:={}
instance:aJ prog 172:={}
instance:aJ prog 173:={}
instance:aJ prog 200:={}
instance:aJ prog 201:={}
instance:aJ prog 202:={}
instance:aJ prog 203:={}
instance:aJ prog 204:={}
instance:aJ prog 205:={}
instance:aJ prog 206:={}
instance:aJ prog 207:={}
instance:aJ prog 208:={}
instance:aJ prog 209:={}
instance:aJ prog 210:={}
instance:aJ prog 211:={}
instance:aJ prog 212:={}
instance:aJ prog 213:={}
instance:aJ prog 214:={}
instance:aJ prog 215:={}
instance:aJ prog 216:={}
instance:aJ prog 217:={}
instance:aJ prog 218:={}
instance:aJ prog 219:={}
instance:aJ prog 222:={}
instance:aJ prog 223:={}
instance:aJ prog 224:={}
instance:aJ prog 225:={}
instance:aJ prog 226:={}
instance:aJ prog 227:={}
instance:aJ prog 228:={}
instance:aJ prog 229:={}
instance:aJ prog 230:={}
instance:aJ prog 231:={}
instance:aJ prog 232:={}
instance:aJ prog 233:={}
instance:aJ prog 245:={}
instance:aJ prog 246:={}
instance:aJ prog 247:={}
instance:aJ prog 248:={}
instance:aJ prog 249:={}
instance:aJ prog 250:={}
instance:aJ prog 251:={}
instance:aJ prog 252:={}
instance:aJ prog 253:={}
instance:aJ prog 254:={}
instance:aJ prog 258:={}
instance:aJ prog 259:={}
instance:aJ prog 260:={}
instance:aJ prog 261:={}
instance:aJ prog 262:={}
instance:aJ prog 263:={}
instance:aJ prog 264:={}
instance:aJ prog 265:={}
instance:aJ prog 266:={}
end Fl
open Go.RowKit
namespace Fl
open Sx Go.Proofs.Tryz
def nI (n:Int):A:=.v (.int .i64 n)
def bI (b:Bool):A:=.v (.bool b)
def ints (l:List Int):A:=.r 1 (l.map fun n=>[nI n])
def tr (c:Pn.Cs):List A:=[bI c.send,nI c.ch,nI c.v]
def eL (o:Pn.Op):List A:=[nI o.kind,nI o.ch,nI o.n,nI o.v,.r 3 (o.cases.map tr),bI o.dR]
def wH (r:Md.an):List A:=[nI r.code,nI r.cs,nI r.v,bI r.ok,nI r.n]
def eG (g:Gr):List A :=
  [.r 6 (g.ops.map eL),nI g.at_,nI g.place,nI g.status,bI g.token,nI g.call,bI g.aU,nI g.param,nI g.aI,nI g.hold,nI g.t,nI g.iJ,nI g.bE,nI g.wi,nI g.dJ,
   nI g.res.code,nI g.res.cs,nI g.res.v,bI g.res.ok,nI g.res.n,ints g.order,ints g.aF,ints g.ax,ints g.ak,nI g.k]
def eC (c:Cn):List A:=[nI c.cap,ints c.buf,bI c.closed,nI c.lock,ints c.recv,ints c.send]
def eS (s:Su):List A:=[bI s.live,nI s.g,nI s.ch,nI s.cs,bI s.send,nI s.v,bI s.done]
def eM (m:Mk):List A:=[nI m.g,nI m.op,nI m.call,nI m.iJ,nI m.bE,nI m.wi,nI m.dJ,nI m.re,nI m.res.code,nI m.res.cs,nI m.res.v,bI m.res.ok,nI m.res.n]
def aD (s:ah):List A :=
 [nI s.dh,nI s.bP,nI s.step,.r 25 (s.gs.map eG),.r 6 (s.au.map eC),.r 7 (s.aB.map eS),.r 1 (s.cache.map fun l=>[ints l]),ints s.middle,nI s.fresh,.r 1 (s.dG.map fun n=>[.v (.int .u16 n)]),nI s.drawn,.r 13 (s.done.map eM)]
theorem mc.snoc {l:List Int} {a:Int}:mc (.r 1 (([] ++ l.map fun n=>[nI n]) ++ [[nI a]])) (ints (l ++ [a])):=by
 have:([] ++ l.map fun n=>[nI n]) ++ [[nI a]]=(l ++ [a]).map fun n=>[nI n]:=by simp
 rw [this];exact .refl
theorem mc.clone {l:List Int}:mc (.r 1 ([] ++ l.map fun n=>[nI n])) (ints l):=by
 rw [List.nil_append];exact .refl
end Fl
open Go.RowKit
namespace Fl
open Sx Go.Proofs.Tryz
theorem at_map {α β:Type} {l:List α} {h:α→β} {k:Nat} {a:α} (e:l[k]?=some a):(l.map h)[k]?=some (h a):=by rw [List.getElem?_map,e];rfl
theorem J.nF {P:Program} {c:Cx} {k:List Item} {f:Fm} {L L1 L2:List an} (i j n:Nat) {v:Value} {e:TypeId} {sz:Nat} {ll:List (List A)} {b:Nat} {B:TypeId} {cs:List A} [st:lZ L j (.box b B (cs.set n (.r sz ll))) L1] [er:mI L1 i L2] (hi:L[i]?=some (.row v e sz ll)) (hj:L[j]?=some (.box b B cs)) (hc:cs[n]?=some (.v v)) (h:J P c k f L2):J P c k f L :=
 J.wF i j n hi hj hc (by rw [st.h,er.h];exact h)
def rQ:List A:=vs [.int .i64 0,.int .i64 0,.int .i64 0,.slice none 0 0,.slice none 0 0,.slice none 0 0,.slice none 0 0,.slice none 0 0,.int .i64 0,.slice none 0 0,.int .i64 0,.slice none 0 0]
def nG (l:List Int):A:=.r 1 (l.map fun n=>[.v (.int .u16 n)])
theorem Q1 {l:List Int} {k:Int} (h0:0≤k) (h:k < l.length):(l.map fun n=>[A.v (.int .u16 n)])[k.toNat]?=some [.v (.int .u16 (aE l k))]:=by
 have:k.toNat < l.length:=by omega
 refine at_map ?_;unfold aE;rw [List.getElem?_eq_getElem this,List.getD_eq_getElem?_getD,List.getElem?_eq_getElem this];rfl
theorem rR {l:List Int} {k:Int} (h0:0≤k) (h:k < l.length):aE l k∈l:=by
 have:k.toNat < l.length:=by omega
 unfold aE;rw [List.getD_eq_getElem?_getD,List.getElem?_eq_getElem this];exact List.getElem_mem _
theorem qz (s:ah) (g k:Nat) (x:Gr) (hg:g < s.gs.length):aa (ai s g x) k=if k=g then x else aa s k:=by
 unfold aa ai;rw [List.getD_eq_getElem?_getD,List.getD_eq_getElem?_getD,List.getElem?_set]
 by_cases h:g=k
 ·subst h;simp [hg]
 ·rw [if_neg h,if_neg (Ne.symm h)]
end Fl
end Go.Proofs.YtdjhhbpedllnhaaGreat
