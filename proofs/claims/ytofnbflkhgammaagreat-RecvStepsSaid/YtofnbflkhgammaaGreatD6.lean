/-
  What the laws need, part D6.
  Conditions: none.
-/
import Derived.Test.YtofnbflkhgammaaGreatD5
set_option linter.unusedVariables false
set_option linter.unusedSimpArgs false
set_option linter.unnecessarySimpa false
set_option maxHeartbeats 2000000
namespace Go.Proofs.YtofnbflkhgammaaGreat
namespace Sx
def wC:Pn.Op:=⟨0,0,0,0,[],false⟩
def lW:Cn:=⟨0,[],false,-1,[],[]⟩
def aa (s:ah) (g:Nat):Gr:=s.gs.getD g (clean [] 0)
def cn (s:ah) (ch:Int):Cn:=s.au.getD (ch - 1).toNat lW
def su (s:ah) (i:Int):Su:=s.aC.getD i.toNat fj
def ag (s:ah) (g:Nat):Pn.Op:=(aa s g).ops.getD (aa s g).at_.toNat wC
def aN (s:ah) (ch:Int):Bool:=decide (1≤ch∧ch≤s.au.length)
def ai (s:ah) (g:Nat) (x:Gr):ah:={ s with gs:=s.gs.set g x }
def aE (s:ah) (ch:Int) (c:Cn):ah:={ s with au:=s.au.set (ch - 1).toNat c }
def aR (s:ah) (i:Int) (x:Su):ah:={ s with aC:=s.aC.set i.toNat x }
def aI (s:ah) (g:Nat) (p:Int):ah:=ai s g { aa s g with place:=p }
def o9 (x:Gr):Gr:={ clean x.ops x.at_ with place:=x.place,status:=x.status,token:=x.token }
def clear (s:ah) (g:Nat):ah:=ai s g (o9 (aa s g))
def tryLock (s:ah) (g:Nat) (ch:Int):ah × Bool:=if (cn s ch).lock=-1 then (aE s ch { cn s ch with lock:=g },true) else (s,false)
def free (s:ah) (ch:Int):ah:=aE s ch { cn s ch with lock:=-1 }
def uL (s:ah):List Int:=s.middle ++ s.cache.flatten
def gG (s:ah) (x:Int):Bool:=decide (0≤x) && decide (x < s.fresh) && !(uL s).contains x
def aS (s:ah) (g:Nat):ah × Int × Bool :=
 if Po.own s.bN.toNat (s.cache.getD g []) s.middle=[] then (if s.fresh < s.cV then ({ s with fresh:=s.fresh + 1 },s.fresh,true) else (s,0,false))
 else ({ s with cache:=s.cache.set g (Po.own s.bN.toNat (s.cache.getD g []) s.middle).dropLast,middle:=Po.bh s.bN.toNat (s.cache.getD g []) s.middle },(Po.own s.bN.toNat (s.cache.getD g []) s.middle).getLastD 0,true)
def ez (s:ah) (g:Nat) (x:Int):ah :=
 if gG s x then { s with cache:=s.cache.set g ((s.cache.getD g []).take ((s.cache.getD g []).length - Po.eu s.bN.toNat (s.cache.getD g [])) ++ [x]),middle:=s.middle ++ (s.cache.getD g []).reverse.take (Po.eu s.bN.toNat (s.cache.getD g [])) }
 else s
def cq (s:ah) (g:Nat) (x:Int):ah:=aR (ez s g x) x fj
def fA (s:ah) (g:Nat):ah :=
 ai s g (if (aa s g).status=0∧(aa s g).token=true then { aa s g with token:=false } else if (aa s g).status=0 then { aa s g with status:=1 } else aa s g)
def ready (s:ah) (g:Nat):ah :=
 ai s g (if (aa s g).status=1 then { aa s g with status:=0 } else if (aa s g).status=0 then { aa s g with token:=true } else aa s g)
def pair (s:ah) (g:Nat) (i:Int):ah :=
 let x:=aa s g
 let o:=(su s i).g
 ai (ai s o.toNat { aa s o.toNat with bQ:=x.t,wi:=g,dL:=(su s i).cs }) g { x with bQ:=x.t,wi:=o }
def serve (s:ah) (g:Nat) (i:Int) (d:Bool):ah :=
 let o:=(su s i).g
 let s2:=aR (ai s o.toNat { aa s o.toNat with param:=i }) i { su s i with done:=d }
 ai s2 g { aa s2 g with an:=(aa s2 g).an ++ [o],hold:=-1 }
def an (s:ah) (g:Nat):ah:=if 0 < (aa s g).an.length then aI s g 17 else aI s g 18
def common (s:ah) (g:Nat):ah × Bool :=
 let x:=aa s g
 let o:=ag s g
 if x.place=4 then
  (if (tryLock s g o.ch).2=true then (if o.kind=6 then (aI (tryLock s g o.ch).1 g 21,true) else (aI (tryLock s g o.ch).1 g 5,true)) else (s,true))
 else if x.place=12 then (aI (free s o.ch) g 13,true)
 else if x.place=13 then (fA (aI s g 14) g,true)
 else if x.place=15 then (aI (ai (cq s g x.aH) g { x with aH:=-1 }) g 18,true)
 else if x.place=16 then (an (free s o.ch) g,true)
 else if x.place=17 then (an (ai (ready s (x.an.headD 0).toNat) g { x with an:=x.an.tail }) g,true)
 else (s,false)
def bH (s:ah) (g:Nat) (r:Md.ak) (p:Int):ah:=ai s g { aa s g with bQ:=s.step,res:=r,place:=p }
def eJ (v:Int) (ok:Bool):Md.ak:=⟨1,-1,v,ok,0⟩
def res (c:Int):Md.ak:=⟨c,-1,0,false,0⟩
def jG:Md.ak:=⟨1,-1,0,true,0⟩
def room (c:Cn):Bool:=if 0 < c.cap then decide ((c.buf.length:Int) < c.cap) else decide (0 < c.recv.length)
def uM (c:Cn):Bool:=if 0 < c.cap then decide (0 < c.buf.length) else decide (0 < c.send.length)
def ig (l:List Int) (x:Int):List Int:=l.filter (· != x)
def bq (s:ah) (i:Int):ah :=
 if aN s (su s i).ch=true then aE s (su s i).ch { cn s (su s i).ch with recv:=ig (cn s (su s i).ch).recv i,send:=ig (cn s (su s i).ch).send i } else s
def taken (s:ah) (g:Nat) (i cQ hand:Int):ah :=
 if 0≤(su s i).cs then aI (ai s g { aa s g with hold:=i }) g cQ
 else aI (pair (bq (ai s g { aa s g with hold:=i,t:=s.step }) i) g i) g hand
def cQ (s:ah) (g:Nat) (back on:Int):ah :=
 let x:=aa s g
 let p:=(su s x.hold).g.toNat
 if (aa s p).bz=true then ai (bq s x.hold) g { x with hold:=-1,place:=back }
 else aI (pair (ai (ai s g { x with t:=s.step }) p { aa s p with bz:=true }) g x.hold) g on
def aH (s:ah) (g:Nat) (d:Su):ah :=
 if (aS s g).2.2=true then ai (aR (aS s g).1 (aS s g).2.1 d) g { aa s g with aH:=(aS s g).2.1,place:=11 }
 else ai (aS s g).1 g { aa s g with res:={ (aa s g).res with code:=6 },place:=16 }
def gL (s:ah) (g:Nat) (v:Int):ah :=
 let h:=(aa s g).hold
 let s1:=bq s h
 serve (aR s1 h { su s1 h with v:=v }) g h true
def fo (l:List Int) (room v:Int):List Int × Bool:=if room≤l.length then (l,false) else (l ++ [v],true)
def gN (l:List Int):List Int × Int × Bool:=if l.length=0 then (l,0,false) else (l.tail,l.headD 0,true)
def iy (l:List Int) (room v:Int):List Int × Int × Bool:=if (l.length:Int) < room∨l.length=0 then (l,0,false) else (l.tail ++ [v],l.headD 0,true)
def bu (s:ah) (g:Nat):ah × Bool :=
  let x:=aa s g
  let o:=ag s g
  let c:=cn s o.ch
  if o.kind≠2∧o.kind≠4 then (s,false)
  else if (common s g).2=true then ((common s g).1,true)
  else if aN s o.ch=false then (s,false)
  else if x.place=1 then (if room c=true then (aI s g 4,true) else (bH s g x.res 2,true))
  else if x.place=2 then (if c.closed=true then (ai s g { x with bQ:=0,place:=4 },true) else (ai s g { x with res:={ x.res with code:=2 },place:=18 },true))
  else if x.place=5 then (if c.closed=true then (bH s g (res 3) 16,true) else (aI s g 6,true))
  else if x.place=6 then (if c.recv.length=0 then (aI s g 9,true) else (taken s g (c.recv.headD 0) 7 8,true))
  else if x.place=7 then (cQ s g 6 8,true)
  else if x.place=8 then (ai (gL s g o.v) g { aa (gL s g o.v) g with res:=jG,place:=16 },true)
  else if x.place=9 then
    (if (fo c.buf c.cap o.v).2=true then (bH (aE s o.ch { c with buf:=(fo c.buf c.cap o.v).1 }) g jG 16,true)
     else if o.kind=4 then (bH s g (res 2) 16,true) else (aI s g 10,true))
  else if x.place=10 then (aH s g ⟨true,g,o.ch,-1,true,o.v,false⟩,true)
  else if x.place=11 then (ai (aE s o.ch { c with send:=c.send ++ [x.aH] }) g { x with ic:=s.step,place:=12 },true)
  else if x.place=14 then (ai s g { x with res:=if (su s x.param).done=true then jG else res 3,param:=-1,place:=15 },true)
  else (s,false)
def hand (s:ah) (ch i:Int):ah × Int :=
 let c:=cn s ch
 if c.cap=0 then (s,(su s i).v)
 else (aE s ch { c with buf:=(iy c.buf c.cap (su s i).v).1 },(iy c.buf c.cap (su s i).v).2.1)
def bR (s:ah) (g:Nat):ah × Bool :=
  let x:=aa s g
  let o:=ag s g
  let c:=cn s o.ch
  if o.kind≠3∧o.kind≠5 then (s,false)
  else if (common s g).2=true then ((common s g).1,true)
  else if aN s o.ch=false then (s,false)
  else if x.place=1 then (if uM c=true then (aI s g 4,true) else (bH s g x.res 2,true))
  else if x.place=2 then (if c.closed=true then (aI s g 3,true) else (ai s g { x with res:={ x.res with code:=2 },place:=18 },true))
  else if x.place=3 then (if uM c=true then (ai s g { x with bQ:=0,place:=4 },true) else (bH s g (eJ 0 false) 18,true))
  else if x.place=5 then
    (if c.closed=true∧c.buf.length=0 then (bH s g (eJ 0 false) 16,true) else if c.closed=true then (aI s g 9,true) else (aI s g 6,true))
  else if x.place=6 then (if c.send.length=0 then (aI s g 9,true) else (taken s g (c.send.headD 0) 7 8,true))
  else if x.place=7 then (cQ s g 6 8,true)
  else if x.place=8 then
    (let n:=hand (bq s x.hold) o.ch x.hold
     let n2:=serve n.1 g x.hold true
     (ai n2 g { aa n2 g with res:=eJ n.2 true,place:=16 },true))
  else if x.place=9 then
    (if (gN c.buf).2.2=true then (bH (aE s o.ch { c with buf:=(gN c.buf).1 }) g (eJ (gN c.buf).2.1 true) 16,true)
     else if o.kind=5 then (bH s g (res 2) 16,true) else (aI s g 10,true))
  else if x.place=10 then (aH s g ⟨true,g,o.ch,-1,false,0,false⟩,true)
  else if x.place=11 then (ai (aE s o.ch { c with recv:=c.recv ++ [x.aH] }) g { x with ic:=s.step,place:=12 },true)
  else if x.place=14 then (ai s g { x with res:=if (su s x.param).done=true then eJ (su s x.param).v true else eJ 0 false,param:=-1,place:=15 },true)
  else (s,false)
def ji (s:ah) (g:Nat):ah :=
 let i:=(aa s g).hold
 let s1:=bq (ai s g { aa s g with t:=s.step }) i
 let d:=su s1 i
 serve (ai s1 d.g.toNat { aa s1 d.g.toNat with bQ:=(aa s1 g).t,dL:=d.cs }) g i false
def mE (s:ah) (g:Nat) (i:Int):ah :=
 let s1:=ai s g { aa s g with hold:=i }
 if 0≤(su s1 i).cs then aI s1 g 23 else ji s1 g
def nY (s:ah) (g:Nat):ah :=
 let x:=aa s g
 let p:=(su s x.hold).g.toNat
 if (aa s p).bz=true then ai (bq s x.hold) g { x with hold:=-1,place:=22 }
 else aI (ji (ai s p { aa s p with bz:=true }) g) g 22
def dU (s:ah) (g:Nat):ah × Bool :=
 let x:=aa s g
 let o:=ag s g
 let c:=cn s o.ch
 if o.kind≠6 then (s,false)
 else if (common s g).2=true then ((common s g).1,true)
 else if aN s o.ch=false then (s,false)
 else if x.place=21 then (if c.closed=true then (bH s g (res 4) 16,true) else (bH (aE s o.ch { c with closed:=true }) g jG 22,true))
 else if x.place=22 then
  (if 0 < c.recv.length then (mE s g (c.recv.headD 0),true) else if 0 < c.send.length then (mE s g (c.send.headD 0),true) else (aI s g 16,true))
 else if x.place=23 then (nY s g,true)
 else (s,false)
def unlock (s:ah) (g:Nat) (p:Int):ah:=ai s g { aa s g with k:=(aa s g).aF.length,place:=p }
def fq (s:ah) (g:Nat) (r:Md.ak) (i:Int):ah :=
 let s1:=bH s g { r with cs:=i } 30
 unlock (ai s1 g { aa s1 g with dL:=i }) g 30
def aD (l:List Int) (k:Int):Int:=l.getD k.toNat 0
def lock (s:ah) (g:Nat) (p:Int):ah :=
 let x:=aa s g
 if (tryLock s g (aD x.aF x.k)).2=true then
  (if x.k + 1=x.aF.length then ai (tryLock s g (aD x.aF x.k)).1 g { x with k:=0,place:=p } else ai (tryLock s g (aD x.aF x.k)).1 g { x with k:=x.k + 1 })
 else s
def next (s:ah) (g:Nat) (p:Int):ah :=
 let x:=aa s g
 if x.k + 1=x.order.length then ai s g { x with k:=0,place:=p } else ai s g { x with k:=x.k + 1 }
def gI (s:ah) (g:Nat):ah :=
 let x:=aa s g
 if x.place=27 then ai s g { x with dL:=aD x.order x.k } else ai s g x
def QJ:Pn.Cs:=⟨false,0,0⟩
def cy (o:Pn.Op) (i:Int):Pn.Cs:=o.cases.getD i.toNat QJ
def iU (s:ah) (g:Nat) (i:Int) (k:Pn.Cs):ah × Bool :=
 let c:=cn s k.ch
 if c.closed=true then (fq s g ⟨3,0,0,false,0⟩ i,true)
 else if 0 < c.recv.length then (gI (taken s g (c.recv.headD 0) 26 27) g,true)
 else if (fo c.buf c.cap k.v).2=true then (fq (aE s k.ch { c with buf:=(fo c.buf c.cap k.v).1 }) g ⟨1,0,0,true,0⟩ i,true)
 else (s,false)
def jH (s:ah) (g:Nat) (i:Int) (k:Pn.Cs):ah × Bool :=
 let c:=cn s k.ch
 if 0 < c.send.length then (gI (taken s g (c.send.headD 0) 26 27) g,true)
 else if (gN c.buf).2.2=true then (fq (aE s k.ch { c with buf:=(gN c.buf).1 }) g (eJ (gN c.buf).2.1 true) i,true)
 else if c.closed=true then (fq s g (eJ 0 false) i,true)
 else (s,false)
def kq (s:ah) (g:Nat) (o:Pn.Op):ah :=
 let x:=aa s g
 let i:=aD x.order x.k
 let k:=cy o i
 let r:=if k.send=true then iU s g i k else jH s g i k
 if r.2=true then r.1
 else if x.k + 1 < x.order.length then next s g 25
 else if o.dN=true then fq s g ⟨2,0,0,false,0⟩ (-1)
 else next (ai s g { x with ay:=List.replicate o.cases.length (-1) }) g 28
def kr (s:ah) (g:Nat) (o:Pn.Op):ah :=
 let x:=aa s g
 let i:=aD x.order x.k
 let k:=cy o i
 let s1:=bq s x.hold
 let n:=if k.send=true then (aR s1 x.hold { su s1 x.hold with v:=k.v },(⟨1,i,0,true,0⟩:Md.ak)) else ((hand s1 k.ch x.hold).1,{ eJ (hand s1 k.ch x.hold).2 true with cs:=i })
 let s2:=serve n.1 g x.hold true
 unlock (ai s2 g { aa s2 g with res:=n.2 }) g 30
def aC (s:ah) (g:Nat) (o:Pn.Op):ah :=
 let x:=aa s g
 let i:=aD x.order x.k
 let k:=cy o i
 if (aS s g).2.2=true then
  next (ai (aR (aS s g).1 (aS s g).2.1 ⟨true,g,k.ch,i,k.send,k.v,false⟩) g { x with ay:=x.ay.set i.toNat (aS s g).2.1 }) g 29
 else unlock (ai (aS s g).1 g { x with res:={ x.res with code:=6 } }) g 30
def lX (s:ah) (g:Nat) (o:Pn.Op):ah :=
 let x:=aa s g
 let i:=aD x.order x.k
 let k:=cy o i
 let c:=cn s k.ch
 let s1:=aE s k.ch (if k.send=true then { c with send:=c.send ++ [aD x.ay i] } else { c with recv:=c.recv ++ [aD x.ay i] })
 if x.k + 1 < x.order.length then next s1 g 29
 else unlock (ai s1 g { x with ic:=s1.step }) g 30
def dc (s:ah) (g:Nat):ah × Bool :=
 let x:=aa s g
 (ai (free s (aD x.aF (x.k - 1))) g { x with k:=x.k - 1 },decide (0 < x.k - 1))
def nZ (l:List Int):Bool:=l.any (fun x=>decide (0≤x))
def nj (s:ah) (g:Nat):ah :=
 let x:=aa s g
 let d:=su s x.param
 let r:Md.ak:=if d.done=true then { eJ d.v true with cs:=d.cs } else { eJ 0 false with cs:=d.cs }
 let r2:Md.ak:=if d.send=true∧d.done=true then { r with v:=0 } else if d.send=true then ⟨3,d.cs,0,false,0⟩ else r
 ai s g { x with res:=r2,param:=-1,k:=0,place:=31 }
def lY (s:ah) (g:Nat):ah :=
 let x:=aa s g
 let s1:=bq s (aD x.ay (aD x.order x.k))
 if x.k + 1 < x.order.length then next s1 g 32 else unlock s1 g 33
def ku (s:ah) (g:Nat):ah :=
 let x:=aa s g
 let i:=aD x.order x.k
 let s1:=if 0≤aD x.ay i then cq s g (aD x.ay i) else s
 if x.k + 1=x.order.length then an (next (ai s1 g { x with ay:=[] }) g 34) g
 else next (ai s1 g { x with ay:=x.ay.set i.toNat (-1) }) g 34
def bL (s:ah) (g:Nat):ah × Bool :=
  let x:=aa s g
  let o:=ag s g
  if o.kind≠9 then (s,false)
  else if x.place=24 then (lock s g 25,true)
  else if x.place=25 then (kq s g o,true)
  else if x.place=26 then (gI (cQ s g 25 27) g,true)
  else if x.place=27 then (kr s g o,true)
  else if x.place=28 then (aC s g o,true)
  else if x.place=29 then (lX s g o,true)
  else if x.place=30 then
    (if (dc s g).2=true then ((dc s g).1,true) else if x.res.code=0 then (aI (dc s g).1 g 13,true)
     else if nZ x.ay=true then (aI (dc s g).1 g 34,true) else (an (dc s g).1 g,true))
  else if x.place=14 then (nj s g,true)
  else if x.place=31 then (lock s g 32,true)
  else if x.place=32 then (lY s g,true)
  else if x.place=33 then (if (dc s g).2=true then ((dc s g).1,true) else (aI (dc s g).1 g 34,true))
  else if x.place=34 then (ku s g,true)
  else if x.place=13∨x.place=17 then common s g
  else (s,false)
def never (s:ah) (g:Nat):ah:=fA (aI s g 19) g
def draw (l:List Int) (at_ n:Int):Int × Int:=if n < 1∨(l.length:Int)≤at_ then (0,at_) else ((aD l at_) % n,at_ + 1)
def drawn:ah→Nat→List Int × Int
 | s,0=>([],s.drawn)
 | s,n + 1=>((drawn s n).1 ++ [(draw s.cG (drawn s n).2 (n + 1)).1],(draw s.cG (drawn s n).2 (n + 1)).2)
def swap (l:List Int) (i j:Nat):List Int:=(l.set i (l.getD j 0)).set j (l.getD i 0)
def eF (ds:List Int):Nat→List Int
 | 0=>[]
 | n + 1=>swap (eF ds n ++ [(n:Int)]) (ds.getD n 0 % (n + 1)).toNat n
def insert (x:Int):List Int→List Int
 | []=>[x]
 | y :: l=>if y≤x then y :: insert x l else x :: y :: l
def sort (l:List Int):List Int:=l.foldl (fun acc x=>insert x acc) []
def iD (acc:List Int) (x:Int):List Int:=if x≤0∨(0 < acc.length∧acc.getLastD 0=x) then acc else acc ++ [x]
def aF (l:List Int):List Int:=(sort l).foldl iD []
def kz (s:ah) (g:Nat) (o:Pn.Op):ah :=
 let n:=o.cases.length
 let s1:={ s with drawn:=(drawn s n).2 }
 let ord:=eF (drawn s n).1 n
 let jI:=ord.filter (fun i=>aN s (cy o i).ch)
 let ids:=jI.map (fun i=>(cy o i).ch)
 let s2:=ai s1 g { aa s g with order:=(aa s g).order ++ jI,aF:=aF ids,place:=24 }
 if 0 < ids.length then s2 else if o.dN=true then bH s2 g (res 2) 18 else never s2 g
def kA (s:ah) (g:Nat):ah :=
 let x:=aa s g
 if (x.ops.length:Int)≤x.at_ then ai s g { x with status:=2,token:=false }
 else
  let s1:=clear s g
  let s2:=ai s1 g { aa s1 g with call:=s1.step }
  let o:=ag s2 g
  let m:=aN s2 o.ch
  if o.kind=1∨o.kind=7∨o.kind=8 then aI s2 g 20
  else if o.kind=2∨o.kind=3 then (if m=true then aI s2 g 4 else never s2 g)
  else if o.kind=4∨o.kind=5 then (if m=true then aI s2 g 1 else bH s2 g (res 2) 18)
  else if o.kind=6 then (if m=true then aI s2 g 4 else bH s2 g (res 5) 18)
  else kz s2 g o
def kB (s:ah) (g:Nat):ah :=
 let o:=ag s g
 if o.kind=1∧8≤s.au.length then bH s g (res 7) 18
 else if o.kind=1 then bH { s with au:=s.au ++ [⟨o.n,[],false,-1,[],[]⟩] } g ⟨1,-1,0,true,s.au.length + 1⟩ 18
 else if aN s o.ch=true∧o.kind=7 then bH s g ⟨1,-1,0,true,(cn s o.ch).buf.length⟩ 18
 else if aN s o.ch=true then bH s g ⟨1,-1,0,true,(cn s o.ch).cap⟩ 18
 else bH s g ⟨1,-1,0,true,0⟩ 18
def mark (s:ah) (g:Nat) (re:Int):Mk :=
 let x:=aa s g
 ⟨g,x.at_,x.call,x.ic,x.bQ,x.wi,x.dL,re,x.res⟩
def answer (s:ah) (g:Nat):ah :=
 let s1:={ s with done:=s.done ++ [mark s g s.step] }
 clear (ai s1 g { aa s1 g with at_:=(aa s1 g).at_ + 1,place:=0 }) g
def jj (s:ah) (g:Nat):ah × Bool :=
 let x:=aa s g
 if x.place=0 then (kA s g,true) else if x.place=20 then (kB s g,true) else if x.place=18 then (answer s g,true) else (s,false)
def running (s:ah):List Int:=((List.range s.gs.length).filter (fun g=>decide ((aa s g).status=0))).map Int.ofNat
def one (s:ah) (g:Int):ah × Bool :=
 if g < 0∨(s.gs.length:Int)≤g∨(aa s g.toNat).status≠0 then (s,false)
 else
  let n:={ s with step:=s.step + 1 }
  if (jj n g.toNat).2=true then ((jj n g.toNat).1,true)
  else if (bu n g.toNat).2=true then ((bu n g.toNat).1,true)
  else if (bR n g.toNat).2=true then ((bR n g.toNat).1,true)
  else if (dU n g.toNat).2=true then ((dU n g.toNat).1,true)
  else if (bL n g.toNat).2=true then ((bL n g.toNat).1,true)
  else (s,false)
def pick (s:ah) (p:Int):Int:=if (running s).length=0 then -1 else aD (running s) (p % ((running s).length:Int))
def runs (s:ah):List Int→ah × Int
 | []=>(s,0)
 | p :: r=>if pick s p < 0 then (s,0) else ((runs (one s (pick s p)).1 r).1,(runs (one s (pick s p)).1 r).2 + 1)
end Sx
namespace Fl
open Sx Go.Proofs.Tryz
instance:ff prog 2 1:={}
instance:gy prog 2:={}
instance:bp prog 2 [.int .i64 0]:={}
instance:lN prog 2 .i64:={}
instance:ff prog 3 1:={}
instance:gy prog 3:={}
instance:bp prog 3 [.int .i64 0]:={}
instance:lN prog 3 .i64:={}
instance:ff prog 4 1:={}
instance:gy prog 4:={}
instance:bp prog 4 [.bool false]:={}
instance:vY prog 4:={}
instance:bp prog 5 [.int .u8 0]:={}
instance:lN prog 5 .u8:={}
instance:bp prog 6 [.int .u8 0]:={}
instance:lN prog 6 .u8:={}
instance:bp prog 7 [.int .i64 0,.int .i64 0,.bool false,.int .u8 0]:={}
instance:bp prog 8 [.int .i64 0,.int .i64 0,.bool false,.int .u8 0]:={}
instance:bp prog 9 [.string ⟨#[]⟩]:={}
instance:bp prog 10 [.string ⟨#[]⟩]:={}
instance:bp prog 11 [.string ⟨#[]⟩]:={}
instance:bp prog 12 [.int .u64 0]:={}
instance:lN prog 12 .u64:={}
instance:bp prog 13 [.string ⟨#[]⟩,.int .u64 0]:={}
instance:bp prog 14 [.string ⟨#[]⟩,.int .u64 0]:={}
instance:bp prog 15 [.pointer none]:={}
instance:bp prog 16 [.pointer none]:={}
instance:bp prog 17 [.pointer none]:={}
instance:bp prog 18 [.pointer none]:={}
instance:bp prog 19 [.pointer none]:={}
instance:bp prog 21 [.int .i32 0]:={}
instance:lN prog 21 .i32:={}
instance:gy prog 22:={}
instance:bp prog 22 [.slice none 0 0]:={}
instance:fG prog 22 43 1:={}
instance:gK prog 22 43 1 24 (.slice none 0 0):=⟨⟨by kernel_rfl,by kernel_rfl,rfl,by decide,by decide⟩⟩
instance:bp prog 23 [.int .i64 0,.int .i64 0]:={}
instance:jW prog 24 2:={}
instance:bp prog 24 [.int .i64 0,.int .i64 0]:={}
instance:bP prog 24 0 0:={}
instance:bP prog 24 1 1:={}
instance:mB prog 24 [(0,1),(1,1)]:={}
instance:gy prog 25:={}
instance:bp prog 25 [.slice none 0 0]:={}
instance:fG prog 25 115 1:={}
instance:gK prog 25 115 1 2 (.int .u16 0):=⟨⟨by kernel_rfl,by kernel_rfl,rfl,by decide,by decide⟩⟩
instance:bp prog 26 [.slice none 0 0,.int .i64 0,.int .i64 0,.slice none 0 0]:={}
instance:jW prog 27 4:={}
instance:bp prog 27 [.slice none 0 0,.int .i64 0,.int .i64 0,.slice none 0 0]:={}
instance:bP prog 27 0 0:={}
instance:bP prog 27 1 1:={}
instance:bP prog 27 2 3:={}
instance:ff prog 28 1:={}
instance:gy prog 28:={}
instance:bp prog 28 [.slice none 0 0]:={}
instance:fG prog 28 3 1:={}
instance:gK prog 28 3 1 8 (.int .i64 0):=⟨⟨by kernel_rfl,by kernel_rfl,rfl,by decide,by decide⟩⟩
instance:ff prog 30 1:={}
instance:gy prog 30:={}
instance:bp prog 30 [.slice none 0 0]:={}
instance:fG prog 30 47 25:={}
instance:gK prog 30 47 25 280 (.agg #[.slice none 0 0,.int .i64 0,.int .i64 0,.int .i64 0,.bool false,.int .i64 0,.bool false,.int .i64 0,.int .i64 0,.int .i64 0,.int .i64 0,.int .i64 0,.int .i64 0,.int .i64 0,.int .i64 0,.int .i64 0,.int .i64 0,.int .i64 0,.bool false,.int .i64 0,.slice none 0 0,.slice none 0 0,.slice none 0 0,.slice none 0 0,.int .i64 0]):=⟨⟨by kernel_rfl,by kernel_rfl,rfl,by decide,by decide⟩⟩
instance:ff prog 31 1:={}
instance:gy prog 31:={}
instance:bp prog 31 [.slice none 0 0]:={}
instance:fG prog 31 72 6:={}
instance:gK prog 31 72 6 96 (.agg #[.int .i64 0,.slice none 0 0,.bool false,.int .i64 0,.slice none 0 0,.slice none 0 0]):=⟨⟨by kernel_rfl,by kernel_rfl,rfl,by decide,by decide⟩⟩
instance:ff prog 32 1:={}
instance:gy prog 32:={}
instance:bp prog 32 [.slice none 0 0]:={}
instance:fG prog 32 52 7:={}
instance:gK prog 32 52 7 56 (.agg #[.bool false,.int .i64 0,.int .i64 0,.int .i64 0,.bool false,.int .i64 0,.bool false]):=⟨⟨by kernel_rfl,by kernel_rfl,rfl,by decide,by decide⟩⟩
instance:ff prog 33 1:={}
instance:gy prog 33:={}
instance:bp prog 33 [.slice none 0 0]:={}
instance:fG prog 33 28 1:={}
instance:gK prog 33 28 1 24 (.slice none 0 0):=⟨⟨by kernel_rfl,by kernel_rfl,rfl,by decide,by decide⟩⟩
instance:ff prog 34 1:={}
instance:gy prog 34:={}
instance:bp prog 34 [.slice none 0 0]:={}
instance:fG prog 34 54 13:={}
instance:gK prog 34 54 13 104 (.agg #[.int .i64 0,.int .i64 0,.int .i64 0,.int .i64 0,.int .i64 0,.int .i64 0,.int .i64 0,.int .i64 0,.int .i64 0,.int .i64 0,.int .i64 0,.bool false,.int .i64 0]):=⟨⟨by kernel_rfl,by kernel_rfl,rfl,by decide,by decide⟩⟩
instance:bp prog 35 [.int .i64 0,.int .i64 0,.int .i64 0,.slice none 0 0,.slice none 0 0,.slice none 0 0,.slice none 0 0,.slice none 0 0,.int .i64 0,.slice none 0 0,.int .i64 0,.slice none 0 0]:={}
instance:ff prog 36 12:={}
instance:jW prog 36 12:={}
instance:bp prog 36 [.int .i64 0,.int .i64 0,.int .i64 0,.slice none 0 0,.slice none 0 0,.slice none 0 0,.slice none 0 0,.slice none 0 0,.int .i64 0,.slice none 0 0,.int .i64 0,.slice none 0 0]:={}
instance:bP prog 36 0 0:={}
instance:bP prog 36 1 2:={}
instance:bP prog 36 2 3:={}
instance:bP prog 36 3 4:={}
instance:bP prog 36 4 5:={}
instance:bP prog 36 5 6:={}
instance:bP prog 36 6 7:={}
instance:bP prog 36 7 8:={}
instance:bP prog 36 8 9:={}
instance:bP prog 36 9 10:={}
instance:bP prog 36 10 11:={}
instance:mB prog 36 [(0,2),(2,1),(3,1),(4,1),(5,1),(6,1),(7,1),(8,1),(9,1),(10,1),(11,1)]:={}
instance:gy prog 39:={}
instance:bp prog 39 [.pointer none]:={}
instance:ff prog 43 1:={}
instance:gy prog 43:={}
instance:bp prog 43 [.slice none 0 0]:={}
instance:fG prog 43 50 6:={}
instance:gK prog 43 50 6 64 (.agg #[.int .i64 0,.int .i64 0,.int .i64 0,.int .i64 0,.slice none 0 0,.bool false]):=⟨⟨by kernel_rfl,by kernel_rfl,rfl,by decide,by decide⟩⟩
instance:bp prog 44 [.int .i64 0,.int .i64 0,.int .i64 0,.bool false,.int .i64 0]:={}
instance:ff prog 45 5:={}
instance:jW prog 45 5:={}
instance:bp prog 45 [.int .i64 0,.int .i64 0,.int .i64 0,.bool false,.int .i64 0]:={}
instance:bP prog 45 0 0:={}
instance:bP prog 45 1 1:={}
instance:bP prog 45 2 2:={}
instance:bP prog 45 4 4:={}
instance:mB prog 45 [(0,1),(1,1),(2,1),(3,1),(4,1)]:={}
instance:bp prog 46 [.slice none 0 0,.int .i64 0,.int .i64 0,.int .i64 0,.bool false,.int .i64 0,.bool false,.int .i64 0,.int .i64 0,.int .i64 0,.int .i64 0,.int .i64 0,.int .i64 0,.int .i64 0,.int .i64 0,.int .i64 0,.int .i64 0,.int .i64 0,.bool false,.int .i64 0,.slice none 0 0,.slice none 0 0,.slice none 0 0,.slice none 0 0,.int .i64 0]:={}
instance:ff prog 47 25:={}
instance:jW prog 47 25:={}
instance:bp prog 47 [.slice none 0 0,.int .i64 0,.int .i64 0,.int .i64 0,.bool false,.int .i64 0,.bool false,.int .i64 0,.int .i64 0,.int .i64 0,.int .i64 0,.int .i64 0,.int .i64 0,.int .i64 0,.int .i64 0,.int .i64 0,.int .i64 0,.int .i64 0,.bool false,.int .i64 0,.slice none 0 0,.slice none 0 0,.slice none 0 0,.slice none 0 0,.int .i64 0]:={}
instance:bP prog 47 0 0:={}
instance:bP prog 47 1 1:={}
instance:bP prog 47 2 2:={}
instance:bP prog 47 3 3:={}
instance:bP prog 47 4 4:={}
instance:bP prog 47 5 5:={}
instance:bP prog 47 6 6:={}
instance:bP prog 47 7 7:={}
instance:bP prog 47 8 8:={}
instance:bP prog 47 9 9:={}
instance:bP prog 47 10 10:={}
instance:bP prog 47 11 11:={}
instance:bP prog 47 12 12:={}
instance:bP prog 47 13 13:={}
instance:bP prog 47 14 14:={}
instance:bP prog 47 15 15:={}
instance:bP prog 47 16 20:={}
instance:bP prog 47 17 21:={}
instance:bP prog 47 18 22:={}
instance:bP prog 47 19 23:={}
instance:bP prog 47 20 24:={}
instance:mB prog 47 [(0,1),(1,1),(2,1),(3,1),(4,1),(5,1),(6,1),(7,1),(8,1),(9,1),(10,1),(11,1),(12,1),(13,1),(14,1),(15,5),(20,1),(21,1),(22,1),(23,1),(24,1)]:={}
instance:ff prog 48 1:={}
instance:gy prog 48:={}
instance:bp prog 48 [.slice none 0 0]:={}
instance:fG prog 48 83 3:={}
instance:gK prog 48 83 3 24 (.agg #[.bool false,.int .i64 0,.int .i64 0]):=⟨⟨by kernel_rfl,by kernel_rfl,rfl,by decide,by decide⟩⟩
instance:bp prog 49 [.int .i64 0,.int .i64 0,.int .i64 0,.int .i64 0,.slice none 0 0,.bool false]:={}
instance:ff prog 50 6:={}
instance:jW prog 50 6:={}
instance:bp prog 50 [.int .i64 0,.int .i64 0,.int .i64 0,.int .i64 0,.slice none 0 0,.bool false]:={}
instance:bP prog 50 0 0:={}
instance:bP prog 50 1 1:={}
instance:bP prog 50 2 2:={}
instance:bP prog 50 3 3:={}
instance:bP prog 50 4 4:={}
instance:bP prog 50 5 5:={}
instance:mB prog 50 [(0,1),(1,1),(2,1),(3,1),(4,1),(5,1)]:={}
instance:bp prog 51 [.bool false,.int .i64 0,.int .i64 0,.int .i64 0,.bool false,.int .i64 0,.bool false]:={}
instance:ff prog 52 7:={}
instance:jW prog 52 7:={}
instance:bp prog 52 [.bool false,.int .i64 0,.int .i64 0,.int .i64 0,.bool false,.int .i64 0,.bool false]:={}
instance:bP prog 52 1 1:={}
instance:bP prog 52 2 2:={}
instance:bP prog 52 3 3:={}
instance:bP prog 52 4 4:={}
instance:bP prog 52 5 5:={}
instance:bP prog 52 6 6:={}
instance:mB prog 52 [(0,1),(1,1),(2,1),(3,1),(4,1),(5,1),(6,1)]:={}
instance:bp prog 53 [.int .i64 0,.int .i64 0,.int .i64 0,.int .i64 0,.int .i64 0,.int .i64 0,.int .i64 0,.int .i64 0,.int .i64 0,.int .i64 0,.int .i64 0,.bool false,.int .i64 0]:={}
instance:ff prog 54 13:={}
instance:jW prog 54 13:={}
instance:bp prog 54 [.int .i64 0,.int .i64 0,.int .i64 0,.int .i64 0,.int .i64 0,.int .i64 0,.int .i64 0,.int .i64 0,.int .i64 0,.int .i64 0,.int .i64 0,.bool false,.int .i64 0]:={}
instance:mB prog 54 [(0,1),(1,1),(2,1),(3,1),(4,1),(5,1),(6,1),(7,1),(8,5)]:={}
instance:ff prog 70 1:={}
instance:gy prog 70:={}
instance:bp prog 70 [.slice none 0 0]:={}
instance:fG prog 70 2 1:={}
instance:gK prog 70 2 1 8 (.int .i64 0):=⟨⟨by kernel_rfl,by kernel_rfl,rfl,by decide,by decide⟩⟩
instance:bp prog 71 [.int .i64 0,.slice none 0 0,.bool false,.int .i64 0,.slice none 0 0,.slice none 0 0]:={}
instance:ff prog 72 6:={}
instance:jW prog 72 6:={}
instance:bp prog 72 [.int .i64 0,.slice none 0 0,.bool false,.int .i64 0,.slice none 0 0,.slice none 0 0]:={}
instance:bP prog 72 0 0:={}
instance:bP prog 72 1 1:={}
instance:bP prog 72 2 2:={}
instance:bP prog 72 3 3:={}
instance:bP prog 72 4 4:={}
instance:bP prog 72 5 5:={}
instance:mB prog 72 [(0,1),(1,1),(2,1),(3,1),(4,1),(5,1)]:={}
instance:gy prog 73:={}
instance:bp prog 73 [.pointer none]:={}
instance:ff prog 74 1:={}
instance:gy prog 74:={}
instance:bp prog 74 [.slice none 0 0]:={}
instance:fG prog 74 110 1:={}
instance:gK prog 74 110 1 8 (.pointer none):=⟨⟨by kernel_rfl,by kernel_rfl,rfl,by decide,by decide⟩⟩
instance:ff prog 75 1:={}
instance:gy prog 75:={}
instance:bp prog 75 [.slice none 0 0]:={}
instance:fG prog 75 4 1:={}
instance:gK prog 75 4 1 1 (.bool false):=⟨⟨by kernel_rfl,by kernel_rfl,rfl,by decide,by decide⟩⟩
instance:gy prog 76:={}
instance:bp prog 76 [.pointer none]:={}
instance:ff prog 77 1:={}
instance:gy prog 77:={}
instance:bp prog 77 [.pointer none]:={}
instance:ff prog 78 1:={}
instance:gy prog 78:={}
instance:bp prog 78 [.pointer none]:={}
instance:gy prog 79:={}
instance:bp prog 79 [.pointer none]:={}
instance:bp prog 80 [.int .i64 0,.int .i64 0,.int .i64 0,.slice none 0 0,.pointer none,.slice none 0 0,.slice none 0 0,.pointer none,.pointer none,.slice none 0 0,.pointer none,.pointer none,.slice none 0 0,.slice none 0 0]:={}
instance:bp prog 81 [.int .i64 0,.int .i64 0,.int .i64 0,.slice none 0 0,.pointer none,.slice none 0 0,.slice none 0 0,.pointer none,.pointer none,.slice none 0 0,.pointer none,.pointer none,.slice none 0 0,.slice none 0 0]:={}
instance:bP prog 81 0 0:={}
instance:bP prog 81 1 2:={}
instance:bP prog 81 2 3:={}
instance:bP prog 81 3 4:={}
instance:bP prog 81 4 5:={}
instance:bP prog 81 5 6:={}
instance:bP prog 81 6 7:={}
instance:bP prog 81 7 8:={}
instance:bP prog 81 8 9:={}
instance:bP prog 81 9 10:={}
instance:bP prog 81 10 11:={}
instance:bP prog 81 11 12:={}
instance:bP prog 81 12 13:={}
instance:mB prog 81 [(0,2),(2,1),(3,1),(4,1),(5,1),(6,1),(7,1),(8,1),(9,1),(10,1),(11,1),(12,1),(13,1)]:={}
instance:bp prog 82 [.bool false,.int .i64 0,.int .i64 0]:={}
instance:ff prog 83 3:={}
instance:jW prog 83 3:={}
instance:bp prog 83 [.bool false,.int .i64 0,.int .i64 0]:={}
instance:bP prog 83 0 0:={}
instance:bP prog 83 1 1:={}
instance:bP prog 83 2 2:={}
instance:bp prog 90 [.int .i64 0]:={}
instance:lN prog 90 .i64:={}
instance:gy prog 110:={}
instance:bp prog 110 [.pointer none]:={}
instance:gy prog 115:={}
instance:bp prog 115 [.int .u16 0]:={}
instance:lN prog 115 .u16:={}
instance:bp prog 116 [.pointer none]:={}
instance:bp prog 124 [.pointer none,.int .i64 0,.int .i64 0,.int .i64 0,.int .i64 0,.int .i64 0,.slice none 0 0,.bool false]:={}
instance:ff prog 125 8:={}
instance:jW prog 125 8:={}
instance:bp prog 125 [.pointer none,.int .i64 0,.int .i64 0,.int .i64 0,.int .i64 0,.int .i64 0,.slice none 0 0,.bool false]:={}
instance:bP prog 125 0 0:={}
instance:bP prog 125 1 1:={}
instance:bP prog 125 2 2:={}
instance:mB prog 125 [(0,1),(1,1),(2,6)]:={}
instance:bp prog 139 [.slice none 0 0]:={}
instance:gK prog 139 158 2 16 (.agg #[.int .i64 0,.bool false]):=⟨⟨by kernel_rfl,by kernel_rfl,rfl,by decide,by decide⟩⟩
instance:bp prog 140 [.slice none 0 0]:={}
instance:bp prog 141 [.slice none 0 0]:={}
instance:bp prog 142 [.slice none 0 0]:={}
instance:bp prog 143 [.slice none 0 0]:={}
instance:bp prog 144 [.slice none 0 0,.int .i64 0]:={}
instance:bp prog 145 [.slice none 0 0,.int .i64 0]:={}
instance:bP prog 145 0 0:={}
instance:bP prog 145 1 1:={}
instance:mB prog 145 [(0,1),(1,1)]:={}
instance:bp prog 146 [.slice none 0 0]:={}
instance:gK prog 146 151 3 24 (.agg #[.int .i64 0,.int .i64 0,.int .i64 0]):=⟨⟨by kernel_rfl,by kernel_rfl,rfl,by decide,by decide⟩⟩
instance:bp prog 147 [.slice none 0 0]:={}
instance:gK prog 147 153 3 24 (.agg #[.int .i64 0,.int .i64 0,.int .i64 0]):=⟨⟨by kernel_rfl,by kernel_rfl,rfl,by decide,by decide⟩⟩
instance:bp prog 148 [.slice none 0 0,.slice none 0 0]:={}
instance:bp prog 149 [.slice none 0 0,.slice none 0 0]:={}
instance:bp prog 150 [.int .i64 0,.int .i64 0,.int .i64 0]:={}
instance:bp prog 151 [.int .i64 0,.int .i64 0,.int .i64 0]:={}
instance:bp prog 152 [.int .i64 0,.int .i64 0,.int .i64 0]:={}
instance:bp prog 153 [.int .i64 0,.int .i64 0,.int .i64 0]:={}
instance:bp prog 154 [.int .i64 0,.int .i64 0,.slice none 0 0,.slice none 0 0,.int .i64 0,.slice none 0 0]:={}
instance:bp prog 155 [.int .i64 0,.int .i64 0,.slice none 0 0,.slice none 0 0,.int .i64 0,.slice none 0 0]:={}
instance:bp prog 157 [.int .i64 0,.bool false]:={}
instance:bp prog 158 [.int .i64 0,.bool false]:={}
instance:bp prog 161 [.slice none 0 0,.int .i64 0,.int .i64 0]:={}
instance:bp prog 162 [.slice none 0 0,.int .i64 0,.int .i64 0]:={}
instance:bp prog 165 [.int .i64 0,.int .i64 0,.slice none 0 0,.slice none 0 0,.int .i64 0]:={}
instance:ff prog 166 5:={}
instance:jW prog 166 5:={}
instance:bp prog 166 [.int .i64 0,.int .i64 0,.slice none 0 0,.slice none 0 0,.int .i64 0]:={}
instance:bP prog 166 0 0:={}
instance:bP prog 166 1 1:={}
instance:bP prog 166 2 2:={}
instance:bP prog 166 3 3:={}
instance:bP prog 166 4 4:={}
instance:mB prog 166 [(0,1),(1,1),(2,1),(3,1),(4,1)]:={}
instance:bp prog 177 [.pointer none]:={}
instance:bp prog 212 [.pointer none,.pointer none,.pointer none,.string ⟨#[]⟩]:={}
instance:bp prog 213 [.pointer none,.pointer none,.pointer none,.string ⟨#[]⟩]:={}
instance:bp prog 214 []:={}
instance:bp prog 215 []:={}
instance:bp prog 216 []:={}
instance:bp prog 217 [.int .u32 0]:={}
instance:lN prog 217 .u32:={}
instance:bp prog 218 [.int .u8 0]:={}
instance:lN prog 218 .u8:={}
instance:bp prog 219 [.int .u8 0]:={}
instance:lN prog 219 .u8:={}
instance:bp prog 221 [.pointer none]:={}
instance:bp prog 222 [.int .i32 0]:={}
instance:lN prog 222 .i32:={}
instance:bp prog 223 [.int .i32 0]:={}
instance:lN prog 223 .i32:={}
instance:bp prog 224 [.int .u64 0,.int .u64 0,.int .u32 0,.int .u8 0,.int .u8 0,.int .u8 0,.int .u8 0,.nilFunc,.pointer none,.int .i32 0,.int .i32 0]:={}
instance:bp prog 225 [.int .u64 0,.int .u64 0,.int .u32 0,.int .u8 0,.int .u8 0,.int .u8 0,.int .u8 0,.nilFunc,.pointer none,.int .i32 0,.int .i32 0]:={}
instance:aJ prog 15:={}
instance:aJ prog 16:={}
instance:aJ prog 17:={}
instance:aJ prog 19:={}
instance:aJ prog 20:={}
instance:aJ prog 22:={}
instance:aJ prog 23:={}
instance:aJ prog 25:={}
instance:aJ prog 26:={}
instance:aJ prog 27:={}
instance:aJ prog 28:={}
instance:aJ prog 29:={}
instance:aJ prog 30:={}
instance:aJ prog 31:={}
instance:aJ prog 37:={}
instance:aJ prog 38:={}
instance:aJ prog 41:={}
instance:aJ prog 49:={}
instance:aJ prog 50:={}
instance:aJ prog 51:={}
instance:aJ prog 52:={}
instance:aJ prog 53:={}
instance:aJ prog 54:={}
instance:aJ prog 55:={}
instance:aJ prog 56:={}
instance:aJ prog 57:={}
instance:aJ prog 58:={}
instance:aJ prog 59:={}
instance:aJ prog 60:={}
instance:aJ prog 61:={}
instance:aJ prog 62:={}
instance:aJ prog 63:={}
instance:aJ prog 64:={}
instance:aJ prog 65:={}
instance:aJ prog 66:={}
instance:aJ prog 67:={}
instance:aJ prog 68:={}
instance:aJ prog 69:={}
instance:aJ prog 70:={}
instance:aJ prog 71:={}
instance:aJ prog 75:={}
instance:aJ prog 76:={}
instance:aJ prog 77:={}
instance:aJ prog 78:={}
instance:aJ prog 79:={}
instance:aJ prog 80:={}
instance:aJ prog 81:={}
instance:aJ prog 82:={}
instance:aJ prog 83:={}
instance:aJ prog 84:={}
instance:aJ prog 85:={}
instance:aJ prog 86:={}
instance:aJ prog 87:={}
instance:aJ prog 88:={}
instance:aJ prog 89:={}
instance:aJ prog 90:={}
instance:aJ prog 94:={}
instance:aJ prog 98:={}
instance:aJ prog 99:={}
instance:aJ prog 100:={}
instance:aJ prog 101:={}
instance:aJ prog 102:={}
instance:aJ prog 103:={}
instance:aJ prog 104:={}
instance:aJ prog 105:={}
instance:aJ prog 106:={}
instance:aJ prog 107:={}
instance:aJ prog 108:={}
instance:aJ prog 109:={}
instance:aJ prog 110:={}
instance:aJ prog 111:={}
instance:aJ prog 112:={}
instance:aJ prog 116:={}
instance:aJ prog 118:={}
instance:aJ prog 121:={}
instance:aJ prog 122:={}
instance:aJ prog 123:={}
instance:aJ prog 124:={}
instance:aJ prog 125:={}
instance:aJ prog 127:={}
instance:aJ prog 129:={}
instance:aJ prog 130:={}
instance:aJ prog 136:={}
instance:aJ prog 137:={}
instance:aJ prog 138:={}
instance:aJ prog 139:={}
instance:aJ prog 141:={}
instance:aJ prog 142:={}
instance:aJ prog 143:={}
instance:aJ prog 151:={}
instance:aJ prog 152:={}
instance:aJ prog 153:={}
instance:aJ prog 154:={}
instance:aJ prog 155:={}
instance:aJ prog 156:={}
instance:aJ prog 157:={}
instance:aJ prog 158:={}
instance:aJ prog 159:={}
instance:aJ prog 160:={}
instance:aJ prog 161:={}
instance:aJ prog 169:={}
instance:aJ prog 170:={}
instance:aJ prog 171:={}
instance:aJ prog 172:={}
instance:aJ prog 173:={}
instance:aJ prog 177:={}
instance:aJ prog 178:={}
instance:aJ prog 179:={}
instance:aJ prog 180:={}
instance:aJ prog 181:={}
instance:aJ prog 182:={}
instance:aJ prog 190:={}
instance:aJ prog 191:={}
instance:aJ prog 198:={}
instance:aJ prog 199:={}
instance:aJ prog 200:={}
instance:aJ prog 201:={}
instance:aJ prog 202:={}
instance:aJ prog 203:={}
instance:aJ prog 204:={}
instance:aJ prog 205:={}
instance:aJ prog 206:={}
instance:aJ prog 207:={}
instance:aJ prog 208:={}
instance:aJ prog 209:={}
instance:aJ prog 210:={}
instance:aJ prog 211:={}
instance:aJ prog 212:={}
instance:aJ prog 213:={}
instance:aJ prog 216:={}
instance:aJ prog 217:={}
instance:aJ prog 218:={}
instance:aJ prog 219:={}
instance:aJ prog 220:={}
instance:aJ prog 221:={}
instance:aJ prog 222:={}
instance:aJ prog 223:={}
instance:aJ prog 224:={}
instance:aJ prog 225:={}
instance:aJ prog 227:={}
instance:aJ prog 228:={}
instance:aJ prog 229:={}
instance:aJ prog 230:={}
instance:aJ prog 231:={}
end Fl
open Go.RowKit
namespace Fl
open Sx Go.Proofs.Tryz
def nI (n:Int):A:=.v (.int .i64 n)
def bI (b:Bool):A:=.v (.bool b)
def ints (l:List Int):A:=.r 1 (l.map fun n=>[nI n])
def tr (c:Pn.Cs):List A:=[bI c.send,nI c.ch,nI c.v]
def dH (o:Pn.Op):List A:=[nI o.kind,nI o.ch,nI o.n,nI o.v,.r 3 (o.cases.map tr),bI o.dN]
def wD (r:Md.ak):List A:=[nI r.code,nI r.cs,nI r.v,bI r.ok,nI r.n]
def eG (g:Gr):List A :=
  [.r 6 (g.ops.map dH),nI g.at_,nI g.place,nI g.status,bI g.token,nI g.call,bI g.bz,nI g.param,nI g.aH,nI g.hold,nI g.t,nI g.ic,nI g.bQ,nI g.wi,nI g.dL,
   nI g.res.code,nI g.res.cs,nI g.res.v,bI g.res.ok,nI g.res.n,ints g.order,ints g.aF,ints g.ay,ints g.an,nI g.k]
def eC (c:Cn):List A:=[nI c.cap,ints c.buf,bI c.closed,nI c.lock,ints c.recv,ints c.send]
def eS (s:Su):List A:=[bI s.live,nI s.g,nI s.ch,nI s.cs,bI s.send,nI s.v,bI s.done]
def eM (m:Mk):List A:=[nI m.g,nI m.op,nI m.call,nI m.ic,nI m.bQ,nI m.wi,nI m.dL,nI m.re,nI m.res.code,nI m.res.cs,nI m.res.v,bI m.res.ok,nI m.res.n]
def az (s:ah):List A :=
 [nI s.cV,nI s.bN,nI s.step,.r 25 (s.gs.map eG),.r 6 (s.au.map eC),.r 7 (s.aC.map eS),.r 1 (s.cache.map fun l=>[ints l]),ints s.middle,nI s.fresh,.r 1 (s.cG.map fun n=>[.v (.int .u16 n)]),nI s.drawn,.r 13 (s.done.map eM)]
theorem lR.snoc {l:List Int} {a:Int}:lR (.r 1 (([] ++ l.map fun n=>[nI n]) ++ [[nI a]])) (ints (l ++ [a])):=by
 have:([] ++ l.map fun n=>[nI n]) ++ [[nI a]]=(l ++ [a]).map fun n=>[nI n]:=by simp
 rw [this];exact .refl
theorem lR.clone {l:List Int}:lR (.r 1 ([] ++ l.map fun n=>[nI n])) (ints l):=by
 rw [List.nil_append];exact .refl
end Fl
open Go.RowKit
namespace Fl
open Sx Go.Proofs.Tryz
theorem at_map {α β:Type} {l:List α} {h:α→β} {k:Nat} {a:α} (e:l[k]?=some a):(l.map h)[k]?=some (h a):=by rw [List.getElem?_map,e];rfl
theorem J.nk {P:Program} {c:Cx} {k:List Item} {f:Fm} {L L1 L2:List ak} (i j n:Nat) {v:Value} {e:TypeId} {sz:Nat} {ll:List (List A)} {b:Nat} {B:TypeId} {cs:List A} [st:lP L j (.box b B (cs.set n (.r sz ll))) L1] [er:mw L1 i L2] (hi:L[i]?=some (.row v e sz ll)) (hj:L[j]?=some (.box b B cs)) (hc:cs[n]?=some (.v v)) (h:J P c k f L2):J P c k f L :=
 J.wA i j n hi hj hc (by rw [st.h,er.h];exact h)
def rP:List A:=vs [.int .i64 0,.int .i64 0,.int .i64 0,.slice none 0 0,.slice none 0 0,.slice none 0 0,.slice none 0 0,.slice none 0 0,.int .i64 0,.slice none 0 0,.int .i64 0,.slice none 0 0]
def nr (l:List Int):A:=.r 1 (l.map fun n=>[.v (.int .u16 n)])
theorem QK {l:List Int} {k:Int} (h0:0≤k) (h:k < l.length):(l.map fun n=>[A.v (.int .u16 n)])[k.toNat]?=some [.v (.int .u16 (aD l k))]:=by
 have:k.toNat < l.length:=by omega
 refine at_map ?_;unfold aD;rw [List.getElem?_eq_getElem this,List.getD_eq_getElem?_getD,List.getElem?_eq_getElem this];rfl
theorem rQ {l:List Int} {k:Int} (h0:0≤k) (h:k < l.length):aD l k∈l:=by
 have:k.toNat < l.length:=by omega
 unfold aD;rw [List.getD_eq_getElem?_getD,List.getElem?_eq_getElem this];exact List.getElem_mem _
theorem qE (s:ah) (g k:Nat) (x:Gr) (hg:g < s.gs.length):aa (ai s g x) k=if k=g then x else aa s k:=by
 unfold aa ai;rw [List.getD_eq_getElem?_getD,List.getD_eq_getElem?_getD,List.getElem?_set]
 by_cases h:g=k
 ·subst h;simp [hg]
 ·rw [if_neg h,if_neg (Ne.symm h)]
end Fl
end Go.Proofs.YtofnbflkhgammaaGreat
