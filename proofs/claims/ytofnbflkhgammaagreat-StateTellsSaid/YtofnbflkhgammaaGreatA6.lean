/-
  What the laws need, part A6.
  Conditions: none.
-/
import Derived.Test.YtofnbflkhgammaaGreatA5
set_option linter.unusedVariables false
set_option linter.unusedSimpArgs false
set_option linter.unnecessarySimpa false
set_option maxHeartbeats 2000000
namespace Go.Proofs.YtofnbflkhgammaaGreat
namespace Sx
def xE:Pn.Op:=⟨0,0,0,0,[],false⟩
def nu:Cn:=⟨0,[],false,-1,[],[]⟩
def gr (s:St) (g:Nat):Gr:=s.gs.getD g (clean [] 0)
def cn (s:St) (ch:Int):Cn:=s.an.getD (ch - 1).toNat nu
def su (s:St) (i:Int):Su:=s.aB.getD i.toNat eI
def op (s:St) (g:Nat):Pn.Op:=(gr s g).ops.getD (gr s g).at_.toNat xE
def made (s:St) (ch:Int):Bool:=decide (1≤ch∧ch≤s.an.length)
def aa (s:St) (g:Nat) (x:Gr):St:={ s with gs:=s.gs.set g x }
def av (s:St) (ch:Int) (c:Cn):St:={ s with an:=s.an.set (ch - 1).toNat c }
def aF (s:St) (i:Int) (x:Su):St:={ s with aB:=s.aB.set i.toNat x }
def aE (s:St) (g:Nat) (p:Int):St:=aa s g { gr s g with place:=p }
def gu (x:Gr):Gr:={ clean x.ops x.at_ with place:=x.place,status:=x.status,token:=x.token }
def clear (s:St) (g:Nat):St:=aa s g (gu (gr s g))
def tryLock (s:St) (g:Nat) (ch:Int):St × Bool:=if (cn s ch).lock=-1 then (av s ch { cn s ch with lock:=g },true) else (s,false)
def free (s:St) (ch:Int):St:=av s ch { cn s ch with lock:=-1 }
def tU (s:St):List Int:=s.middle ++ s.cache.flatten
def gw (s:St) (x:Int):Bool:=decide (0≤x) && decide (x < s.fresh) && !(tU s).contains x
def bu (s:St) (g:Nat):St × Int × Bool :=
 if Po.own s.bN.toNat (s.cache.getD g []) s.middle=[] then (if s.fresh < s.dB then ({ s with fresh:=s.fresh + 1 },s.fresh,true) else (s,0,false))
 else ({ s with cache:=s.cache.set g (Po.own s.bN.toNat (s.cache.getD g []) s.middle).dropLast,middle:=Po.aW s.bN.toNat (s.cache.getD g []) s.middle },(Po.own s.bN.toNat (s.cache.getD g []) s.middle).getLastD 0,true)
def dU (s:St) (g:Nat) (x:Int):St :=
 if gw s x then { s with cache:=s.cache.set g ((s.cache.getD g []).take ((s.cache.getD g []).length - Po.dS s.bN.toNat (s.cache.getD g [])) ++ [x]),middle:=s.middle ++ (s.cache.getD g []).reverse.take (Po.dS s.bN.toNat (s.cache.getD g [])) }
 else s
def bR (s:St) (g:Nat) (x:Int):St:=aF (dU s g x) x eI
def fh (s:St) (g:Nat):St :=
 aa s g (if (gr s g).status=0∧(gr s g).token=true then { gr s g with token:=false } else if (gr s g).status=0 then { gr s g with status:=1 } else gr s g)
def ready (s:St) (g:Nat):St :=
 aa s g (if (gr s g).status=1 then { gr s g with status:=0 } else if (gr s g).status=0 then { gr s g with token:=true } else gr s g)
def pair (s:St) (g:Nat) (i:Int):St :=
 let x:=gr s g
 let o:=(su s i).g
 aa (aa s o.toNat { gr s o.toNat with bG:=x.t,wi:=g,dh:=(su s i).cs }) g { x with bG:=x.t,wi:=o }
def serve (s:St) (g:Nat) (i:Int) (d:Bool):St :=
 let o:=(su s i).g
 let s2:=aF (aa s o.toNat { gr s o.toNat with param:=i }) i { su s i with done:=d }
 aa s2 g { gr s2 g with ah:=(gr s2 g).ah ++ [o],hold:=-1 }
def ah (s:St) (g:Nat):St:=if 0 < (gr s g).ah.length then aE s g 17 else aE s g 18
def common (s:St) (g:Nat):St × Bool :=
 let x:=gr s g
 let o:=op s g
 if x.place=4 then
  (if (tryLock s g o.ch).2=true then (if o.kind=6 then (aE (tryLock s g o.ch).1 g 21,true) else (aE (tryLock s g o.ch).1 g 5,true)) else (s,true))
 else if x.place=12 then (aE (free s o.ch) g 13,true)
 else if x.place=13 then (fh (aE s g 14) g,true)
 else if x.place=15 then (aE (aa (bR s g x.aK) g { x with aK:=-1 }) g 18,true)
 else if x.place=16 then (ah (free s o.ch) g,true)
 else if x.place=17 then (ah (aa (ready s (x.ah.headD 0).toNat) g { x with ah:=x.ah.tail }) g,true)
 else (s,false)
def bw (s:St) (g:Nat) (r:Md.ai) (p:Int):St:=aa s g { gr s g with bG:=s.step,res:=r,place:=p }
def ee (v:Int) (ok:Bool):Md.ai:=⟨1,-1,v,ok,0⟩
def res (c:Int):Md.ai:=⟨c,-1,0,false,0⟩
def lu:Md.ai:=⟨1,-1,0,true,0⟩
def room (c:Cn):Bool:=if 0 < c.cap then decide ((c.buf.length:Int) < c.cap) else decide (0 < c.recv.length)
def tV (c:Cn):Bool:=if 0 < c.cap then decide (0 < c.buf.length) else decide (0 < c.send.length)
def gM (l:List Int) (x:Int):List Int:=l.filter (· != x)
def drop (s:St) (i:Int):St :=
 if made s (su s i).ch=true then av s (su s i).ch { cn s (su s i).ch with recv:=gM (cn s (su s i).ch).recv i,send:=gM (cn s (su s i).ch).send i } else s
def taken (s:St) (g:Nat) (i dy hand:Int):St :=
 if 0≤(su s i).cs then aE (aa s g { gr s g with hold:=i }) g dy
 else aE (pair (drop (aa s g { gr s g with hold:=i,t:=s.step }) i) g i) g hand
def dy (s:St) (g:Nat) (back on:Int):St :=
 let x:=gr s g
 let p:=(su s x.hold).g.toNat
 if (gr s p).aX=true then aa (drop s x.hold) g { x with hold:=-1,place:=back }
 else aE (pair (aa (aa s g { x with t:=s.step }) p { gr s p with aX:=true }) g x.hold) g on
def aK (s:St) (g:Nat) (d:Su):St :=
 if (bu s g).2.2=true then aa (aF (bu s g).1 (bu s g).2.1 d) g { gr s g with aK:=(bu s g).2.1,place:=11 }
 else aa (bu s g).1 g { gr s g with res:={ (gr s g).res with code:=6 },place:=16 }
def mD (s:St) (g:Nat) (v:Int):St :=
 let h:=(gr s g).hold
 let s1:=drop s h
 serve (aF s1 h { su s1 h with v:=v }) g h true
def iE (l:List Int) (room v:Int):List Int × Bool:=if room≤l.length then (l,false) else (l ++ [v],true)
def gF (l:List Int):List Int × Int × Bool:=if l.length=0 then (l,0,false) else (l.tail,l.headD 0,true)
def gQ (l:List Int) (room v:Int):List Int × Int × Bool:=if (l.length:Int) < room∨l.length=0 then (l,0,false) else (l.tail ++ [v],l.headD 0,true)
def bO (s:St) (g:Nat):St × Bool :=
  let x:=gr s g
  let o:=op s g
  let c:=cn s o.ch
  if o.kind≠2∧o.kind≠4 then (s,false)
  else if (common s g).2=true then ((common s g).1,true)
  else if made s o.ch=false then (s,false)
  else if x.place=1 then (if room c=true then (aE s g 4,true) else (bw s g x.res 2,true))
  else if x.place=2 then (if c.closed=true then (aa s g { x with bG:=0,place:=4 },true) else (aa s g { x with res:={ x.res with code:=2 },place:=18 },true))
  else if x.place=5 then (if c.closed=true then (bw s g (res 3) 16,true) else (aE s g 6,true))
  else if x.place=6 then (if c.recv.length=0 then (aE s g 9,true) else (taken s g (c.recv.headD 0) 7 8,true))
  else if x.place=7 then (dy s g 6 8,true)
  else if x.place=8 then (aa (mD s g o.v) g { gr (mD s g o.v) g with res:=lu,place:=16 },true)
  else if x.place=9 then
    (if (iE c.buf c.cap o.v).2=true then (bw (av s o.ch { c with buf:=(iE c.buf c.cap o.v).1 }) g lu 16,true)
     else if o.kind=4 then (bw s g (res 2) 16,true) else (aE s g 10,true))
  else if x.place=10 then (aK s g ⟨true,g,o.ch,-1,true,o.v,false⟩,true)
  else if x.place=11 then (aa (av s o.ch { c with send:=c.send ++ [x.aK] }) g { x with jn:=s.step,place:=12 },true)
  else if x.place=14 then (aa s g { x with res:=if (su s x.param).done=true then lu else res 3,param:=-1,place:=15 },true)
  else (s,false)
def hand (s:St) (ch i:Int):St × Int :=
 let c:=cn s ch
 if c.cap=0 then (s,(su s i).v)
 else (av s ch { c with buf:=(gQ c.buf c.cap (su s i).v).1 },(gQ c.buf c.cap (su s i).v).2.1)
def bE (s:St) (g:Nat):St × Bool :=
  let x:=gr s g
  let o:=op s g
  let c:=cn s o.ch
  if o.kind≠3∧o.kind≠5 then (s,false)
  else if (common s g).2=true then ((common s g).1,true)
  else if made s o.ch=false then (s,false)
  else if x.place=1 then (if tV c=true then (aE s g 4,true) else (bw s g x.res 2,true))
  else if x.place=2 then (if c.closed=true then (aE s g 3,true) else (aa s g { x with res:={ x.res with code:=2 },place:=18 },true))
  else if x.place=3 then (if tV c=true then (aa s g { x with bG:=0,place:=4 },true) else (bw s g (ee 0 false) 18,true))
  else if x.place=5 then
    (if c.closed=true∧c.buf.length=0 then (bw s g (ee 0 false) 16,true) else if c.closed=true then (aE s g 9,true) else (aE s g 6,true))
  else if x.place=6 then (if c.send.length=0 then (aE s g 9,true) else (taken s g (c.send.headD 0) 7 8,true))
  else if x.place=7 then (dy s g 6 8,true)
  else if x.place=8 then
    (let n:=hand (drop s x.hold) o.ch x.hold
     let n2:=serve n.1 g x.hold true
     (aa n2 g { gr n2 g with res:=ee n.2 true,place:=16 },true))
  else if x.place=9 then
    (if (gF c.buf).2.2=true then (bw (av s o.ch { c with buf:=(gF c.buf).1 }) g (ee (gF c.buf).2.1 true) 16,true)
     else if o.kind=5 then (bw s g (res 2) 16,true) else (aE s g 10,true))
  else if x.place=10 then (aK s g ⟨true,g,o.ch,-1,false,0,false⟩,true)
  else if x.place=11 then (aa (av s o.ch { c with recv:=c.recv ++ [x.aK] }) g { x with jn:=s.step,place:=12 },true)
  else if x.place=14 then (aa s g { x with res:=if (su s x.param).done=true then ee (su s x.param).v true else ee 0 false,param:=-1,place:=15 },true)
  else (s,false)
def eU (s:St) (g:Nat):St :=
 let i:=(gr s g).hold
 let s1:=drop (aa s g { gr s g with t:=s.step }) i
 let d:=su s1 i
 serve (aa s1 d.g.toNat { gr s1 d.g.toNat with bG:=(gr s1 g).t,dh:=d.cs }) g i false
def eB (s:St) (g:Nat) (i:Int):St :=
 let s1:=aa s g { gr s g with hold:=i }
 if 0≤(su s1 i).cs then aE s1 g 23 else eU s1 g
def gN (s:St) (g:Nat):St :=
 let x:=gr s g
 let p:=(su s x.hold).g.toNat
 if (gr s p).aX=true then aa (drop s x.hold) g { x with hold:=-1,place:=22 }
 else aE (eU (aa s p { gr s p with aX:=true }) g) g 22
def cD (s:St) (g:Nat):St × Bool :=
 let x:=gr s g
 let o:=op s g
 let c:=cn s o.ch
 if o.kind≠6 then (s,false)
 else if (common s g).2=true then ((common s g).1,true)
 else if made s o.ch=false then (s,false)
 else if x.place=21 then (if c.closed=true then (bw s g (res 4) 16,true) else (bw (av s o.ch { c with closed:=true }) g lu 22,true))
 else if x.place=22 then
  (if 0 < c.recv.length then (eB s g (c.recv.headD 0),true) else if 0 < c.send.length then (eB s g (c.send.headD 0),true) else (aE s g 16,true))
 else if x.place=23 then (gN s g,true)
 else (s,false)
def unlock (s:St) (g:Nat) (p:Int):St:=aa s g { gr s g with k:=(gr s g).aC.length,place:=p }
def eV (s:St) (g:Nat) (r:Md.ai) (i:Int):St :=
 let s1:=bw s g { r with cs:=i } 30
 unlock (aa s1 g { gr s1 g with dh:=i }) g 30
def aA (l:List Int) (k:Int):Int:=l.getD k.toNat 0
def lock (s:St) (g:Nat) (p:Int):St :=
 let x:=gr s g
 if (tryLock s g (aA x.aC x.k)).2=true then
  (if x.k + 1=x.aC.length then aa (tryLock s g (aA x.aC x.k)).1 g { x with k:=0,place:=p } else aa (tryLock s g (aA x.aC x.k)).1 g { x with k:=x.k + 1 })
 else s
def next (s:St) (g:Nat) (p:Int):St :=
 let x:=gr s g
 if x.k + 1=x.order.length then aa s g { x with k:=0,place:=p } else aa s g { x with k:=x.k + 1 }
def gy (s:St) (g:Nat):St :=
 let x:=gr s g
 if x.place=27 then aa s g { x with dh:=aA x.order x.k } else aa s g x
def Pv:Pn.Cs:=⟨false,0,0⟩
def bZ (o:Pn.Op) (i:Int):Pn.Cs:=o.cases.getD i.toNat Pv
def iF (s:St) (g:Nat) (i:Int) (k:Pn.Cs):St × Bool :=
 let c:=cn s k.ch
 if c.closed=true then (eV s g ⟨3,0,0,false,0⟩ i,true)
 else if 0 < c.recv.length then (gy (taken s g (c.recv.headD 0) 26 27) g,true)
 else if (iE c.buf c.cap k.v).2=true then (eV (av s k.ch { c with buf:=(iE c.buf c.cap k.v).1 }) g ⟨1,0,0,true,0⟩ i,true)
 else (s,false)
def jo (s:St) (g:Nat) (i:Int) (k:Pn.Cs):St × Bool :=
 let c:=cn s k.ch
 if 0 < c.send.length then (gy (taken s g (c.send.headD 0) 26 27) g,true)
 else if (gF c.buf).2.2=true then (eV (av s k.ch { c with buf:=(gF c.buf).1 }) g (ee (gF c.buf).2.1 true) i,true)
 else if c.closed=true then (eV s g (ee 0 false) i,true)
 else (s,false)
def jZ (s:St) (g:Nat) (o:Pn.Op):St :=
 let x:=gr s g
 let i:=aA x.order x.k
 let k:=bZ o i
 let r:=if k.send=true then iF s g i k else jo s g i k
 if r.2=true then r.1
 else if x.k + 1 < x.order.length then next s g 25
 else if o.de=true then eV s g ⟨2,0,0,false,0⟩ (-1)
 else next (aa s g { x with ak:=List.replicate o.cases.length (-1) }) g 28
def j4 (s:St) (g:Nat) (o:Pn.Op):St :=
 let x:=gr s g
 let i:=aA x.order x.k
 let k:=bZ o i
 let s1:=drop s x.hold
 let n:=if k.send=true then (aF s1 x.hold { su s1 x.hold with v:=k.v },(⟨1,i,0,true,0⟩:Md.ai)) else ((hand s1 k.ch x.hold).1,{ ee (hand s1 k.ch x.hold).2 true with cs:=i })
 let s2:=serve n.1 g x.hold true
 unlock (aa s2 g { gr s2 g with res:=n.2 }) g 30
def aB (s:St) (g:Nat) (o:Pn.Op):St :=
 let x:=gr s g
 let i:=aA x.order x.k
 let k:=bZ o i
 if (bu s g).2.2=true then
  next (aa (aF (bu s g).1 (bu s g).2.1 ⟨true,g,k.ch,i,k.send,k.v,false⟩) g { x with ak:=x.ak.set i.toNat (bu s g).2.1 }) g 29
 else unlock (aa (bu s g).1 g { x with res:={ x.res with code:=6 } }) g 30
def lA (s:St) (g:Nat) (o:Pn.Op):St :=
 let x:=gr s g
 let i:=aA x.order x.k
 let k:=bZ o i
 let c:=cn s k.ch
 let s1:=av s k.ch (if k.send=true then { c with send:=c.send ++ [aA x.ak i] } else { c with recv:=c.recv ++ [aA x.ak i] })
 if x.k + 1 < x.order.length then next s1 g 29
 else unlock (aa s1 g { x with jn:=s1.step }) g 30
def cX (s:St) (g:Nat):St × Bool :=
 let x:=gr s g
 (aa (free s (aA x.aC (x.k - 1))) g { x with k:=x.k - 1 },decide (0 < x.k - 1))
def nv (l:List Int):Bool:=l.any (fun x=>decide (0≤x))
def mE (s:St) (g:Nat):St :=
 let x:=gr s g
 let d:=su s x.param
 let r:Md.ai:=if d.done=true then { ee d.v true with cs:=d.cs } else { ee 0 false with cs:=d.cs }
 let r2:Md.ai:=if d.send=true∧d.done=true then { r with v:=0 } else if d.send=true then ⟨3,d.cs,0,false,0⟩ else r
 aa s g { x with res:=r2,param:=-1,k:=0,place:=31 }
def lB (s:St) (g:Nat):St :=
 let x:=gr s g
 let s1:=drop s (aA x.ak (aA x.order x.k))
 if x.k + 1 < x.order.length then next s1 g 32 else unlock s1 g 33
def j5 (s:St) (g:Nat):St :=
 let x:=gr s g
 let i:=aA x.order x.k
 let s1:=if 0≤aA x.ak i then bR s g (aA x.ak i) else s
 if x.k + 1=x.order.length then ah (next (aa s1 g { x with ak:=[] }) g 34) g
 else next (aa s1 g { x with ak:=x.ak.set i.toNat (-1) }) g 34
def bg (s:St) (g:Nat):St × Bool :=
  let x:=gr s g
  let o:=op s g
  if o.kind≠9 then (s,false)
  else if x.place=24 then (lock s g 25,true)
  else if x.place=25 then (jZ s g o,true)
  else if x.place=26 then (gy (dy s g 25 27) g,true)
  else if x.place=27 then (j4 s g o,true)
  else if x.place=28 then (aB s g o,true)
  else if x.place=29 then (lA s g o,true)
  else if x.place=30 then
    (if (cX s g).2=true then ((cX s g).1,true) else if x.res.code=0 then (aE (cX s g).1 g 13,true)
     else if nv x.ak=true then (aE (cX s g).1 g 34,true) else (ah (cX s g).1 g,true))
  else if x.place=14 then (mE s g,true)
  else if x.place=31 then (lock s g 32,true)
  else if x.place=32 then (lB s g,true)
  else if x.place=33 then (if (cX s g).2=true then ((cX s g).1,true) else (aE (cX s g).1 g 34,true))
  else if x.place=34 then (j5 s g,true)
  else if x.place=13∨x.place=17 then common s g
  else (s,false)
def never (s:St) (g:Nat):St:=fh (aE s g 19) g
def draw (l:List Int) (at_ n:Int):Int × Int:=if n < 1∨(l.length:Int)≤at_ then (0,at_) else ((aA l at_) % n,at_ + 1)
def drawn:St→Nat→List Int × Int
 | s,0=>([],s.drawn)
 | s,n + 1=>((drawn s n).1 ++ [(draw s.cL (drawn s n).2 (n + 1)).1],(draw s.cL (drawn s n).2 (n + 1)).2)
def swap (l:List Int) (i j:Nat):List Int:=(l.set i (l.getD j 0)).set j (l.getD i 0)
def dV (ds:List Int):Nat→List Int
 | 0=>[]
 | n + 1=>swap (dV ds n ++ [(n:Int)]) (ds.getD n 0 % (n + 1)).toNat n
def insert (x:Int):List Int→List Int
 | []=>[x]
 | y :: l=>if y≤x then y :: insert x l else x :: y :: l
def sort (l:List Int):List Int:=l.foldl (fun acc x=>insert x acc) []
def gX (acc:List Int) (x:Int):List Int:=if x≤0∨(0 < acc.length∧acc.getLastD 0=x) then acc else acc ++ [x]
def aC (l:List Int):List Int:=(sort l).foldl gX []
def j6 (s:St) (g:Nat) (o:Pn.Op):St :=
 let n:=o.cases.length
 let s1:={ s with drawn:=(drawn s n).2 }
 let ord:=dV (drawn s n).1 n
 let jr:=ord.filter (fun i=>made s (bZ o i).ch)
 let ids:=jr.map (fun i=>(bZ o i).ch)
 let s2:=aa s1 g { gr s g with order:=(gr s g).order ++ jr,aC:=aC ids,place:=24 }
 if 0 < ids.length then s2 else if o.de=true then bw s2 g (res 2) 18 else never s2 g
def j7 (s:St) (g:Nat):St :=
 let x:=gr s g
 if (x.ops.length:Int)≤x.at_ then aa s g { x with status:=2,token:=false }
 else
  let s1:=clear s g
  let s2:=aa s1 g { gr s1 g with call:=s1.step }
  let o:=op s2 g
  let m:=made s2 o.ch
  if o.kind=1∨o.kind=7∨o.kind=8 then aE s2 g 20
  else if o.kind=2∨o.kind=3 then (if m=true then aE s2 g 4 else never s2 g)
  else if o.kind=4∨o.kind=5 then (if m=true then aE s2 g 1 else bw s2 g (res 2) 18)
  else if o.kind=6 then (if m=true then aE s2 g 4 else bw s2 g (res 5) 18)
  else j6 s2 g o
def j8 (s:St) (g:Nat):St :=
 let o:=op s g
 if o.kind=1∧8≤s.an.length then bw s g (res 7) 18
 else if o.kind=1 then bw { s with an:=s.an ++ [⟨o.n,[],false,-1,[],[]⟩] } g ⟨1,-1,0,true,s.an.length + 1⟩ 18
 else if made s o.ch=true∧o.kind=7 then bw s g ⟨1,-1,0,true,(cn s o.ch).buf.length⟩ 18
 else if made s o.ch=true then bw s g ⟨1,-1,0,true,(cn s o.ch).cap⟩ 18
 else bw s g ⟨1,-1,0,true,0⟩ 18
def mark (s:St) (g:Nat) (re:Int):Mk :=
 let x:=gr s g
 ⟨g,x.at_,x.call,x.jn,x.bG,x.wi,x.dh,re,x.res⟩
def answer (s:St) (g:Nat):St :=
 let s1:={ s with done:=s.done ++ [mark s g s.step] }
 clear (aa s1 g { gr s1 g with at_:=(gr s1 g).at_ + 1,place:=0 }) g
def iT (s:St) (g:Nat):St × Bool :=
 let x:=gr s g
 if x.place=0 then (j7 s g,true) else if x.place=20 then (j8 s g,true) else if x.place=18 then (answer s g,true) else (s,false)
def running (s:St):List Int:=((List.range s.gs.length).filter (fun g=>decide ((gr s g).status=0))).map Int.ofNat
def one (s:St) (g:Int):St × Bool :=
 if g < 0∨(s.gs.length:Int)≤g∨(gr s g.toNat).status≠0 then (s,false)
 else
  let n:={ s with step:=s.step + 1 }
  if (iT n g.toNat).2=true then ((iT n g.toNat).1,true)
  else if (bO n g.toNat).2=true then ((bO n g.toNat).1,true)
  else if (bE n g.toNat).2=true then ((bE n g.toNat).1,true)
  else if (cD n g.toNat).2=true then ((cD n g.toNat).1,true)
  else if (bg n g.toNat).2=true then ((bg n g.toNat).1,true)
  else (s,false)
def pick (s:St) (p:Int):Int:=if (running s).length=0 then -1 else aA (running s) (p % ((running s).length:Int))
def runs (s:St):List Int→St × Int
 | []=>(s,0)
 | p :: r=>if pick s p < 0 then (s,0) else ((runs (one s (pick s p)).1 r).1,(runs (one s (pick s p)).1 r).2 + 1)
end Sx
namespace Fl
open Sx
instance:eZ Tryz.prog 2 1:={}
instance:gi Tryz.prog 2:={}
instance:aQ Tryz.prog 2 [.int .i64 0]:={}
instance:kV Tryz.prog 2 .i64:={}
instance:eZ Tryz.prog 3 1:={}
instance:gi Tryz.prog 3:={}
instance:aQ Tryz.prog 3 [.int .i64 0]:={}
instance:kV Tryz.prog 3 .i64:={}
instance:eZ Tryz.prog 4 1:={}
instance:gi Tryz.prog 4:={}
instance:aQ Tryz.prog 4 [.bool false]:={}
instance:wX Tryz.prog 4:={}
instance:aQ Tryz.prog 5 [.int .u8 0]:={}
instance:kV Tryz.prog 5 .u8:={}
instance:aQ Tryz.prog 6 [.int .u8 0]:={}
instance:kV Tryz.prog 6 .u8:={}
instance:aQ Tryz.prog 7 [.int .i64 0,.int .i64 0,.bool false,.int .u8 0]:={}
instance:aQ Tryz.prog 8 [.int .i64 0,.int .i64 0,.bool false,.int .u8 0]:={}
instance:aQ Tryz.prog 9 [.string ⟨#[]⟩]:={}
instance:aQ Tryz.prog 10 [.string ⟨#[]⟩]:={}
instance:aQ Tryz.prog 11 [.string ⟨#[]⟩]:={}
instance:aQ Tryz.prog 12 [.int .u64 0]:={}
instance:kV Tryz.prog 12 .u64:={}
instance:aQ Tryz.prog 13 [.string ⟨#[]⟩,.int .u64 0]:={}
instance:aQ Tryz.prog 14 [.string ⟨#[]⟩,.int .u64 0]:={}
instance:aQ Tryz.prog 15 [.pointer none]:={}
instance:aQ Tryz.prog 16 [.pointer none]:={}
instance:aQ Tryz.prog 17 [.pointer none]:={}
instance:aQ Tryz.prog 18 [.pointer none]:={}
instance:aQ Tryz.prog 19 [.pointer none]:={}
instance:aQ Tryz.prog 21 [.int .i32 0]:={}
instance:kV Tryz.prog 21 .i32:={}
instance:gi Tryz.prog 22:={}
instance:aQ Tryz.prog 22 [.slice none 0 0]:={}
instance:eY Tryz.prog 22 43 1:={}
instance:gB Tryz.prog 22 43 1 24 (.slice none 0 0):=⟨⟨by kernel_rfl,by kernel_rfl,rfl,by decide,by decide⟩⟩
instance:aQ Tryz.prog 23 [.int .i64 0,.int .i64 0]:={}
instance:jV Tryz.prog 24 2:={}
instance:aQ Tryz.prog 24 [.int .i64 0,.int .i64 0]:={}
instance:bz Tryz.prog 24 0 0:={}
instance:bz Tryz.prog 24 1 1:={}
instance:mA Tryz.prog 24 [(0,1),(1,1)]:={}
instance:gi Tryz.prog 25:={}
instance:aQ Tryz.prog 25 [.slice none 0 0]:={}
instance:eY Tryz.prog 25 115 1:={}
instance:gB Tryz.prog 25 115 1 2 (.int .u16 0):=⟨⟨by kernel_rfl,by kernel_rfl,rfl,by decide,by decide⟩⟩
instance:aQ Tryz.prog 26 [.slice none 0 0,.int .i64 0,.int .i64 0,.slice none 0 0]:={}
instance:jV Tryz.prog 27 4:={}
instance:aQ Tryz.prog 27 [.slice none 0 0,.int .i64 0,.int .i64 0,.slice none 0 0]:={}
instance:bz Tryz.prog 27 0 0:={}
instance:bz Tryz.prog 27 1 1:={}
instance:bz Tryz.prog 27 2 3:={}
instance:eZ Tryz.prog 28 1:={}
instance:gi Tryz.prog 28:={}
instance:aQ Tryz.prog 28 [.slice none 0 0]:={}
instance:eY Tryz.prog 28 3 1:={}
instance:gB Tryz.prog 28 3 1 8 (.int .i64 0):=⟨⟨by kernel_rfl,by kernel_rfl,rfl,by decide,by decide⟩⟩
instance:eZ Tryz.prog 30 1:={}
instance:gi Tryz.prog 30:={}
instance:aQ Tryz.prog 30 [.slice none 0 0]:={}
instance:eY Tryz.prog 30 47 25:={}
instance:gB Tryz.prog 30 47 25 280 (.agg #[.slice none 0 0,.int .i64 0,.int .i64 0,.int .i64 0,.bool false,.int .i64 0,.bool false,.int .i64 0,.int .i64 0,.int .i64 0,.int .i64 0,.int .i64 0,.int .i64 0,.int .i64 0,.int .i64 0,.int .i64 0,.int .i64 0,.int .i64 0,.bool false,.int .i64 0,.slice none 0 0,.slice none 0 0,.slice none 0 0,.slice none 0 0,.int .i64 0]):=⟨⟨by kernel_rfl,by kernel_rfl,rfl,by decide,by decide⟩⟩
instance:eZ Tryz.prog 31 1:={}
instance:gi Tryz.prog 31:={}
instance:aQ Tryz.prog 31 [.slice none 0 0]:={}
instance:eY Tryz.prog 31 72 6:={}
instance:gB Tryz.prog 31 72 6 96 (.agg #[.int .i64 0,.slice none 0 0,.bool false,.int .i64 0,.slice none 0 0,.slice none 0 0]):=⟨⟨by kernel_rfl,by kernel_rfl,rfl,by decide,by decide⟩⟩
instance:eZ Tryz.prog 32 1:={}
instance:gi Tryz.prog 32:={}
instance:aQ Tryz.prog 32 [.slice none 0 0]:={}
instance:eY Tryz.prog 32 52 7:={}
instance:gB Tryz.prog 32 52 7 56 (.agg #[.bool false,.int .i64 0,.int .i64 0,.int .i64 0,.bool false,.int .i64 0,.bool false]):=⟨⟨by kernel_rfl,by kernel_rfl,rfl,by decide,by decide⟩⟩
instance:eZ Tryz.prog 33 1:={}
instance:gi Tryz.prog 33:={}
instance:aQ Tryz.prog 33 [.slice none 0 0]:={}
instance:eY Tryz.prog 33 28 1:={}
instance:gB Tryz.prog 33 28 1 24 (.slice none 0 0):=⟨⟨by kernel_rfl,by kernel_rfl,rfl,by decide,by decide⟩⟩
instance:eZ Tryz.prog 34 1:={}
instance:gi Tryz.prog 34:={}
instance:aQ Tryz.prog 34 [.slice none 0 0]:={}
instance:eY Tryz.prog 34 54 13:={}
instance:gB Tryz.prog 34 54 13 104 (.agg #[.int .i64 0,.int .i64 0,.int .i64 0,.int .i64 0,.int .i64 0,.int .i64 0,.int .i64 0,.int .i64 0,.int .i64 0,.int .i64 0,.int .i64 0,.bool false,.int .i64 0]):=⟨⟨by kernel_rfl,by kernel_rfl,rfl,by decide,by decide⟩⟩
instance:aQ Tryz.prog 35 [.int .i64 0,.int .i64 0,.int .i64 0,.slice none 0 0,.slice none 0 0,.slice none 0 0,.slice none 0 0,.slice none 0 0,.int .i64 0,.slice none 0 0,.int .i64 0,.slice none 0 0]:={}
instance:eZ Tryz.prog 36 12:={}
instance:jV Tryz.prog 36 12:={}
instance:aQ Tryz.prog 36 [.int .i64 0,.int .i64 0,.int .i64 0,.slice none 0 0,.slice none 0 0,.slice none 0 0,.slice none 0 0,.slice none 0 0,.int .i64 0,.slice none 0 0,.int .i64 0,.slice none 0 0]:={}
instance:bz Tryz.prog 36 0 0:={}
instance:bz Tryz.prog 36 1 2:={}
instance:bz Tryz.prog 36 2 3:={}
instance:bz Tryz.prog 36 3 4:={}
instance:bz Tryz.prog 36 4 5:={}
instance:bz Tryz.prog 36 5 6:={}
instance:bz Tryz.prog 36 6 7:={}
instance:bz Tryz.prog 36 7 8:={}
instance:bz Tryz.prog 36 8 9:={}
instance:bz Tryz.prog 36 9 10:={}
instance:bz Tryz.prog 36 10 11:={}
instance:mA Tryz.prog 36 [(0,2),(2,1),(3,1),(4,1),(5,1),(6,1),(7,1),(8,1),(9,1),(10,1),(11,1)]:={}
instance:aQ Tryz.prog 39 [.pointer none]:={}
instance:eZ Tryz.prog 43 1:={}
instance:gi Tryz.prog 43:={}
instance:aQ Tryz.prog 43 [.slice none 0 0]:={}
instance:eY Tryz.prog 43 50 6:={}
instance:gB Tryz.prog 43 50 6 64 (.agg #[.int .i64 0,.int .i64 0,.int .i64 0,.int .i64 0,.slice none 0 0,.bool false]):=⟨⟨by kernel_rfl,by kernel_rfl,rfl,by decide,by decide⟩⟩
instance:aQ Tryz.prog 44 [.int .i64 0,.int .i64 0,.int .i64 0,.bool false,.int .i64 0]:={}
instance:eZ Tryz.prog 45 5:={}
instance:jV Tryz.prog 45 5:={}
instance:aQ Tryz.prog 45 [.int .i64 0,.int .i64 0,.int .i64 0,.bool false,.int .i64 0]:={}
instance:bz Tryz.prog 45 0 0:={}
instance:bz Tryz.prog 45 1 1:={}
instance:bz Tryz.prog 45 2 2:={}
instance:bz Tryz.prog 45 4 4:={}
instance:mA Tryz.prog 45 [(0,1),(1,1),(2,1),(3,1),(4,1)]:={}
instance:aQ Tryz.prog 46 [.slice none 0 0,.int .i64 0,.int .i64 0,.int .i64 0,.bool false,.int .i64 0,.bool false,.int .i64 0,.int .i64 0,.int .i64 0,.int .i64 0,.int .i64 0,.int .i64 0,.int .i64 0,.int .i64 0,.int .i64 0,.int .i64 0,.int .i64 0,.bool false,.int .i64 0,.slice none 0 0,.slice none 0 0,.slice none 0 0,.slice none 0 0,.int .i64 0]:={}
instance:eZ Tryz.prog 47 25:={}
instance:jV Tryz.prog 47 25:={}
instance:aQ Tryz.prog 47 [.slice none 0 0,.int .i64 0,.int .i64 0,.int .i64 0,.bool false,.int .i64 0,.bool false,.int .i64 0,.int .i64 0,.int .i64 0,.int .i64 0,.int .i64 0,.int .i64 0,.int .i64 0,.int .i64 0,.int .i64 0,.int .i64 0,.int .i64 0,.bool false,.int .i64 0,.slice none 0 0,.slice none 0 0,.slice none 0 0,.slice none 0 0,.int .i64 0]:={}
instance:bz Tryz.prog 47 0 0:={}
instance:bz Tryz.prog 47 1 1:={}
instance:bz Tryz.prog 47 2 2:={}
instance:bz Tryz.prog 47 3 3:={}
instance:bz Tryz.prog 47 4 4:={}
instance:bz Tryz.prog 47 5 5:={}
instance:bz Tryz.prog 47 6 6:={}
instance:bz Tryz.prog 47 7 7:={}
instance:bz Tryz.prog 47 8 8:={}
instance:bz Tryz.prog 47 9 9:={}
instance:bz Tryz.prog 47 10 10:={}
instance:bz Tryz.prog 47 11 11:={}
instance:bz Tryz.prog 47 12 12:={}
instance:bz Tryz.prog 47 13 13:={}
instance:bz Tryz.prog 47 14 14:={}
instance:bz Tryz.prog 47 15 15:={}
instance:bz Tryz.prog 47 16 20:={}
instance:bz Tryz.prog 47 17 21:={}
instance:bz Tryz.prog 47 18 22:={}
instance:bz Tryz.prog 47 19 23:={}
instance:bz Tryz.prog 47 20 24:={}
instance:mA Tryz.prog 47 [(0,1),(1,1),(2,1),(3,1),(4,1),(5,1),(6,1),(7,1),(8,1),(9,1),(10,1),(11,1),(12,1),(13,1),(14,1),(15,5),(20,1),(21,1),(22,1),(23,1),(24,1)]:={}
instance:eZ Tryz.prog 48 1:={}
instance:gi Tryz.prog 48:={}
instance:aQ Tryz.prog 48 [.slice none 0 0]:={}
instance:eY Tryz.prog 48 83 3:={}
instance:gB Tryz.prog 48 83 3 24 (.agg #[.bool false,.int .i64 0,.int .i64 0]):=⟨⟨by kernel_rfl,by kernel_rfl,rfl,by decide,by decide⟩⟩
instance:aQ Tryz.prog 49 [.int .i64 0,.int .i64 0,.int .i64 0,.int .i64 0,.slice none 0 0,.bool false]:={}
instance:eZ Tryz.prog 50 6:={}
instance:jV Tryz.prog 50 6:={}
instance:aQ Tryz.prog 50 [.int .i64 0,.int .i64 0,.int .i64 0,.int .i64 0,.slice none 0 0,.bool false]:={}
instance:bz Tryz.prog 50 0 0:={}
instance:bz Tryz.prog 50 1 1:={}
instance:bz Tryz.prog 50 2 2:={}
instance:bz Tryz.prog 50 3 3:={}
instance:bz Tryz.prog 50 4 4:={}
instance:bz Tryz.prog 50 5 5:={}
instance:mA Tryz.prog 50 [(0,1),(1,1),(2,1),(3,1),(4,1),(5,1)]:={}
instance:aQ Tryz.prog 51 [.bool false,.int .i64 0,.int .i64 0,.int .i64 0,.bool false,.int .i64 0,.bool false]:={}
instance:eZ Tryz.prog 52 7:={}
instance:jV Tryz.prog 52 7:={}
instance:aQ Tryz.prog 52 [.bool false,.int .i64 0,.int .i64 0,.int .i64 0,.bool false,.int .i64 0,.bool false]:={}
instance:bz Tryz.prog 52 0 0:={}
instance:bz Tryz.prog 52 1 1:={}
instance:bz Tryz.prog 52 2 2:={}
instance:bz Tryz.prog 52 3 3:={}
instance:bz Tryz.prog 52 4 4:={}
instance:bz Tryz.prog 52 5 5:={}
instance:bz Tryz.prog 52 6 6:={}
instance:mA Tryz.prog 52 [(0,1),(1,1),(2,1),(3,1),(4,1),(5,1),(6,1)]:={}
instance:aQ Tryz.prog 53 [.int .i64 0,.int .i64 0,.int .i64 0,.int .i64 0,.int .i64 0,.int .i64 0,.int .i64 0,.int .i64 0,.int .i64 0,.int .i64 0,.int .i64 0,.bool false,.int .i64 0]:={}
instance:eZ Tryz.prog 54 13:={}
instance:jV Tryz.prog 54 13:={}
instance:aQ Tryz.prog 54 [.int .i64 0,.int .i64 0,.int .i64 0,.int .i64 0,.int .i64 0,.int .i64 0,.int .i64 0,.int .i64 0,.int .i64 0,.int .i64 0,.int .i64 0,.bool false,.int .i64 0]:={}
instance:mA Tryz.prog 54 [(0,1),(1,1),(2,1),(3,1),(4,1),(5,1),(6,1),(7,1),(8,5)]:={}
instance:eZ Tryz.prog 70 1:={}
instance:gi Tryz.prog 70:={}
instance:aQ Tryz.prog 70 [.slice none 0 0]:={}
instance:eY Tryz.prog 70 2 1:={}
instance:gB Tryz.prog 70 2 1 8 (.int .i64 0):=⟨⟨by kernel_rfl,by kernel_rfl,rfl,by decide,by decide⟩⟩
instance:aQ Tryz.prog 71 [.int .i64 0,.slice none 0 0,.bool false,.int .i64 0,.slice none 0 0,.slice none 0 0]:={}
instance:eZ Tryz.prog 72 6:={}
instance:jV Tryz.prog 72 6:={}
instance:aQ Tryz.prog 72 [.int .i64 0,.slice none 0 0,.bool false,.int .i64 0,.slice none 0 0,.slice none 0 0]:={}
instance:bz Tryz.prog 72 0 0:={}
instance:bz Tryz.prog 72 1 1:={}
instance:bz Tryz.prog 72 2 2:={}
instance:bz Tryz.prog 72 3 3:={}
instance:bz Tryz.prog 72 4 4:={}
instance:bz Tryz.prog 72 5 5:={}
instance:mA Tryz.prog 72 [(0,1),(1,1),(2,1),(3,1),(4,1),(5,1)]:={}
instance:gi Tryz.prog 73:={}
instance:aQ Tryz.prog 73 [.pointer none]:={}
instance:eZ Tryz.prog 74 1:={}
instance:gi Tryz.prog 74:={}
instance:aQ Tryz.prog 74 [.slice none 0 0]:={}
instance:eY Tryz.prog 74 110 1:={}
instance:gB Tryz.prog 74 110 1 8 (.pointer none):=⟨⟨by kernel_rfl,by kernel_rfl,rfl,by decide,by decide⟩⟩
instance:eZ Tryz.prog 75 1:={}
instance:gi Tryz.prog 75:={}
instance:aQ Tryz.prog 75 [.slice none 0 0]:={}
instance:eY Tryz.prog 75 4 1:={}
instance:gB Tryz.prog 75 4 1 1 (.bool false):=⟨⟨by kernel_rfl,by kernel_rfl,rfl,by decide,by decide⟩⟩
instance:gi Tryz.prog 76:={}
instance:aQ Tryz.prog 76 [.pointer none]:={}
instance:eZ Tryz.prog 77 1:={}
instance:gi Tryz.prog 77:={}
instance:aQ Tryz.prog 77 [.pointer none]:={}
instance:eZ Tryz.prog 78 1:={}
instance:gi Tryz.prog 78:={}
instance:aQ Tryz.prog 78 [.pointer none]:={}
instance:gi Tryz.prog 79:={}
instance:aQ Tryz.prog 79 [.pointer none]:={}
instance:aQ Tryz.prog 80 [.int .i64 0,.int .i64 0,.int .i64 0,.slice none 0 0,.pointer none,.slice none 0 0,.slice none 0 0,.pointer none,.pointer none,.slice none 0 0,.pointer none,.pointer none,.slice none 0 0,.slice none 0 0]:={}
instance:aQ Tryz.prog 81 [.int .i64 0,.int .i64 0,.int .i64 0,.slice none 0 0,.pointer none,.slice none 0 0,.slice none 0 0,.pointer none,.pointer none,.slice none 0 0,.pointer none,.pointer none,.slice none 0 0,.slice none 0 0]:={}
instance:bz Tryz.prog 81 0 0:={}
instance:bz Tryz.prog 81 1 2:={}
instance:bz Tryz.prog 81 2 3:={}
instance:bz Tryz.prog 81 3 4:={}
instance:bz Tryz.prog 81 4 5:={}
instance:bz Tryz.prog 81 5 6:={}
instance:bz Tryz.prog 81 6 7:={}
instance:bz Tryz.prog 81 7 8:={}
instance:bz Tryz.prog 81 8 9:={}
instance:bz Tryz.prog 81 9 10:={}
instance:bz Tryz.prog 81 10 11:={}
instance:bz Tryz.prog 81 11 12:={}
instance:bz Tryz.prog 81 12 13:={}
instance:mA Tryz.prog 81 [(0,2),(2,1),(3,1),(4,1),(5,1),(6,1),(7,1),(8,1),(9,1),(10,1),(11,1),(12,1),(13,1)]:={}
instance:aQ Tryz.prog 82 [.bool false,.int .i64 0,.int .i64 0]:={}
instance:eZ Tryz.prog 83 3:={}
instance:jV Tryz.prog 83 3:={}
instance:aQ Tryz.prog 83 [.bool false,.int .i64 0,.int .i64 0]:={}
instance:bz Tryz.prog 83 0 0:={}
instance:bz Tryz.prog 83 1 1:={}
instance:bz Tryz.prog 83 2 2:={}
instance:aQ Tryz.prog 90 [.int .i64 0]:={}
instance:kV Tryz.prog 90 .i64:={}
instance:gi Tryz.prog 110:={}
instance:aQ Tryz.prog 110 [.pointer none]:={}
instance:gi Tryz.prog 115:={}
instance:aQ Tryz.prog 115 [.int .u16 0]:={}
instance:kV Tryz.prog 115 .u16:={}
instance:aQ Tryz.prog 116 [.pointer none]:={}
instance:aQ Tryz.prog 124 [.pointer none,.int .i64 0,.int .i64 0,.int .i64 0,.int .i64 0,.int .i64 0,.slice none 0 0,.bool false]:={}
instance:aQ Tryz.prog 125 [.pointer none,.int .i64 0,.int .i64 0,.int .i64 0,.int .i64 0,.int .i64 0,.slice none 0 0,.bool false]:={}
instance:aQ Tryz.prog 139 [.slice none 0 0]:={}
instance:gB Tryz.prog 139 158 2 16 (.agg #[.int .i64 0,.bool false]):=⟨⟨by kernel_rfl,by kernel_rfl,rfl,by decide,by decide⟩⟩
instance:aQ Tryz.prog 140 [.slice none 0 0]:={}
instance:aQ Tryz.prog 141 [.slice none 0 0]:={}
instance:aQ Tryz.prog 142 [.slice none 0 0]:={}
instance:aQ Tryz.prog 143 [.slice none 0 0]:={}
instance:aQ Tryz.prog 144 [.slice none 0 0,.int .i64 0]:={}
instance:aQ Tryz.prog 145 [.slice none 0 0,.int .i64 0]:={}
instance:bz Tryz.prog 145 0 0:={}
instance:bz Tryz.prog 145 1 1:={}
instance:mA Tryz.prog 145 [(0,1),(1,1)]:={}
instance:aQ Tryz.prog 146 [.slice none 0 0]:={}
instance:gB Tryz.prog 146 151 3 24 (.agg #[.int .i64 0,.int .i64 0,.int .i64 0]):=⟨⟨by kernel_rfl,by kernel_rfl,rfl,by decide,by decide⟩⟩
instance:aQ Tryz.prog 147 [.slice none 0 0]:={}
instance:gB Tryz.prog 147 153 3 24 (.agg #[.int .i64 0,.int .i64 0,.int .i64 0]):=⟨⟨by kernel_rfl,by kernel_rfl,rfl,by decide,by decide⟩⟩
instance:aQ Tryz.prog 148 [.slice none 0 0,.slice none 0 0]:={}
instance:aQ Tryz.prog 149 [.slice none 0 0,.slice none 0 0]:={}
instance:aQ Tryz.prog 150 [.int .i64 0,.int .i64 0,.int .i64 0]:={}
instance:aQ Tryz.prog 151 [.int .i64 0,.int .i64 0,.int .i64 0]:={}
instance:aQ Tryz.prog 152 [.int .i64 0,.int .i64 0,.int .i64 0]:={}
instance:aQ Tryz.prog 153 [.int .i64 0,.int .i64 0,.int .i64 0]:={}
instance:aQ Tryz.prog 154 [.int .i64 0,.int .i64 0,.slice none 0 0,.slice none 0 0,.int .i64 0,.slice none 0 0]:={}
instance:aQ Tryz.prog 155 [.int .i64 0,.int .i64 0,.slice none 0 0,.slice none 0 0,.int .i64 0,.slice none 0 0]:={}
instance:aQ Tryz.prog 157 [.int .i64 0,.bool false]:={}
instance:aQ Tryz.prog 158 [.int .i64 0,.bool false]:={}
instance:aQ Tryz.prog 161 [.slice none 0 0,.int .i64 0,.int .i64 0]:={}
instance:aQ Tryz.prog 162 [.slice none 0 0,.int .i64 0,.int .i64 0]:={}
instance:aQ Tryz.prog 165 [.int .i64 0,.int .i64 0,.slice none 0 0,.slice none 0 0,.int .i64 0]:={}
instance:eZ Tryz.prog 166 5:={}
instance:jV Tryz.prog 166 5:={}
instance:aQ Tryz.prog 166 [.int .i64 0,.int .i64 0,.slice none 0 0,.slice none 0 0,.int .i64 0]:={}
instance:bz Tryz.prog 166 0 0:={}
instance:bz Tryz.prog 166 1 1:={}
instance:bz Tryz.prog 166 2 2:={}
instance:bz Tryz.prog 166 3 3:={}
instance:bz Tryz.prog 166 4 4:={}
instance:mA Tryz.prog 166 [(0,1),(1,1),(2,1),(3,1),(4,1)]:={}
instance:aQ Tryz.prog 177 [.pointer none]:={}
instance:aQ Tryz.prog 212 [.pointer none,.pointer none,.pointer none,.string ⟨#[]⟩]:={}
instance:aQ Tryz.prog 213 [.pointer none,.pointer none,.pointer none,.string ⟨#[]⟩]:={}
instance:aQ Tryz.prog 214 []:={}
instance:aQ Tryz.prog 215 []:={}
instance:aQ Tryz.prog 216 []:={}
instance:aQ Tryz.prog 217 [.int .u32 0]:={}
instance:kV Tryz.prog 217 .u32:={}
instance:aQ Tryz.prog 218 [.int .u8 0]:={}
instance:kV Tryz.prog 218 .u8:={}
instance:aQ Tryz.prog 219 [.int .u8 0]:={}
instance:kV Tryz.prog 219 .u8:={}
instance:aQ Tryz.prog 221 [.pointer none]:={}
instance:aQ Tryz.prog 222 [.int .i32 0]:={}
instance:kV Tryz.prog 222 .i32:={}
instance:aQ Tryz.prog 223 [.int .i32 0]:={}
instance:kV Tryz.prog 223 .i32:={}
instance:aQ Tryz.prog 224 [.int .u64 0,.int .u64 0,.int .u32 0,.int .u8 0,.int .u8 0,.int .u8 0,.int .u8 0,.nilFunc,.pointer none,.int .i32 0,.int .i32 0]:={}
instance:aQ Tryz.prog 225 [.int .u64 0,.int .u64 0,.int .u32 0,.int .u8 0,.int .u8 0,.int .u8 0,.int .u8 0,.nilFunc,.pointer none,.int .i32 0,.int .i32 0]:={}
instance:aG Tryz.prog 14:={}
instance:aG Tryz.prog 15:={}
instance:aG Tryz.prog 16:={}
instance:aG Tryz.prog 17:={}
instance:aG Tryz.prog 18:={}
instance:aG Tryz.prog 19:={}
instance:aG Tryz.prog 20:={}
instance:aG Tryz.prog 21:={}
instance:aG Tryz.prog 22:={}
instance:aG Tryz.prog 23:={}
instance:aG Tryz.prog 24:={}
instance:aG Tryz.prog 25:={}
instance:aG Tryz.prog 26:={}
instance:aG Tryz.prog 27:={}
instance:aG Tryz.prog 28:={}
instance:aG Tryz.prog 29:={}
instance:aG Tryz.prog 30:={}
instance:aG Tryz.prog 31:={}
instance:aG Tryz.prog 32:={}
instance:aG Tryz.prog 33:={}
instance:aG Tryz.prog 34:={}
instance:aG Tryz.prog 48:={}
instance:aG Tryz.prog 49:={}
instance:aG Tryz.prog 50:={}
instance:aG Tryz.prog 51:={}
instance:aG Tryz.prog 52:={}
instance:aG Tryz.prog 53:={}
instance:aG Tryz.prog 54:={}
instance:aG Tryz.prog 55:={}
instance:aG Tryz.prog 56:={}
instance:aG Tryz.prog 57:={}
instance:aG Tryz.prog 58:={}
instance:aG Tryz.prog 59:={}
instance:aG Tryz.prog 60:={}
instance:aG Tryz.prog 61:={}
instance:aG Tryz.prog 62:={}
instance:aG Tryz.prog 63:={}
instance:aG Tryz.prog 64:={}
instance:aG Tryz.prog 65:={}
instance:aG Tryz.prog 66:={}
instance:aG Tryz.prog 67:={}
instance:aG Tryz.prog 68:={}
instance:aG Tryz.prog 69:={}
instance:aG Tryz.prog 70:={}
instance:aG Tryz.prog 71:={}
instance:aG Tryz.prog 72:={}
instance:aG Tryz.prog 73:={}
instance:aG Tryz.prog 74:={}
instance:aG Tryz.prog 75:={}
instance:aG Tryz.prog 76:={}
instance:aG Tryz.prog 77:={}
instance:aG Tryz.prog 78:={}
instance:aG Tryz.prog 79:={}
instance:aG Tryz.prog 80:={}
instance:aG Tryz.prog 81:={}
instance:aG Tryz.prog 82:={}
instance:aG Tryz.prog 83:={}
instance:aG Tryz.prog 84:={}
instance:aG Tryz.prog 85:={}
instance:aG Tryz.prog 86:={}
instance:aG Tryz.prog 87:={}
instance:aG Tryz.prog 88:={}
instance:aG Tryz.prog 89:={}
instance:aG Tryz.prog 90:={}
instance:aG Tryz.prog 91:={}
instance:aG Tryz.prog 92:={}
instance:aG Tryz.prog 93:={}
instance:aG Tryz.prog 94:={}
instance:aG Tryz.prog 107:={}
instance:aG Tryz.prog 109:={}
instance:aG Tryz.prog 110:={}
instance:aG Tryz.prog 111:={}
instance:aG Tryz.prog 112:={}
instance:aG Tryz.prog 116:={}
instance:aG Tryz.prog 118:={}
instance:aG Tryz.prog 119:={}
instance:aG Tryz.prog 120:={}
instance:aG Tryz.prog 121:={}
instance:aG Tryz.prog 122:={}
instance:aG Tryz.prog 123:={}
instance:aG Tryz.prog 124:={}
instance:aG Tryz.prog 125:={}
instance:aG Tryz.prog 127:={}
instance:aG Tryz.prog 129:={}
instance:aG Tryz.prog 130:={}
instance:aG Tryz.prog 134:={}
instance:aG Tryz.prog 136:={}
instance:aG Tryz.prog 137:={}
instance:aG Tryz.prog 138:={}
instance:aG Tryz.prog 139:={}
instance:aG Tryz.prog 140:={}
instance:aG Tryz.prog 141:={}
instance:aG Tryz.prog 142:={}
instance:aG Tryz.prog 143:={}
instance:aG Tryz.prog 157:={}
instance:aG Tryz.prog 158:={}
instance:aG Tryz.prog 159:={}
instance:aG Tryz.prog 160:={}
instance:aG Tryz.prog 161:={}
instance:aG Tryz.prog 169:={}
instance:aG Tryz.prog 170:={}
instance:aG Tryz.prog 171:={}
instance:aG Tryz.prog 173:={}
instance:aG Tryz.prog 177:={}
instance:aG Tryz.prog 178:={}
instance:aG Tryz.prog 179:={}
instance:aG Tryz.prog 180:={}
instance:aG Tryz.prog 181:={}
instance:aG Tryz.prog 182:={}
instance:aG Tryz.prog 191:={}
instance:aG Tryz.prog 198:={}
instance:aG Tryz.prog 199:={}
instance:aG Tryz.prog 200:={}
instance:aG Tryz.prog 201:={}
instance:aG Tryz.prog 202:={}
instance:aG Tryz.prog 203:={}
instance:aG Tryz.prog 204:={}
instance:aG Tryz.prog 205:={}
instance:aG Tryz.prog 206:={}
instance:aG Tryz.prog 207:={}
instance:aG Tryz.prog 208:={}
instance:aG Tryz.prog 209:={}
instance:aG Tryz.prog 210:={}
instance:aG Tryz.prog 211:={}
instance:aG Tryz.prog 212:={}
instance:aG Tryz.prog 213:={}
instance:aG Tryz.prog 216:={}
instance:aG Tryz.prog 217:={}
instance:aG Tryz.prog 218:={}
instance:aG Tryz.prog 219:={}
instance:aG Tryz.prog 220:={}
instance:aG Tryz.prog 221:={}
instance:aG Tryz.prog 222:={}
instance:aG Tryz.prog 223:={}
instance:aG Tryz.prog 224:={}
instance:aG Tryz.prog 225:={}
instance:aG Tryz.prog 227:={}
instance:aG Tryz.prog 228:={}
instance:aG Tryz.prog 229:={}
instance:aG Tryz.prog 230:={}
instance:aG Tryz.prog 231:={}
end Fl
open Go.RowKit
namespace Fl
open Sx
def nI (n:Int):A:=.v (.int .i64 n)
def bI (b:Bool):A:=.v (.bool b)
def ints (l:List Int):A:=.r 1 (l.map fun n=>[nI n])
def sA (c:Pn.Cs):List A:=[bI c.send,nI c.ch,nI c.v]
def dO (o:Pn.Op):List A:=[nI o.kind,nI o.ch,nI o.n,nI o.v,.r 3 (o.cases.map sA),bI o.de]
def vj (r:Md.ai):List A:=[nI r.code,nI r.cs,nI r.v,bI r.ok,nI r.n]
def eG (g:Gr):List A :=
  [.r 6 (g.ops.map dO),nI g.at_,nI g.place,nI g.status,bI g.token,nI g.call,bI g.aX,nI g.param,nI g.aK,nI g.hold,nI g.t,nI g.jn,nI g.bG,nI g.wi,nI g.dh,
   nI g.res.code,nI g.res.cs,nI g.res.v,bI g.res.ok,nI g.res.n,ints g.order,ints g.aC,ints g.ak,ints g.ah,nI g.k]
def eC (c:Cn):List A:=[nI c.cap,ints c.buf,bI c.closed,nI c.lock,ints c.recv,ints c.send]
def eS (s:Su):List A:=[bI s.live,nI s.g,nI s.ch,nI s.cs,bI s.send,nI s.v,bI s.done]
def eM (m:Mk):List A:=[nI m.g,nI m.op,nI m.call,nI m.jn,nI m.bG,nI m.wi,nI m.dh,nI m.re,nI m.res.code,nI m.res.cs,nI m.res.v,bI m.res.ok,nI m.res.n]
def ay (s:Sx.St):List A :=
 [nI s.dB,nI s.bN,nI s.step,.r 25 (s.gs.map eG),.r 6 (s.an.map eC),.r 7 (s.aB.map eS),.r 1 (s.cache.map fun l=>[ints l]),ints s.middle,nI s.fresh,.r 1 (s.cL.map fun n=>[.v (.int .u16 n)]),nI s.drawn,.r 13 (s.done.map eM)]
theorem kX.snoc {l:List Int} {a:Int}:kX (.r 1 (([] ++ l.map fun n=>[nI n]) ++ [[nI a]])) (ints (l ++ [a])):=by
 have:([] ++ l.map fun n=>[nI n]) ++ [[nI a]]=(l ++ [a]).map fun n=>[nI n]:=by simp
 rw [this];exact .refl
theorem kX.clone {l:List Int}:kX (.r 1 ([] ++ l.map fun n=>[nI n])) (ints l):=by
 rw [List.nil_append];exact .refl
end Fl
open Go.RowKit
namespace Fl
open Sx
theorem at_map {α β:Type} {l:List α} {h:α→β} {k:Nat} {a:α} (e:l[k]?=some a):(l.map h)[k]?=some (h a):=by rw [List.getElem?_map,e];rfl
theorem J.mF {P:Program} {c:Cx} {k:List Item} {f:Fm} {L L1 L2:List ai} (i j n:Nat) {v:Value} {e:TypeId} {sz:Nat} {ll:List (List A)} {b:Nat} {B:TypeId} {cs:List A} [st:kW L j (.box b B (cs.set n (.r sz ll))) L1] [er:mu L1 i L2] (hi:L[i]?=some (.row v e sz ll)) (hj:L[j]?=some (.box b B cs)) (hc:cs[n]?=some (.v v)) (h:J P c k f L2):J P c k f L :=
 J.ve i j n hi hj hc (by rw [st.h,er.h];exact h)
def qO:List A:=vs [.int .i64 0,.int .i64 0,.int .i64 0,.slice none 0 0,.slice none 0 0,.slice none 0 0,.slice none 0 0,.slice none 0 0,.int .i64 0,.slice none 0 0,.int .i64 0,.slice none 0 0]
def kE (l:List Int):A:=.r 1 (l.map fun n=>[.v (.int .u16 n)])
theorem Pw {l:List Int} {k:Int} (h0:0≤k) (h:k < l.length):(l.map fun n=>[A.v (.int .u16 n)])[k.toNat]?=some [.v (.int .u16 (aA l k))]:=by
 have:k.toNat < l.length:=by omega
 refine at_map ?_;unfold aA;rw [List.getElem?_eq_getElem this,List.getD_eq_getElem?_getD,List.getElem?_eq_getElem this];rfl
theorem qP {l:List Int} {k:Int} (h0:0≤k) (h:k < l.length):aA l k∈l:=by
 have:k.toNat < l.length:=by omega
 unfold aA;rw [List.getD_eq_getElem?_getD,List.getElem?_eq_getElem this];exact List.getElem_mem _
theorem lR (s:Sx.St) (g k:Nat) (x:Gr) (hg:g < s.gs.length):Sx.gr (Sx.aa s g x) k=if k=g then x else Sx.gr s k:=by
 unfold Sx.gr Sx.aa;rw [List.getD_eq_getElem?_getD,List.getD_eq_getElem?_getD,List.getElem?_set]
 by_cases h:g=k
 ·subst h;simp [hg]
 ·rw [if_neg h,if_neg (Ne.symm h)]
end Fl
end Go.Proofs.YtofnbflkhgammaaGreat
