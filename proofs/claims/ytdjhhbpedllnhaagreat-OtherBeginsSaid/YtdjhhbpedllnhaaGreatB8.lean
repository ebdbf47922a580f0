/-
  What the laws need, part B8.
  Conditions: none.
-/
import Derived.Test.YtdjhhbpedllnhaaGreatB7
set_option linter.unusedVariables false
set_option linter.unusedSimpArgs false
set_option linter.unnecessarySimpa false
set_option maxHeartbeats 2000000
namespace Go.Proofs.YtdjhhbpedllnhaaGreat
open Go.RowKit
namespace Sx
def aK (s:ah) (g:Nat) (f:Gr→Gr):ah:=ai s g (f (aa s g))
theorem wD {s:ah} {g k:Nat} {f:Gr→Gr} (h:g < s.gs.length):g < (aK s k f).gs.length:=by simpa [aK,ai] using h
theorem EV {s:ah} {g k:Nat} {x:Gr} (h:g < s.gs.length):g < (ai s k x).gs.length:=by simpa [ai] using h
class bJ (g:Nat) (s:ah):Prop where h:g < s.gs.length
class oo (k g:Nat):Prop where h:k≠g
class dB (s:ah) (g:Nat) (x:outParam Gr):Prop where h:aa s g=x
class gQ (i:Int) (s:ah):Prop where
 h0:0≤i
 h1:i < s.aA.length
class jJ (s:ah) (i:Int) (x:outParam Su):Prop where h:su s i=x
section
variable {s:ah} {g k:Nat} {x y:Gr} {f:Gr→Gr} {i j:Int} {d e:Su} {c:Int} {n:Cn}
instance bJ.Bw [h:bJ k s]:bJ k (aK s g f):=⟨wD h.h⟩
instance bJ.gI [h:bJ k s]:bJ k (aV s i d):=⟨h.h⟩
instance bJ.dS [h:bJ k s]:bJ k (aE s c n):=⟨h.h⟩
theorem fR:(aZ s i).gs=s.gs:=by unfold aZ;split <;> rfl
theorem JR:(aZ s i).aA=s.aA:=by unfold aZ;split <;> rfl
instance bJ.drop [h:bJ k s]:bJ k (aZ s i):=⟨by rw [fR];exact h.h⟩
instance (priority:=low) dB.self:dB s g (aa s g):=⟨rfl⟩
theorem EW (h:g < s.gs.length):aa (ai s g x) k=if k=g then x else aa s k:=by
 unfold aa ai;rw [List.getD_eq_getElem?_getD,List.getD_eq_getElem?_getD,List.getElem?_set]
 by_cases e:g=k
 ·subst e;simp [h]
 ·rw [if_neg e,if_neg (Ne.symm e)]
instance dB.X9 [n:oo k g] [h:bJ g s] [i:dB s k x]:dB (aK s g f) k x:=⟨by unfold Sx.aK;rw [EW h.h,if_neg n.h];exact i.h⟩
instance dB.Bw [h:bJ g s] [i:dB s g x]:dB (aK s g f) g (f x):=⟨by unfold Sx.aK;rw [EW h.h,if_pos rfl,i.h]⟩
instance dB.gI [h:dB s g x]:dB (aV s i d) g x:=⟨h.h⟩
instance dB.dS [h:dB s g x]:dB (aE s c n) g x:=⟨h.h⟩
instance dB.drop [h:dB s g x]:dB (aZ s i) g x:=⟨by unfold aa;rw [fR];exact h.h⟩
instance gQ.Bw [h:gQ i s]:gQ i (aK s g f):=⟨h.h0,h.h1⟩
instance gQ.drop [h:gQ i s]:gQ i (aZ s j):=⟨h.h0,by rw [JR];exact h.h1⟩
instance (priority:=low) jJ.self:jJ s i (su s i):=⟨rfl⟩
instance jJ.Bw [h:jJ s i d]:jJ (aK s g f) i d:=⟨h.h⟩
instance jJ.drop [h:jJ s i d]:jJ (aZ s j) i d:=⟨by unfold su;rw [JR];exact h.h⟩
instance jJ.gI [h:gQ i s]:jJ (aV s i d) i d:=⟨by
 have:=h.h0;have:=h.h1;unfold su Sx.aV;simp only [List.getD_eq_getElem?_getD,List.getElem?_set,if_true];rw [if_pos (by omega)];rfl⟩
instance bJ.free [h:bJ k s]:bJ k (free s c):=⟨h.h⟩
instance dB.free [h:dB s g x]:dB (free s c) g x:=⟨h.h⟩
theorem Bx {y:Int}:(dO s g y).gs=s.gs∧(dO s g y).aA=s.aA:=by unfold dO;split <;> exact ⟨rfl,rfl⟩
instance bJ.dO {y:Int} [h:bJ k s]:bJ k (dO s g y):=⟨by rw [Bx.1];exact h.h⟩
instance dB.dO {y:Int} [h:dB s k x]:dB (dO s g y) k x:=⟨by unfold aa;rw [Bx.1];exact h.h⟩
instance gQ.dO {y:Int} [h:gQ i s]:gQ i (dO s g y):=⟨h.h0,by rw [Bx.2];exact h.h1⟩
theorem R9 {a:Nat} (hn:g≠a) (ha:a < s.gs.length):aa (ready s a) g=aa s g:=by unfold ready;rw [EW ha,if_neg hn]
instance bJ.ready {a:Nat} [h:bJ k s]:bJ k (Sx.ready s a):=⟨by unfold Sx.ready;exact EV h.h⟩
instance dB.ready {a:Nat} [n:oo g a] [h:bJ a s] [i:dB s g x]:dB (Sx.ready s a) g x:=⟨(R9 n.h h.h).trans i.h⟩
end
end Sx
namespace Fl
open Sx Go.Proofs.Tryz
theorem Sa {s:ah} {i:Int} (h0:0≤i) (h:i < s.aA.length):(s.aA.map eS)[i.toNat]?=some (eS (su s i)):=by
 unfold su;rw [List.getElem?_map,List.getD_eq_getElem?_getD,List.getElem?_eq_getElem (show i.toNat < s.aA.length by omega)];rfl
theorem JU {b:Nat} {u:U} {s:ah} {g:Nat} (f:Gr→Gr) {G:List (List A)} (hg:g < s.gs.length) (hG:G=(dQ u s).set g (gW (f (aa s g)) (u.sg g) (u.wk g))) (e:(f (aa s g)).status=(aa s g).status∧(f (aa s g)).token=(aa s g).token:=by exact ⟨rfl,rfl⟩) (e1:(f (aa s g)).aq=(aa s g).aq:=by rfl) (e2:(f (aa s g)).au=(aa s g).au:=by rfl) :
  wd b u (aK s g f)=wl b u s G (s.gs.map fun x=>(x.status,x.token)) (eE u s):=Ea (f (aa s g)) hg hG e e1 e2
theorem nC {α:Type} {l:List α} {i:Nat} {a:α} (h:l[i]?=some a):l.set i a=l:=List.ext_getElem? fun j=>by
 rw [List.getElem?_set]
 split
 ·rename_i e;subst e;rw [h];simp [(List.getElem?_eq_some_iff.1 h).1]
 ·rfl
theorem By {s:ah} {k j:Nat} {c:Cn} (hk:k < s.av.length):cn (aE s ((k:Int) + 1) c) ((j:Int) + 1)=if j=k then c else cn s ((j:Int) + 1):=by
 unfold cn aE;rw [show ((k:Int) + 1 - 1).toNat=k by omega,show ((j:Int) + 1 - 1).toNat=j by omega];simp only [List.getD_eq_getElem?_getD,List.getElem?_set]
 by_cases e:k=j
 ·subst e;simp [hk]
 ·rw [if_neg e,if_neg (Ne.symm e)]
def qC (s:ah) (k:Nat) (c:Cn):List (List Int):=((qW s).set (2 * k) c.recv).set (2 * k + 1) c.send
theorem EX {s:ah} {k:Nat} {c:Cn} (hk:k < s.av.length) (h8:k < 8):qW (aE s ((k:Int) + 1) c)=qC s k c:=by
 unfold qC qW;refine List.ext_getElem? fun j=>?_
 by_cases hj:j < 16
 ·simp only [List.getElem?_set,List.getElem?_map,List.getElem?_range hj,Option.map_some,List.length_map,List.length_range,List.length_set,By hk]
  by_cases e1:2 * k + 1=j
  ·subst e1;have h1:(2 * k + 1) / 2=k:=by omega
   have h2:(2 * k + 1) % 2=1:=by omega
   simp [h1,hj]
  ·rw [if_neg e1]
   by_cases e2:2 * k=j
   ·subst e2;simp [hj]
   ·rw [if_neg e2];have h1:j / 2≠k:=by omega
    simp [h1]
 ·rw [List.getElem?_eq_none (by simp;omega),List.getElem?_eq_none (by simp;omega)]
theorem Sb {u:U} {s:ah} {k:Nat} {c:Cn} (hk:k < s.av.length):kC u (aE s ((k:Int) + 1) c)=(kC u s).set k (u.rs k,c.cap.toNat,c.buf):=by
 unfold kC;rw [show (aE s ((k:Int) + 1) c).av.length=s.av.length by simp [aE]];refine (vP hk ?_ fun j hj _=>?_).symm
 ·rw [By hk,if_pos rfl]
 ·rw [By hk,if_neg hj]
theorem Sc {s:ah} {k:Nat} {c:Cn}:((aE s ((k:Int) + 1) c).av.map fun c=>[bI c.closed])=(s.av.map fun c=>[bI c.closed]).set k [bI c.closed]:=by
 unfold aE;rw [show ((k:Int) + 1 - 1).toNat=k by omega];exact List.map_set
theorem Se {s:ah} {k:Nat} {c:Cn}:((aE s ((k:Int) + 1) c).av.map (·.lock))=(s.av.map (·.lock)).set k c.lock:=by
 unfold aE;rw [show ((k:Int) + 1 - 1).toNat=k by omega];exact List.map_set
theorem EY {b:Nat} {u:U} {s:ah} {k:Nat} {c:Cn} (hk:k < s.av.length) (h8:k < 8):wd b u (aE s ((k:Int) + 1) c) =
  .box b 68 (wW u s) ::
  .row u.vG 47 25 (dQ u s) ::
  .row u.vR 106 1 ((List.range s.av.length).map fun i=>[.v (u.rs i)]) ::
  .row u.vC 4 1 ((s.av.map fun c=>[bI c.closed]).set k [bI c.closed]) ::
  .row u.vS 52 7 (s.aA.map eS) ::
  .row u.vM 54 13 (s.done.map eM) ::
  .box u.bD 130 [dW s,nI s.drawn] ::
  aM (tB u.pB (s.gs.map fun x=>(x.status,x.token))) u.TB ::
  aM (tL u.pL ((s.av.map (·.lock)).set k c.lock)) u.TL ::
  aM (tQ u.pQ s.aA.length (qC s k c)) u.TQ ::
  aM (tP u.pP s.dx.toNat s.bX.toNat (dV u s)) u.TP ::
  aM (tR ((kC u s).set k (u.rs k,c.cap.toNat,c.buf))) u.TR :: eE u s:=by
 rw [← Sc,← Se,← EX hk h8,← Sb hk,show s.av.length=(aE s ((k:Int) + 1) c).av.length by simp [aE]];rfl
theorem EZ {s:ah} {k:Nat} (hk:k < s.av.length):(s.av.map fun c=>[bI c.closed]).set k [bI (cn s ((k:Int) + 1)).closed]=(s.av.map fun c=>[bI c.closed]):=nC (by rw [List.getElem?_map,mY hk];rfl)
theorem JV {s:ah} {k:Nat} (hk:k < s.av.length):(s.av.map (·.lock)).set k (cn s ((k:Int) + 1)).lock=s.av.map (·.lock):=nC (by rw [List.getElem?_map,mY hk];rfl)
theorem JX {u:U} {s:ah} {k:Nat} (hk:k < s.av.length):(kC u s).set k (u.rs k,(cn s ((k:Int) + 1)).cap.toNat,(cn s ((k:Int) + 1)).buf)=kC u s:=nC (um hk)
theorem wE {s:ah} {k:Nat} (h8:k < 8):(qW s)[2 * k]?=some (cn s ((k:Int) + 1)).recv∧(qW s)[2 * k + 1]?=some (cn s ((k:Int) + 1)).send:=by
 unfold qW
 constructor
 ·rw [List.getElem?_map,List.getElem?_range (by omega)];simp
 ·rw [List.getElem?_map,List.getElem?_range (by omega)];have h1:(2 * (k:Int) + 1) / 2=k:=by omega
  simp [h1]
theorem JY {s:ah} {k:Nat} (h8:k < 8) {c:Cn} (e1:c.recv=(cn s ((k:Int) + 1)).recv) (e2:c.send=(cn s ((k:Int) + 1)).send):qC s k c=qW s:=by
 unfold qC;rw [e1,nC (wE h8).1,e2,nC (wE h8).2]
theorem JZ {b:Nat} {u:U} {s:ah} {k:Nat} (v:Int) (hk:k < s.av.length) (h8:k < 8):wd b u (aE s ((k:Int) + 1) { cn s ((k:Int) + 1) with lock:=v })=(wd b u s).set 8 (aM (tL u.pL ((s.av.map (·.lock)).set k v)) u.TL):=by
 rw [EY hk h8,JY (c:={ cn s ((k:Int) + 1) with lock:=v }) h8 rfl rfl];dsimp only;rw [EZ hk,JX hk];rfl
theorem E0 {b:Nat} {u:U} {s:ah} {k:Nat} (v:List Int) (hk:k < s.av.length) (h8:k < 8):wd b u (aE s ((k:Int) + 1) { cn s ((k:Int) + 1) with buf:=v })=(wd b u s).set 11 (aM (tR ((kC u s).set k (u.rs k,(cn s ((k:Int) + 1)).cap.toNat,v))) u.TR):=by
 rw [EY hk h8,JY (c:={ cn s ((k:Int) + 1) with buf:=v }) h8 rfl rfl];dsimp only;rw [JV hk,EZ hk];rfl
theorem E3 {b:Nat} {u:U} {s:ah} {k:Nat} (r t:List Int) (hk:k < s.av.length) (h8:k < 8):wd b u (aE s ((k:Int) + 1) { cn s ((k:Int) + 1) with recv:=r,send:=t })=(wd b u s).set 9 (aM (tQ u.pQ s.aA.length (((qW s).set (2 * k) r).set (2 * k + 1) t)) u.TQ):=by
 rw [EY hk h8];dsimp only;rw [EZ hk,JV hk,JX hk];rfl
theorem J0 {b:Nat} {u:U} {s:ah} {i:Int} (x:Su) {S:List (List A)} (hS:S=(s.aA.map eS).set i.toNat (eS x)):wd b u (aV s i x)=(wd b u s).set 4 (.row u.vS 52 7 S):=by
 have e1:(aV s i x).aA.map eS=(s.aA.map eS).set i.toNat (eS x):=by unfold aV;exact List.map_set
 have e2:(aV s i x).aA.length=s.aA.length:=by simp [aV]
 rw [hS,← e1]
 show (_ :: _ :: _ :: _ :: _ :: _ :: _ :: _ :: _ :: aM (tQ u.pQ (aV s i x).aA.length (qW s)) u.TQ :: _ :: _ :: _)=_;rw [e2];rfl
class wF (B:List aj) (u:outParam U) (s:outParam ah):Prop where h:True
instance wF.mk' {b:Nat} {t:TypeId} {u:U} {s:ah} {M:List aj}:wF (.box b t (wW u s) :: M) u s:=⟨trivial⟩
section
variable {P:Program} {c:Cx} {k:List Item} {fm:Fm} {L B:List aj} {mk:List aj→List aj} {ops:Array Oper} {l:List Oper} {u:U} {s:ah} {g:Nat}
theorem J.tl (b:Nat) [hs:oK L b B mk] (A:List aj) (e:A=B) (h:J P c k fm (mk A)):J P c k fm L:=by
 rw [hs.h,← e];exact h
theorem J.J3 {E:List aj}:∀ {B:List aj},J P c k fm E→J P c k fm (E ++ B)
 | [],h=>by simpa using h
 | b :: B,h=>J.drop E.length (by
   have:(E ++ b :: B).eraseIdx E.length=E ++ B:=by rw [List.eraseIdx_append_of_length_le (Nat.le_refl _),Nat.sub_self];rfl
   rw [this];exact J.J3 h)
theorem J.uI (b:Nat) {L0:List aj} [hs:vD L b L0] (h:J P c k fm L0):J P c k fm L:=by
 obtain ⟨B,hB⟩:=hs.h;rw [hB];exact J.J3 h
theorem JO.tl (b:Nat) [hs:oK L b B mk] (A:List aj) (e:A=B) (h:JO P c ops l k fm (mk A)):JO P c ops l k fm L:=by
 rw [hs.h,← e];exact h
theorem aN [h:Sx.bJ g s] {x:Gr} [e:Sx.dB s g x]:(dQ u s)[((g:Int)).toNat]?=some (gW x (u.sg g) (u.wk g)):=by rw [← e.h];exact vV h.h
theorem cL:(0:Int)≤(g:Int):=by omega
theorem cM [h:Sx.bJ g s]:(g:Int) < (dQ u s).length:=by rw [vQ];have:=h.h;omega
theorem oq {i:Int} [h:Sx.gQ i s] {d:Su} [e:Sx.jJ s i d]:(s.aA.map eS)[i.toNat]?=some (eS d):=by rw [← e.h];exact Sa h.h0 h.h1
theorem mF {i:Int} {s:ah} [h:Sx.gQ i s]:0≤i:=h.h0
theorem mG {i:Int} [h:Sx.gQ i s]:i < (s.aA.map eS).length:=by rw [List.length_map];exact h.h1
theorem J.cH (b g:Nat) (f:Gr→Gr) {x:Gr} [hs:oK L b B mk] [hw:wF B u s] [hg:Sx.bJ g s] [hx:Sx.dB s g x] (hB:B=wl b u s ((dQ u s).set g (gW (f x) (u.sg g) (u.wk g))) (s.gs.map fun x=>(x.status,x.token)) (eE u s)) (h:J P c k fm (mk (wd b u (aK s g f)))) (e:(f x).status=x.status∧(f x).token=x.token:=by exact ⟨rfl,rfl⟩) (e1:(f x).aq=x.aq:=by rfl) (e2:(f x).au=x.au:=by rfl):J P c k fm L:=by
 have ex:=hx.h;subst ex;exact J.tl b (wd b u (aK s g f)) (by rw [hB];exact JU f hg.h rfl e e1 e2) h
theorem JO.cH (b g:Nat) (f:Gr→Gr) {x:Gr} [hs:oK L b B mk] [hw:wF B u s] [hg:Sx.bJ g s] [hx:Sx.dB s g x] (hB:B=wl b u s ((dQ u s).set g (gW (f x) (u.sg g) (u.wk g))) (s.gs.map fun x=>(x.status,x.token)) (eE u s)) (h:JO P c ops l k fm (mk (wd b u (aK s g f)))) (e:(f x).status=x.status∧(f x).token=x.token:=by exact ⟨rfl,rfl⟩) (e1:(f x).aq=x.aq:=by rfl) (e2:(f x).au=x.au:=by rfl):JO P c ops l k fm L:=by
 have ex:=hx.h;subst ex;exact JO.tl b (wd b u (aK s g f)) (by rw [hB];exact JU f hg.h rfl e e1 e2) h
theorem J.wG (b:Nat) (i:Int) (x:Su) [hs:oK L b B mk] [hw:wF B u s] (hB:B=(wd b u s).set 4 (.row u.vS 52 7 ((s.aA.map eS).set i.toNat (eS x)))) (h:J P c k fm (mk (wd b u (aV s i x)))):J P c k fm L :=
 J.tl b (wd b u (aV s i x)) (by rw [hB];exact J0 x rfl) h
theorem JO.wG (b:Nat) (i:Int) (x:Su) [hs:oK L b B mk] [hw:wF B u s] (hB:B=(wd b u s).set 4 (.row u.vS 52 7 ((s.aA.map eS).set i.toNat (eS x)))) (h:JO P c ops l k fm (mk (wd b u (aV s i x)))):JO P c ops l k fm L :=
 JO.tl b (wd b u (aV s i x)) (by rw [hB];exact J0 x rfl) h
end
section
variable (b:Nat) (u:U) (s:ah)
theorem J4 (k:Nat) (g:Nat) (hk:k < s.av.length) (h8:k < 8) :
  an prog 108 [.c (.v u.pL),.c (nI ((k:Int) + 1 - 1)),.c (nI g)] (wd b u s) (fun _:Unit=>(.c (bI (Sx.tryLock s g ((k:Int) + 1)).2),wd b u (Sx.tryLock s g ((k:Int) + 1)).1)):=by
 have h:=Hs u.pL (s.av.map (·.lock)) u.TL ((k:Int) + 1 - 1) g;have hl:(s.av.map (·.lock)).getD ((k:Int) + 1 - 1).toNat 0=(cn s ((k:Int) + 1)).lock:=by
  rw [show ((k:Int) + 1 - 1).toNat=k by omega,List.getD_eq_getElem?_getD,List.getElem?_map,mY hk];rfl
 have h0:Lt.has (s.av.map (·.lock)) ((k:Int) + 1 - 1)=true:=by unfold Lt.has;simp;omega
 unfold Sx.tryLock
 by_cases c:(cn s ((k:Int) + 1)).lock=-1
 ·have e1:Lt.rm (s.av.map (·.lock)) ((k:Int) + 1 - 1) g=true:=by unfold Lt.rm;rw [hl,h0,c];simp
  have e2:Lt.ru (s.av.map (·.lock)) ((k:Int) + 1 - 1) g=(s.av.map (·.lock)).set k (g:Int):=by unfold Lt.ru;rw [if_pos e1,show ((k:Int) + 1 - 1).toNat=k by omega]
  rw [e1,e2] at h;rw [if_pos c];exact an.at_ 8 rfl h fun _=>JZ (g:Int) hk h8
 ·have e1:Lt.rm (s.av.map (·.lock)) ((k:Int) + 1 - 1) g=false:=by unfold Lt.rm;rw [hl,h0];simp [c]
  have e2:Lt.ru (s.av.map (·.lock)) ((k:Int) + 1 - 1) g=s.av.map (·.lock):=by unfold Lt.ru;rw [e1];rfl
  rw [e1,e2] at h;rw [if_neg c];exact an.at_ 8 rfl h fun _=>rfl
theorem E4 (k:Nat) (g:Nat) (hk:k < s.av.length) (h8:k < 8) (hg:(cn s ((k:Int) + 1)).lock=g) :
  an prog 115 [.c (.v u.pL),.c (nI ((k:Int) + 1 - 1)),.c (nI g)] (wd b u s) (fun _:Unit=>(.c (bI true),wd b u (Sx.free s ((k:Int) + 1)))):=by
 have h:=NX u.pL (s.av.map (·.lock)) u.TL ((k:Int) + 1 - 1) g;have hl:(s.av.map (·.lock)).getD ((k:Int) + 1 - 1).toNat 0=(cn s ((k:Int) + 1)).lock:=by
  rw [show ((k:Int) + 1 - 1).toNat=k by omega,List.getD_eq_getElem?_getD,List.getElem?_map,mY hk];rfl
 have h0:Lt.has (s.av.map (·.lock)) ((k:Int) + 1 - 1)=true:=by unfold Lt.has;simp;omega
 have e1:Lt.vE (s.av.map (·.lock)) ((k:Int) + 1 - 1) g=true:=by unfold Lt.vE;rw [hl,h0,hg];simp
 have e2:Lt.yc (s.av.map (·.lock)) ((k:Int) + 1 - 1) g=(s.av.map (·.lock)).set k (-1):=by unfold Lt.yc;rw [if_pos e1,show ((k:Int) + 1 - 1).toNat=k by omega]
 rw [e1,e2] at h;exact an.at_ 8 rfl h fun _=>JZ (-1) hk h8
theorem wH (g:Nat) (x:Gr) (hg:g < s.gs.length) (e:{ x with status:=(aa s g).status,token:=(aa s g).token }=aa s g):wd b u (ai s g x)=(wd b u s).set 7 (aM (tB u.pB ((s.gs.map fun x=>(x.status,x.token)).set g (x.status,x.token))) u.TB):=by
 have hG:dQ u (ai s g x)=dQ u s:=by
  rw [← D8 (u:=u) (x:=x) hg];refine nC ?_;rw [D7 hg,← e];rfl
 have hR:eE u (ai s g x)=eE u s:=Ip hg (by rw [← e]) (by rw [← e])
 show wl b u s (dQ u (ai s g x)) ((ai s g x).gs.map fun x=>(x.status,x.token)) (eE u (ai s g x))=_;rw [hG,hR,Io hg];rfl
theorem Bz {g:Nat} (hg:g < s.gs.length):(s.gs.map fun x=>(x.status,x.token))[g]?=some ((aa s g).status,(aa s g).token):=by
 rw [List.getElem?_map];unfold aa;rw [List.getD_eq_getElem?_getD,List.getElem?_eq_getElem hg];rfl
theorem Sg (g:Nat) (hg:g < s.gs.length) :
  an prog 116 [.c (.v u.pB),.c (nI g)] (wd b u s) (fun _:Unit=>(.c (bI (Bc.DO (s.gs.map fun x=>(x.status,x.token)) g)),wd b u (Sx.gi s g))):=by
 have h:=Ox u.pB (s.gs.map fun x=>(x.status,x.token)) u.TB g;have hm:Bc.mem (s.gs.map fun x=>(x.status,x.token)) (g:Int)=((aa s g).status,(aa s g).token):=by
  unfold Bc.mem;rw [Int.toNat_natCast,List.getD_eq_getElem?_getD,Bz s hg];rfl
 refine an.at_ 7 rfl h fun _=>?_
 have hs:Bc.status (s.gs.map fun x=>(x.status,x.token)) (g:Int)=(aa s g).status:=Eb hg;unfold Sx.gi Bc.DP;rw [hs,hm,Int.toNat_natCast]
 by_cases c:(aa s g).status=0
 ·rw [if_pos c]
  cases t:(aa s g).token with
  | true =>
   rw [if_pos ⟨c,rfl⟩,if_pos rfl,if_pos c,wH b u s g { aa s g with token:=false } hg rfl,← c]
  | false =>
   rw [if_neg (by simp),if_pos c,if_neg (by simp),wH b u s g { aa s g with status:=1 } hg rfl,t]
 ·rw [if_neg c,if_neg (by simp [c]),if_neg c,wH b u s g (aa s g) hg rfl,nC (Bz s hg)]
theorem uJ:(qW s).length=16:=by simp [qW]
theorem E5 {j:Nat} (hj:j < 16):(qW s)[j]?=some (if j % 2=0 then (cn s ((j / 2:Nat) + 1)).recv else (cn s ((j / 2:Nat) + 1)).send):=by
 unfold qW;rw [List.getElem?_map,List.getElem?_range hj];rfl
variable {s}
theorem BA (Q:Qs s) {j:Nat} {l:List Int} (hl:(qW s)[j]?=some l) {i:Int} (hi:i∈l):j / 2 < s.av.length∧(su s i).ch=((j / 2:Nat):Int) + 1∧((su s i).send=true↔j % 2=1)∧0≤i∧i < s.aA.length:=by
 have hj:j < 16:=by have:=(List.getElem?_eq_some_iff.1 hl).1;rwa [uJ] at this
 rw [E5 s hj] at hl
 cases hl
 by_cases hc:j / 2 < s.av.length
 ·by_cases e:j % 2=0
  ·rw [if_pos e] at hi;have h:=Q.q (j / 2) hc i (.inl hi);refine ⟨hc,h.2.2.1,⟨fun hs=>absurd hi (h.2.2.2.2 hs),fun e2=>by omega⟩,h.1,h.2.1⟩
  ·rw [if_neg e] at hi;have h:=Q.q (j / 2) hc i (.inr hi);refine ⟨hc,h.2.2.1,⟨fun hs=>by omega,fun e2=>?_⟩,h.1,h.2.1⟩
   cases hs:(su s i).send with
   | true=>rfl
   | false=>exact absurd hi (h.2.2.2.1 hs)
 ·have e:cn s ((j / 2:Nat) + 1)=oF:=by
   unfold cn;rw [List.getD_eq_getElem?_getD,List.getElem?_eq_none (by omega)];rfl
  rw [e] at hi
  split at hi <;> simp [oF] at hi
theorem Sh (Q:Qs s) {j j':Nat} {l l':List Int} (hl:(qW s)[j]?=some l) (Am:(qW s)[j']?=some l') {i:Int} (hi:i∈l) (uU:i∈l'):j=j':=by
 have h1:=BA Q hl hi;have h2:=BA Q Am uU;have e1:(j / 2:Nat)=j' / 2:=by have:=h1.2.1.symm.trans h2.2.1;omega
 have e2:j % 2=1↔j' % 2=1:=h1.2.2.1.symm.trans h2.2.2.1;omega
theorem BB {l:List Int} {i:Int} (h:i∉l):gO l i=l:=List.filter_eq_self.2 fun y hy=>by simp;intro e;exact h (e ▸ hy)
theorem Sk (Q:Qs s) (i:Int):(Qu.drop (qW s) i).1=(qW s).map fun l=>gO l i:=by
 unfold Qu.drop
 cases hl:Qu.loc (qW s) i with
 | none =>
  rw [Qu.p5] at hl;refine (List.map_id (qW s)).symm.trans (List.map_congr_left fun l hm=>(BB fun hi=>hl (List.mem_flatten.2 ⟨l,hm,hi⟩)).symm)
 | some k =>
  obtain ⟨h1,h2⟩:=Qu.vI hl
  show (qW s).set k (((qW s).getD k []).filter (fun y=>y != i))=_;rw [List.getD_eq_getElem?_getD,List.getElem?_eq_getElem h1,Option.getD_some] at h2 ⊢;refine List.ext_getElem? fun j=>?_
  rw [List.getElem?_set,List.getElem?_map]
  by_cases e:k=j
  ·subst e;rw [if_pos rfl,if_pos h1,List.getElem?_eq_getElem h1];rfl
  ·rw [if_neg e]
   cases hj:(qW s)[j]? with
   | none=>rfl
   | some l=>rw [Option.map_some,BB fun hi=>e (Sh Q (List.getElem?_eq_getElem h1) hj h2 hi)]
theorem qo {ch:Int} (h:aT s ch=true):∃ k:Nat,ch=(k:Int) + 1∧k < s.av.length:=by
 unfold aT at h;simp only [decide_eq_true_eq] at h;exact ⟨(ch - 1).toNat,by omega,by omega⟩
theorem Sl (Q:Qs s) (i:Int):(Qu.drop (qW s) i).1=qW (aZ s i):=by
 rw [Sk Q i];unfold aZ
 split
 ·rename_i hm;obtain ⟨k,hk,bF⟩:=qo hm;have c8:=Q.c8;rw [hk,EX bF (by omega)];unfold qC;refine List.ext_getElem? fun j=>?_
  rw [List.getElem?_map]
  cases hj:(qW s)[j]? with
  | none =>
   rw [Option.map_none,eq_comm,List.getElem?_eq_none];simpa using List.getElem?_eq_none_iff.1 hj
  | some l =>
   have wI:j < 16:=by have:=(List.getElem?_eq_some_iff.1 hj).1;rwa [uJ] at this
   rw [Option.map_some,List.getElem?_set,List.getElem?_set,List.length_set,uJ]
   by_cases e1:2 * k + 1=j
   ·subst e1;rw [if_pos rfl,if_pos wI];rw [(wE (s:=s) (k:=k) (by omega)).2] at hj
    cases hj;rfl
   ·rw [if_neg e1]
    by_cases e2:2 * k=j
    ·subst e2;rw [if_pos rfl,if_pos wI];rw [(wE (s:=s) (k:=k) (by omega)).1] at hj
     cases hj;rfl
    ·rw [if_neg e2,hj,BB];intro hi;have:=(BA Q hj hi).2.1;omega
 ·rename_i hm;refine (List.map_congr_left fun l hl=>?_).trans (List.map_id _);obtain ⟨j,hj⟩:=List.getElem?_of_mem hl;refine BB fun hi=>hm ?_
  have:=BA Q hj hi;unfold aT;rw [this.2.1];simp only [decide_eq_true_eq];omega
theorem BC (Q:Qs s) (i:Int) :
  ∃ o,an prog 123 [.c (.v u.pQ),.c (nI i)] (wd b u s) (fun _:Unit=>(.c (bI o),wd b u (aZ s i))):=by
 have h:=Oo u.pQ s.aA.length (qW s) u.TQ i;refine ⟨_,an.at_ 9 rfl h fun _=>?_⟩;rw [Sl Q i];unfold aZ
 split
 ·rename_i hm;obtain ⟨k,hk,bF⟩:=qo hm;have c8:=Q.c8;rw [hk,E3 _ _ bF (by omega),EX bF (by omega)];rfl
 ·rfl
theorem Sm (Q:Qs s) {k:Nat} (hk:k < s.av.length) (x:Int) (h0:0≤x) (h1:x < s.aA.length) (hn:∀ c,x∉(cn s c).recv∧x∉(cn s c).send) :
  an prog 109 [.c (.v u.pQ),.c (nI (2 * ((k:Int) + 1) - 1)),.c (nI x)] (wd b u s) (fun _:Unit=>(.c (bI true),wd b u (aE s ((k:Int) + 1) { cn s ((k:Int) + 1) with send:=(cn s ((k:Int) + 1)).send ++ [x] }))):=by
 have c8:=Q.c8;have h:=AB u.pQ s.aA.length (qW s) u.TQ (2 * ((k:Int) + 1) - 1) x;have e:Qu.push s.aA.length (qW s) (2 * ((k:Int) + 1) - 1) x=(((qW s).set (2 * k) (cn s ((k:Int) + 1)).recv).set (2 * k + 1) ((cn s ((k:Int) + 1)).send ++ [x]),true):=by
  have hl:Qu.loc (qW s) x=none:=by
   rw [Qu.p5];intro hm;obtain ⟨l,hl,hx⟩:=List.mem_flatten.1 hm;obtain ⟨j,hj⟩:=List.getElem?_of_mem hl;have wI:j < 16:=by have:=(List.getElem?_eq_some_iff.1 hj).1;rwa [uJ] at this
   rw [E5 s wI] at hj
   cases hj
   split at hx
   ·exact (hn _).1 hx
   ·exact (hn _).2 hx
  have hr:=Ed (s:=s) (k:=k) (by omega);have E6:Qu.line (qW s) (2 * ((k:Int) + 1) - 1)=true:=by unfold Qu.line;rw [uJ];simp only [Bool.and_eq_true,decide_eq_true_eq];omega
  unfold Qu.push;rw [E6,hl,if_pos (by simp;omega),hr,nC (wE (by omega)).1,show (2 * ((k:Int) + 1) - 1).toNat=2 * k + 1 by omega]
 rw [e] at h;exact an.at_ 9 rfl h fun _=>E3 _ _ hk (by omega)
theorem Sn (Q:Qs s) {k:Nat} (hk:k < s.av.length) (x:Int) (h0:0≤x) (h1:x < s.aA.length) (hn:∀ c,x∉(cn s c).recv∧x∉(cn s c).send) :
  an prog 109 [.c (.v u.pQ),.c (nI (2 * ((k:Int) + 1) - 2)),.c (nI x)] (wd b u s) (fun _:Unit=>(.c (bI true),wd b u (aE s ((k:Int) + 1) { cn s ((k:Int) + 1) with recv:=(cn s ((k:Int) + 1)).recv ++ [x] }))):=by
 have c8:=Q.c8;have h:=AB u.pQ s.aA.length (qW s) u.TQ (2 * ((k:Int) + 1) - 2) x;have e:Qu.push s.aA.length (qW s) (2 * ((k:Int) + 1) - 2) x=(((qW s).set (2 * k) ((cn s ((k:Int) + 1)).recv ++ [x])).set (2 * k + 1) (cn s ((k:Int) + 1)).send,true):=by
  have hl:Qu.loc (qW s) x=none:=by
   rw [Qu.p5];intro hm;obtain ⟨l,hl,hx⟩:=List.mem_flatten.1 hm;obtain ⟨j,hj⟩:=List.getElem?_of_mem hl;have wI:j < 16:=by have:=(List.getElem?_eq_some_iff.1 hj).1;rwa [uJ] at this
   rw [E5 s wI] at hj
   cases hj
   split at hx
   ·exact (hn _).1 hx
   ·exact (hn _).2 hx
  have hr:=Ec (s:=s) (k:=k) (by omega);have E6:Qu.line (qW s) (2 * ((k:Int) + 1) - 2)=true:=by unfold Qu.line;rw [uJ];simp only [Bool.and_eq_true,decide_eq_true_eq];omega
  have hs:((qW s).set (2 * k) ((cn s ((k:Int) + 1)).recv ++ [x]))[2 * k + 1]?=some (cn s ((k:Int) + 1)).send:=by
   rw [List.getElem?_set_ne (by omega)];exact (wE (by omega)).2
  unfold Qu.push;rw [E6,hl,if_pos (by simp;omega),hr,nC hs,show (2 * ((k:Int) + 1) - 2).toNat=2 * k by omega]
 rw [e] at h;exact an.at_ 9 rfl h fun _=>E3 _ _ hk (by omega)
end
end Fl
open Go.RowKit
namespace Fl
open Sx Go.Proofs.Tryz
set_option maxRecDepth 100000
theorem tR.app {l1 l2:List (Value × Nat × List Int)} {w:World} {S1 S2:List Nat} (h1:tR l1 w S1) (h2:tR l2 w S2) (ha:∀ x∈S1,x∉S2):tR (l1 ++ l2) w (S1 ++ S2):=by
 obtain ⟨A,a1,rfl,a3,a4⟩:=h1;obtain ⟨B,b1,rfl,b3,b4⟩:=h2;refine ⟨A ++ B,by simp [a1,b1],by simp,List.pairwise_append.2 ⟨a3,b3,fun X hX Y hY x hx hy=>ha x (List.mem_flatten.2 ⟨X,hX,hx⟩) (List.mem_flatten.2 ⟨Y,hY,hy⟩)⟩,fun i x Si hi hs=>?_⟩
 by_cases c:i < l1.length
 ·rw [List.getElem?_append_left c] at hi;rw [List.getElem?_append_left (by omega)] at hs;exact a4 i x Si hi hs
 ·rw [List.getElem?_append_right (by omega)] at hi;rw [List.getElem?_append_right (by omega),a1] at hs;exact b4 _ x Si hi hs
section
variable {P:Program} {c:Cx} {k:List Item} {f:Fm} {L:List aj}
theorem J.rings {l1 l2:List (Value × Nat × List Int)} {S1 S2:List Nat} (h:J P c k f (aM (tR (l1 ++ l2)) (S1 ++ S2) :: L)):J P c k f (aM (tR l1) S1 :: aM (tR l2) S2 :: L):=⟨fun a w s=>by
 have hf:bu (aM (tR (l1 ++ l2)) (S1 ++ S2) :: L)=bu (aM (tR l1) S1 :: aM (tR l2) S2 :: L):=by simp [bu,aM,aj.cA]
 have ho:bM c (aM (tR (l1 ++ l2)) (S1 ++ S2) :: L)=bM c (aM (tR l1) S1 :: aM (tR l2) S2 :: L):=by funext x;unfold bM;rw [hf]
 have ap:=List.pairwise_cons.1 s.ap;have J5:=List.pairwise_cons.1 ap.2;have q1:=(aM.holds tR.ok).1 (s.res _ (List.mem_cons_self ..));have q2:=(aM.holds tR.ok).1 (s.res _ (List.mem_cons_of_mem _ (List.mem_cons_self ..)));have hd:∀ x∈S1,x∉S2:=fun x hx hy=>ap.1 _ (List.mem_cons_self ..) x (by simpa [aM,aj.cA] using hx) (by simpa [aM,aj.cA] using hy)
 refine h.go a w ⟨s.kp,s.size,s.jO,fun q hq=>?_,fun x hx=>s.fL x (hf ▸ hx),List.pairwise_cons.2 ⟨fun q hq x hx hy=>?_,J5.2⟩,fun t d ht=>by rw [ho];exact s.fr t d ht⟩
 ·rw [ho];rcases List.mem_cons.1 hq with rfl | hq
  ·exact (aM.holds tR.ok).2 (q1.app q2 hd)
  ·exact s.res q (List.mem_cons_of_mem _ (List.mem_cons_of_mem _ hq))
 ·rcases List.mem_append.1 (show x∈S1 ++ S2 by simpa [aM,aj.cA] using hx) with hx | hx
  ·exact ap.1 q (List.mem_cons_of_mem _ hq) x (by simpa [aM,aj.cA] using hx) hy
  ·exact J5.1 q hq x (by simpa [aM,aj.cA] using hx) hy⟩
end
end Fl
end Go.Proofs.YtdjhhbpedllnhaaGreat
