/-
  What the laws need, part A23.
  Conditions: none.
-/
import Derived.Test.YtdjhhbpedllnhaaGreatA22
set_option linter.unusedVariables false
set_option linter.unusedSimpArgs false
set_option linter.unnecessarySimpa false
set_option maxHeartbeats 2000000
namespace Go.Proofs.YtdjhhbpedllnhaaGreat
open Go.RowKit
namespace Sx
def aS (s:ah) (g:Nat) (f:Gr→Gr):ah:=ai s g (f (aa s g))
theorem xA {s:ah} {g k:Nat} {f:Gr→Gr} (h:g < s.gs.length):g < (aS s k f).gs.length:=by simpa [aS,ai] using h
theorem Gu {s:ah} {g k:Nat} {x:Gr} (h:g < s.gs.length):g < (ai s k x).gs.length:=by simpa [ai] using h
class bt (g:Nat) (s:ah):Prop where h:g < s.gs.length
class lQ (k g:Nat):Prop where h:k≠g
class dD (s:ah) (g:Nat) (x:outParam Gr):Prop where h:aa s g=x
class gI (i:Int) (s:ah):Prop where
 h0:0≤i
 h1:i < s.aB.length
class jX (s:ah) (i:Int) (x:outParam Su):Prop where h:su s i=x
section
variable {s:ah} {g k:Nat} {x y:Gr} {f:Gr→Gr} {i j:Int} {d e:Su} {c:Int} {n:Cn}
instance bt.Cv [h:bt k s]:bt k (aS s g f):=⟨xA h.h⟩
instance bt.hJ [h:bt k s]:bt k (aN s i d):=⟨h.h⟩
instance bt.dQ [h:bt k s]:bt k (aA s c n):=⟨h.h⟩
theorem gf:(aT s i).gs=s.gs:=by unfold aT;split <;> rfl
theorem MW:(aT s i).aB=s.aB:=by unfold aT;split <;> rfl
instance bt.drop [h:bt k s]:bt k (aT s i):=⟨by rw [gf];exact h.h⟩
instance (priority:=low) dD.self:dD s g (aa s g):=⟨rfl⟩
theorem Gv (h:g < s.gs.length):aa (ai s g x) k=if k=g then x else aa s k:=by
 unfold aa ai;rw [List.getD_eq_getElem?_getD,List.getD_eq_getElem?_getD,List.getElem?_set]
 by_cases e:g=k
 ·subst e;simp [h]
 ·rw [if_neg e,if_neg (Ne.symm e)]
instance dD.abV [n:lQ k g] [h:bt g s] [i:dD s k x]:dD (aS s g f) k x:=⟨by unfold Sx.aS;rw [Gv h.h,if_neg n.h];exact i.h⟩
instance dD.Cv [h:bt g s] [i:dD s g x]:dD (aS s g f) g (f x):=⟨by unfold Sx.aS;rw [Gv h.h,if_pos rfl,i.h]⟩
instance dD.hJ [h:dD s g x]:dD (aN s i d) g x:=⟨h.h⟩
instance dD.dQ [h:dD s g x]:dD (aA s c n) g x:=⟨h.h⟩
instance dD.drop [h:dD s g x]:dD (aT s i) g x:=⟨by unfold aa;rw [gf];exact h.h⟩
instance gI.Cv [h:gI i s]:gI i (aS s g f):=⟨h.h0,h.h1⟩
instance gI.drop [h:gI i s]:gI i (aT s j):=⟨h.h0,by rw [MW];exact h.h1⟩
instance (priority:=low) jX.self:jX s i (su s i):=⟨rfl⟩
instance jX.Cv [h:jX s i d]:jX (aS s g f) i d:=⟨h.h⟩
instance jX.drop [h:jX s i d]:jX (aT s j) i d:=⟨by unfold su;rw [MW];exact h.h⟩
instance bt.free [h:bt k s]:bt k (free s c):=⟨h.h⟩
instance dD.free [h:dD s g x]:dD (free s c) g x:=⟨h.h⟩
theorem MX {y:Int}:(eE s g y).gs=s.gs∧(eE s g y).aB=s.aB:=by unfold eE;split <;> exact ⟨rfl,rfl⟩
instance bt.eE {y:Int} [h:bt k s]:bt k (eE s g y):=⟨by rw [MX.1];exact h.h⟩
instance dD.eE {y:Int} [h:dD s k x]:dD (eE s g y) k x:=⟨by unfold aa;rw [MX.1];exact h.h⟩
theorem WL {a:Nat} (hn:g≠a) (ha:a < s.gs.length):aa (ready s a) g=aa s g:=by unfold ready;rw [Gv ha,if_neg hn]
instance bt.ready {a:Nat} [h:bt k s]:bt k (Sx.ready s a):=⟨by unfold Sx.ready;exact Gu h.h⟩
instance dD.ready {a:Nat} [n:lQ g a] [h:bt a s] [i:dD s g x]:dD (Sx.ready s a) g x:=⟨(WL n.h h.h).trans i.h⟩
end
end Sx
namespace Fl
open Sx Go.Proofs.Tryz
section
variable {P:Program} {F:FuncId} {ds:List D} {L Ll Lr:List an}
theorem av.frame {ι:Type} {dd:ι→D} {M L':ι→List an} (Lr:List an) (hC:av P F ds Ll (fun x=>(dd x,M x))) (hL:(Ll ++ Lr).Perm L) (tg:∀ x,(L' x).Perm (M x ++ Lr)):av P F ds L (fun x=>(dd x,L' x)):=⟨fun ok e xs hd hr ha hf=>by
 have WM:fq (Ll ++ Lr):=(hL.pairwise_iff (fun {x y} mF z hz rC=>mF z rC hz)).2 ha;have oT:=List.pairwise_append.1 WM;have hm:∀ x,x∈bq L↔x∈bq Ll∨x∈bq Lr:=fun x=>by rw [← rN hL x,oS]
 have gQ:∀ r∈Ll,r∈L:=fun r h=>hL.mem_iff.1 (List.mem_append_left _ h)
 have MY:∀ r∈Lr,r∈L:=fun r h=>hL.mem_iff.1 (List.mem_append_right _ h)
 have rG:∀ x,x∈bq Ll→x∉bq Lr:=fun x hx fN=>by
  obtain ⟨q,hq,h1⟩:=dz.1 hx;obtain ⟨r,hr,h2⟩:=dz.1 fN;exact oT.2.2 q hq r hr x h1 h2
 have cJ:∀ x,x∈bq Lr→x < e.heap.size:=fun x hx=>by
  obtain ⟨r,h1,h2⟩:=dz.1 hx;exact (hr r (MY r h1)).lt x h2
 refine Calls.mono (hC.go ok e xs hd (fun r h=>hr r (gQ r h)) oT.1 (fun x hx=>hf x ((hm x).2 (.inl hx)))) ?_
 rintro en w' ⟨i,x,rfl,kp,g1,g2,g3,g4⟩
 have mV:∀ y,y∈bq (L' i)↔y∈bq (M i)∨y∈bq Lr:=fun y=>by rw [rN (tg i) y,oS]
 have j7:∀ g,g < w'.heap.size→mJ ok e Ll (M i) g→mJ ok e L (L' i) g:=fun g _ hg=>by
  obtain ⟨hg,hn⟩:=hg;refine ⟨?_,fun hx=>?_⟩
  ·rcases hg with hg | hg | hg
   ·exact .inl hg
   ·exact .inr (.inl ((hm g).2 (.inl hg)))
   ·exact .inr (.inr hg)
  ·rcases (mV g).1 hx with hx | hx
   ·exact hn hx
   ·rcases hg with hg | hg | hg
    ·exact hf g ((hm g).2 (.inr hx)) hg
    ·exact rG g hg hx
    ·have:=cJ g hx;omega
 have m1:Mon (mJ ok e Ll (M i)) (mJ ok e L (L' i)) w' w':=⟨Nat.le_refl _,fun g hg ho=>⟨j7 g hg ho,rfl⟩⟩
 have m2:Mon ok (mJ ok e L (L' i)) e w':=Mon.lV kp fun g hg ho=>⟨⟨.inl ho,fun hx=>by
  rcases (mV g).1 hx with hx | hx
  ·rcases g1 g hx with h | h
   ·exact hf g ((hm g).2 (.inl h)) ho
   ·omega
  ·exact hf g ((hm g).2 (.inr hx)) ho⟩,fun hx=>hf g ((hm g).2 (.inl hx)) ho⟩
 refine ⟨i,x,rfl,kp.mono (fun y hy=>.inl ((hm y).2 (.inl hy))),fun y hy=>?_,?_,fun r uJ=>?_,RD.cY m1 _ _ g4⟩
 ·rcases (mV y).1 hy with hy | hy
  ·rcases g1 y hy with h | h
   ·exact .inl ((hm y).2 (.inl h))
   ·exact .inr h
  ·exact .inl ((hm y).2 (.inr hy))
 ·refine ((tg i).pairwise_iff (fun {x y} mF z hz rC=>mF z rC hz)).2 ?_;refine List.pairwise_append.2 ⟨g2,oT.2.1,fun q hq r hr x hx fN=>?_⟩;have rH:x∈bq Lr:=dz.2 ⟨r,hr,fN⟩;rcases g1 x (dz.2 ⟨q,hq,hx⟩) with h | h
  ·exact rG x h rH
  ·have:=cJ x rH;omega
 ·rcases List.mem_append.1 ((tg i).mem_iff.1 uJ) with h | h
  ·exact (g3 r h).cY (aq.refl [] w') m1 (by simp)
  ·exact (hr r (MY r h)).cY kp m2 (fun x hx fN=>rG x fN (dz.2 ⟨r,h,hx⟩))⟩
theorem av.at_ (j:Nat) {r:an} {ι:Type} {dd:ι→D} {r':ι→an} {L':ι→List an} (hj:L[j]?=some r) (hC:av P F ds [r] (fun x=>(dd x,[r' x]))) (tg:∀ x,L' x=L.set j (r' x)):av P F ds L (fun x=>(dd x,L' x)) :=
 av.frame (L.eraseIdx j) hC (sZ L j hj) fun x=>by rw [tg x];exact set_perm hj
end
class vK {ι:Type} (L Ll:List an) (M:ι→List an) (L':outParam (ι→List an)):Prop where h:∃ E,L=E ++ Ll∧L'=fun x=>E ++ M x
instance vK.succ {ι:Type} {q:an} {L Ll:List an} {M L':ι→List an} [h:vK L Ll M L']:vK (q :: L) Ll M (fun x=>q :: L' x):=⟨by
 obtain ⟨E,h1,h2⟩:=h.h;exact ⟨q :: E,by rw [h1];rfl,by rw [h2];rfl⟩⟩
instance vK.zero {ι:Type} {L:List an} {M:ι→List an}:vK L L M M:=⟨⟨[],rfl,rfl⟩⟩
class xC (L:List an) (b:Nat) (L0:outParam (List an)):Prop where h:∃ B,L=L0 ++ B
instance xC.succ {q:an} {L L0:List an} {b:Nat} [h:xC L b L0]:xC (q :: L) b (q :: L0):=⟨by
 obtain ⟨B,hB⟩:=h.h;exact ⟨B,by rw [hB];rfl⟩⟩
instance xC.zero {b:Nat} {t:TypeId} {cs:List A} {M:List an}:xC (.box b t cs :: M) b []:=⟨⟨_,rfl⟩⟩
class qS (L:List an) (b:Nat) (B:outParam (List an)) (mk:outParam (List an→List an)):Prop where
 h:L=mk B
 e:∃ E,∀ X,mk X=E ++ X
instance qS.zero {b:Nat} {t:TypeId} {cs:List A} {M:List an}:qS (.box b t cs :: M) b (.box b t cs :: M) (fun A=>A):=⟨rfl,[],fun _=>rfl⟩
section
variable {P:Program} {c:Cx} {k:List Item} {f:Fm} {L L2:List an} {T X:TypeId} {ps:String} {af:Array Edge} {gd:Option (Nat × Bool)} {t:Nat}
theorem Ld.bw {F:FuncId} {args:List Operand} {tys:Array TypeId} {dB ds:List D} {ι:Type} {dd:ι→D} {Ll:List an} {M L':ι→List an} [i:aJ P F] (hC:av P F ds Ll (fun x=>(dd x,M x))) [hs:vK L Ll M L'] (ht:t < c.N) (h:iR f args=some dB) (hle:aW dB ds) :
  Ld P c ⟨some t,.call ⟨.value (.func F),args.toArray,tys⟩,T,ps,af,gd⟩ f L (bq Ll) (fun x=>(t,dd x) :: f) L':=by
 obtain ⟨E,h1,h2⟩:=hs.h;subst h1 h2;exact Ld.QD E _ hC List.perm_append_comm (fun x=>List.perm_append_comm) ht h hle
theorem Ld.WN {F:FuncId} {args:List Operand} {tys:Array TypeId} {dB ds:List D} {ι:Type} {dd:ι→D} {M L':ι→List an} [i:aJ P F] (hC:av P F ds [] (fun x=>(dd x,M x))) (hL:∀ x,L' x=M x ++ L) (ht:t < c.N) (h:iR f args=some dB) (hle:aW dB ds) :
  Ld P c ⟨some t,.call ⟨.value (.func F),args.toArray,tys⟩,T,ps,af,gd⟩ f L [] (fun x=>(t,dd x) :: f) L':=by
 obtain rfl:L'=fun x=>M x ++ L:=funext hL
 exact Ld.call (P:=P) (c:=c) (T:=T) (ps:=ps) (af:=af) (gd:=gd) (L:=L) (f:=f) (tys:=tys) hC ht h hle (Ll:=[]) (Lr:=L) rfl
end
section
variable {P:Program} {c:Cx} {k:List Item} {f f0:Fm} {L L0:List an} {ops:Array Oper} {o:Oper} {m:Option Nat} {n:Nat} {aM:Array Bool}
end
theorem WO {s:ah} {i:Int} (h0:0≤i) (h:i < s.aB.length):(s.aB.map eS)[i.toNat]?=some (eS (su s i)):=by
 unfold su;rw [List.getElem?_map,List.getD_eq_getElem?_getD,List.getElem?_eq_getElem (show i.toNat < s.aB.length by omega)];rfl
theorem WQ {b:Nat} {u:U} {s:ah} {g:Nat} (f:Gr→Gr) {G:List (List A)} (hg:g < s.gs.length) (hG:G=(fI u s).set g (gW (f (aa s g)) (u.sg g) (u.wk g))) (e:(f (aa s g)).status=(aa s g).status∧(f (aa s g)).token=(aa s g).token:=by exact ⟨rfl,rfl⟩) (e1:(f (aa s g)).ax=(aa s g).ax:=by rfl) (e2:(f (aa s g)).ak=(aa s g).ak:=by rfl) :
  wd b u (aS s g f)=wl b u s G (s.gs.map fun x=>(x.status,x.token)) (iE u s):=Ft (f (aa s g)) hg hG e e1 e2
theorem qT {α:Type} {l:List α} {i:Nat} {a:α} (h:l[i]?=some a):l.set i a=l:=List.ext_getElem? fun j=>by
 rw [List.getElem?_set]
 split
 ·rename_i e;subst e;rw [h];simp [(List.getElem?_eq_some_iff.1 h).1]
 ·rfl
theorem Cw {s:ah} {k j:Nat} {c:Cn} (hk:k < s.au.length):cn (aA s ((k:Int) + 1) c) ((j:Int) + 1)=if j=k then c else cn s ((j:Int) + 1):=by
 unfold cn aA;rw [show ((k:Int) + 1 - 1).toNat=k by omega,show ((j:Int) + 1 - 1).toNat=j by omega];simp only [List.getD_eq_getElem?_getD,List.getElem?_set]
 by_cases e:k=j
 ·subst e;simp [hk]
 ·rw [if_neg e,if_neg (Ne.symm e)]
def qC (s:ah) (k:Nat) (c:Cn):List (List Int):=((qW s).set (2 * k) c.recv).set (2 * k + 1) c.send
theorem Gw {s:ah} {k:Nat} {c:Cn} (hk:k < s.au.length) (h8:k < 8):qW (aA s ((k:Int) + 1) c)=qC s k c:=by
 unfold qC qW;refine List.ext_getElem? fun j=>?_
 by_cases hj:j < 16
 ·simp only [List.getElem?_set,List.getElem?_map,List.getElem?_range hj,Option.map_some,List.length_map,List.length_range,List.length_set,Cw hk]
  by_cases e1:2 * k + 1=j
  ·subst e1;have h1:(2 * k + 1) / 2=k:=by omega
   have h2:(2 * k + 1) % 2=1:=by omega
   simp [h1,hj]
  ·rw [if_neg e1]
   by_cases e2:2 * k=j
   ·subst e2;simp [hj]
   ·rw [if_neg e2];have h1:j / 2≠k:=by omega
    simp [h1]
 ·rw [List.getElem?_eq_none (by simp;omega),List.getElem?_eq_none (by simp;omega)]
theorem WR {u:U} {s:ah} {k:Nat} {c:Cn} (hk:k < s.au.length):kW u (aA s ((k:Int) + 1) c)=(kW u s).set k (u.rs k,c.cap.toNat,c.buf):=by
 unfold kW;rw [show (aA s ((k:Int) + 1) c).au.length=s.au.length by simp [aA]];refine (Fs hk ?_ fun j hj _=>?_).symm
 ·rw [Cw hk,if_pos rfl]
 ·rw [Cw hk,if_neg hj]
theorem WS {s:ah} {k:Nat} {c:Cn}:((aA s ((k:Int) + 1) c).au.map fun c=>[bI c.closed])=(s.au.map fun c=>[bI c.closed]).set k [bI c.closed]:=by
 unfold aA;rw [show ((k:Int) + 1 - 1).toNat=k by omega];exact List.map_set
theorem WT {s:ah} {k:Nat} {c:Cn}:((aA s ((k:Int) + 1) c).au.map (·.lock))=(s.au.map (·.lock)).set k c.lock:=by
 unfold aA;rw [show ((k:Int) + 1 - 1).toNat=k by omega];exact List.map_set
theorem Cy {b:Nat} {u:U} {s:ah} {k:Nat} {c:Cn} (hk:k < s.au.length) (h8:k < 8):wd b u (aA s ((k:Int) + 1) c) =
  .box b 68 (wW u s) ::
  .row u.vG 47 25 (fI u s) ::
  .row u.vR 106 1 ((List.range s.au.length).map fun i=>[.v (u.rs i)]) ::
  .row u.vC 4 1 ((s.au.map fun c=>[bI c.closed]).set k [bI c.closed]) ::
  .row u.vS 52 7 (s.aB.map eS) ::
  .row u.vM 54 13 (s.done.map eM) ::
  .box u.bD 130 [dW s,nI s.drawn] ::
  aO (tB u.pB (s.gs.map fun x=>(x.status,x.token))) u.TB ::
  aO (tL u.pL ((s.au.map (·.lock)).set k c.lock)) u.TL ::
  aO (tQ u.pQ s.aB.length (qC s k c)) u.TQ ::
  aO (tP u.pP s.dh.toNat s.bP.toNat (ez u s)) u.TP ::
  aO (tR ((kW u s).set k (u.rs k,c.cap.toNat,c.buf))) u.TR :: iE u s:=by
 rw [← WS,← WT,← Gw hk h8,← WR hk,show s.au.length=(aA s ((k:Int) + 1) c).au.length by simp [aA]];rfl
theorem Gy {s:ah} {k:Nat} (hk:k < s.au.length):(s.au.map fun c=>[bI c.closed]).set k [bI (cn s ((k:Int) + 1)).closed]=(s.au.map fun c=>[bI c.closed]):=qT (by rw [List.getElem?_map,lH hk];rfl)
theorem Gz {s:ah} {k:Nat} (hk:k < s.au.length):(s.au.map (·.lock)).set k (cn s ((k:Int) + 1)).lock=s.au.map (·.lock):=qT (by rw [List.getElem?_map,lH hk];rfl)
theorem GA {u:U} {s:ah} {k:Nat} (hk:k < s.au.length):(kW u s).set k (u.rs k,(cn s ((k:Int) + 1)).cap.toNat,(cn s ((k:Int) + 1)).buf)=kW u s:=qT (vl hk)
theorem Ag {s:ah} {k:Nat} (h8:k < 8):(qW s)[2 * k]?=some (cn s ((k:Int) + 1)).recv∧(qW s)[2 * k + 1]?=some (cn s ((k:Int) + 1)).send:=by
 unfold qW
 constructor
 ·rw [List.getElem?_map,List.getElem?_range (by omega)];simp
 ·rw [List.getElem?_map,List.getElem?_range (by omega)];have h1:(2 * (k:Int) + 1) / 2=k:=by omega
  simp [h1]
theorem GB {s:ah} {k:Nat} (h8:k < 8) {c:Cn} (e1:c.recv=(cn s ((k:Int) + 1)).recv) (e2:c.send=(cn s ((k:Int) + 1)).send):qC s k c=qW s:=by
 unfold qC;rw [e1,qT (Ag h8).1,e2,qT (Ag h8).2]
theorem MZ {b:Nat} {u:U} {s:ah} {k:Nat} (v:Int) (hk:k < s.au.length) (h8:k < 8):wd b u (aA s ((k:Int) + 1) { cn s ((k:Int) + 1) with lock:=v })=(wd b u s).set 8 (aO (tL u.pL ((s.au.map (·.lock)).set k v)) u.TL):=by
 rw [Cy hk h8,GB (c:={ cn s ((k:Int) + 1) with lock:=v }) h8 rfl rfl];dsimp only;rw [Gy hk,GA hk];rfl
theorem M0 {b:Nat} {u:U} {s:ah} {k:Nat} (r t:List Int) (hk:k < s.au.length) (h8:k < 8):wd b u (aA s ((k:Int) + 1) { cn s ((k:Int) + 1) with recv:=r,send:=t })=(wd b u s).set 9 (aO (tQ u.pQ s.aB.length (((qW s).set (2 * k) r).set (2 * k + 1) t)) u.TQ):=by
 rw [Cy hk h8];dsimp only;rw [Gy hk,Gz hk,GA hk];rfl
theorem M1 {b:Nat} {u:U} {s:ah} {i:Int} (x:Su) {S:List (List A)} (hS:S=(s.aB.map eS).set i.toNat (eS x)):wd b u (aN s i x)=(wd b u s).set 4 (.row u.vS 52 7 S):=by
 have e1:(aN s i x).aB.map eS=(s.aB.map eS).set i.toNat (eS x):=by unfold aN;exact List.map_set
 have e2:(aN s i x).aB.length=s.aB.length:=by simp [aN]
 rw [hS,← e1]
 show (_ :: _ :: _ :: _ :: _ :: _ :: _ :: _ :: _ :: aO (tQ u.pQ (aN s i x).aB.length (qW s)) u.TQ :: _ :: _ :: _)=_;rw [e2];rfl
class Ah (B:List an) (u:outParam U) (s:outParam ah):Prop where h:True
instance Ah.mk' {b:Nat} {t:TypeId} {u:U} {s:ah} {M:List an}:Ah (.box b t (wW u s) :: M) u s:=⟨trivial⟩
section
variable {P:Program} {c:Cx} {k:List Item} {fm:Fm} {L B:List an} {mk:List an→List an} {ops:Array Oper} {l:List Oper} {u:U} {s:ah} {g:Nat}
theorem J.tl (b:Nat) [hs:qS L b B mk] (A:List an) (e:A=B) (h:J P c k fm (mk A)):J P c k fm L:=by
 rw [hs.h,← e];exact h
theorem J.M3 {E:List an}:∀ {B:List an},J P c k fm E→J P c k fm (E ++ B)
 | [],h=>by simpa using h
 | b :: B,h=>J.drop E.length (by
   have:(E ++ b :: B).eraseIdx E.length=E ++ B:=by rw [List.eraseIdx_append_of_length_le (Nat.le_refl _),Nat.sub_self];rfl
   rw [this];exact J.M3 h)
theorem J.Ai (b:Nat) {L0:List an} [hs:xC L b L0] (h:J P c k fm L0):J P c k fm L:=by
 obtain ⟨B,hB⟩:=hs.h;rw [hB];exact J.M3 h
theorem JO.tl (b:Nat) [hs:qS L b B mk] (A:List an) (e:A=B) (h:JO P c ops l k fm (mk A)):JO P c ops l k fm L:=by
 rw [hs.h,← e];exact h
theorem aP [h:Sx.bt g s] {x:Gr} [e:Sx.dD s g x]:(fI u s)[((g:Int)).toNat]?=some (gW x (u.sg g) (u.wk g)):=by rw [← e.h];exact wT h.h
theorem cW:(0:Int)≤(g:Int):=by omega
theorem cX [h:Sx.bt g s]:(g:Int) < (fI u s).length:=by rw [wS];have:=h.h;omega
theorem jY {i:Int} [h:Sx.gI i s] {d:Su} [e:Sx.jX s i d]:(s.aB.map eS)[i.toNat]?=some (eS d):=by rw [← e.h];exact WO h.h0 h.h1
theorem jH {i:Int} {s:ah} [h:Sx.gI i s]:0≤i:=h.h0
theorem jI {i:Int} [h:Sx.gI i s]:i < (s.aB.map eS).length:=by rw [List.length_map];exact h.h1
theorem JO.bS (b g:Nat) (f:Gr→Gr) {x:Gr} [hs:qS L b B mk] [hw:Ah B u s] [hg:Sx.bt g s] [hx:Sx.dD s g x] (hB:B=wl b u s ((fI u s).set g (gW (f x) (u.sg g) (u.wk g))) (s.gs.map fun x=>(x.status,x.token)) (iE u s)) (h:JO P c ops l k fm (mk (wd b u (aS s g f)))) (e:(f x).status=x.status∧(f x).token=x.token:=by exact ⟨rfl,rfl⟩) (e1:(f x).ax=x.ax:=by rfl) (e2:(f x).ak=x.ak:=by rfl):JO P c ops l k fm L:=by
 have ex:=hx.h;subst ex;exact JO.tl b (wd b u (aS s g f)) (by rw [hB];exact WQ f hg.h rfl e e1 e2) h
theorem J.Cz (b:Nat) (i:Int) (x:Su) [hs:qS L b B mk] [hw:Ah B u s] (hB:B=(wd b u s).set 4 (.row u.vS 52 7 ((s.aB.map eS).set i.toNat (eS x)))) (h:J P c k fm (mk (wd b u (aN s i x)))):J P c k fm L :=
 J.tl b (wd b u (aN s i x)) (by rw [hB];exact M1 x rfl) h
theorem JO.Cz (b:Nat) (i:Int) (x:Su) [hs:qS L b B mk] [hw:Ah B u s] (hB:B=(wd b u s).set 4 (.row u.vS 52 7 ((s.aB.map eS).set i.toNat (eS x)))) (h:JO P c ops l k fm (mk (wd b u (aN s i x)))):JO P c ops l k fm L :=
 JO.tl b (wd b u (aN s i x)) (by rw [hB];exact M1 x rfl) h
end
section
variable (b:Nat) (u:U) (s:ah)
theorem WU (k:Nat) (g:Nat) (hk:k < s.au.length) (h8:k < 8) :
  av prog 108 [.c (.v u.pL),.c (nI ((k:Int) + 1 - 1)),.c (nI g)] (wd b u s) (fun _:Unit=>(.c (bI (Sx.tryLock s g ((k:Int) + 1)).2),wd b u (Sx.tryLock s g ((k:Int) + 1)).1)):=by
 have h:=Ku u.pL (s.au.map (·.lock)) u.TL ((k:Int) + 1 - 1) g;have hl:(s.au.map (·.lock)).getD ((k:Int) + 1 - 1).toNat 0=(cn s ((k:Int) + 1)).lock:=by
  rw [show ((k:Int) + 1 - 1).toNat=k by omega,List.getD_eq_getElem?_getD,List.getElem?_map,lH hk];rfl
 have h0:Lt.has (s.au.map (·.lock)) ((k:Int) + 1 - 1)=true:=by unfold Lt.has;simp;omega
 unfold Sx.tryLock
 by_cases c:(cn s ((k:Int) + 1)).lock=-1
 ·have e1:Lt.lC (s.au.map (·.lock)) ((k:Int) + 1 - 1) g=true:=by unfold Lt.lC;rw [hl,h0,c];simp
  have e2:Lt.lD (s.au.map (·.lock)) ((k:Int) + 1 - 1) g=(s.au.map (·.lock)).set k (g:Int):=by unfold Lt.lD;rw [if_pos e1,show ((k:Int) + 1 - 1).toNat=k by omega]
  rw [e1,e2] at h;rw [if_pos c];exact av.at_ 8 rfl h fun _=>MZ (g:Int) hk h8
 ·have e1:Lt.lC (s.au.map (·.lock)) ((k:Int) + 1 - 1) g=false:=by unfold Lt.lC;rw [hl,h0];simp [c]
  have e2:Lt.lD (s.au.map (·.lock)) ((k:Int) + 1 - 1) g=s.au.map (·.lock):=by unfold Lt.lD;rw [e1];rfl
  rw [e1,e2] at h;rw [if_neg c];exact av.at_ 8 rfl h fun _=>rfl
theorem M4 (k:Nat) (g:Nat) (hk:k < s.au.length) (h8:k < 8) (hg:(cn s ((k:Int) + 1)).lock=g) :
  av prog 115 [.c (.v u.pL),.c (nI ((k:Int) + 1 - 1)),.c (nI g)] (wd b u s) (fun _:Unit=>(.c (bI true),wd b u (Sx.free s ((k:Int) + 1)))):=by
 have h:=Tx u.pL (s.au.map (·.lock)) u.TL ((k:Int) + 1 - 1) g;have hl:(s.au.map (·.lock)).getD ((k:Int) + 1 - 1).toNat 0=(cn s ((k:Int) + 1)).lock:=by
  rw [show ((k:Int) + 1 - 1).toNat=k by omega,List.getD_eq_getElem?_getD,List.getElem?_map,lH hk];rfl
 have h0:Lt.has (s.au.map (·.lock)) ((k:Int) + 1 - 1)=true:=by unfold Lt.has;simp;omega
 have e1:Lt.nJ (s.au.map (·.lock)) ((k:Int) + 1 - 1) g=true:=by unfold Lt.nJ;rw [hl,h0,hg];simp
 have e2:Lt.oo (s.au.map (·.lock)) ((k:Int) + 1 - 1) g=(s.au.map (·.lock)).set k (-1):=by unfold Lt.oo;rw [if_pos e1,show ((k:Int) + 1 - 1).toNat=k by omega]
 rw [e1,e2] at h;exact av.at_ 8 rfl h fun _=>MZ (-1) hk h8
theorem xD (g:Nat) (x:Gr) (hg:g < s.gs.length) (e:{ x with status:=(aa s g).status,token:=(aa s g).token }=aa s g):wd b u (ai s g x)=(wd b u s).set 7 (aO (tB u.pB ((s.gs.map fun x=>(x.status,x.token)).set g (x.status,x.token))) u.TB):=by
 have hG:fI u (ai s g x)=fI u s:=by
  rw [← Kz (u:=u) (x:=x) hg];refine qT ?_;rw [Kx hg,← e];rfl
 have hR:iE u (ai s g x)=iE u s:=KD hg (by rw [← e]) (by rw [← e])
 show wl b u s (fI u (ai s g x)) ((ai s g x).gs.map fun x=>(x.status,x.token)) (iE u (ai s g x))=_;rw [hG,hR,KB hg];rfl
theorem CH {g:Nat} (hg:g < s.gs.length):(s.gs.map fun x=>(x.status,x.token))[g]?=some ((aa s g).status,(aa s g).token):=by
 rw [List.getElem?_map];unfold aa;rw [List.getD_eq_getElem?_getD,List.getElem?_eq_getElem hg];rfl
theorem WV (g:Nat) (hg:g < s.gs.length) :
  av prog 116 [.c (.v u.pB),.c (nI g)] (wd b u s) (fun _:Unit=>(.c (bI (Bc.rS (s.gs.map fun x=>(x.status,x.token)) g)),wd b u (Sx.fF s g))):=by
 have h:=Ts u.pB (s.gs.map fun x=>(x.status,x.token)) u.TB g;have hm:Bc.mem (s.gs.map fun x=>(x.status,x.token)) (g:Int)=((aa s g).status,(aa s g).token):=by
  unfold Bc.mem;rw [Int.toNat_natCast,List.getD_eq_getElem?_getD,CH s hg];rfl
 refine av.at_ 7 rfl h fun _=>?_
 have hs:Bc.status (s.gs.map fun x=>(x.status,x.token)) (g:Int)=(aa s g).status:=Fu hg;unfold Sx.fF Bc.tv;rw [hs,hm,Int.toNat_natCast]
 by_cases c:(aa s g).status=0
 ·rw [if_pos c]
  cases t:(aa s g).token with
  | true =>
   rw [if_pos ⟨c,rfl⟩,if_pos rfl,if_pos c,xD b u s g { aa s g with token:=false } hg rfl,← c]
  | false =>
   rw [if_neg (by simp),if_pos c,if_neg (by simp),xD b u s g { aa s g with status:=1 } hg rfl,t]
 ·rw [if_neg c,if_neg (by simp [c]),if_neg c,xD b u s g (aa s g) hg rfl,qT (CH s hg)]
theorem Aj:(qW s).length=16:=by simp [qW]
theorem M5 {j:Nat} (hj:j < 16):(qW s)[j]?=some (if j % 2=0 then (cn s ((j / 2:Nat) + 1)).recv else (cn s ((j / 2:Nat) + 1)).send):=by
 unfold qW;rw [List.getElem?_map,List.getElem?_range hj];rfl
variable {s}
theorem CI (Q:Qs s) {j:Nat} {l:List Int} (hl:(qW s)[j]?=some l) {i:Int} (hi:i∈l):j / 2 < s.au.length∧(su s i).ch=((j / 2:Nat):Int) + 1∧((su s i).send=true↔j % 2=1)∧0≤i∧i < s.aB.length:=by
 have hj:j < 16:=by have:=(List.getElem?_eq_some_iff.1 hl).1;rwa [Aj] at this
 rw [M5 s hj] at hl
 cases hl
 by_cases hc:j / 2 < s.au.length
 ·by_cases e:j % 2=0
  ·rw [if_pos e] at hi;have h:=Q.q (j / 2) hc i (.inl hi);refine ⟨hc,h.2.2.1,⟨fun hs=>absurd hi (h.2.2.2.2 hs),fun e2=>by omega⟩,h.1,h.2.1⟩
  ·rw [if_neg e] at hi;have h:=Q.q (j / 2) hc i (.inr hi);refine ⟨hc,h.2.2.1,⟨fun hs=>by omega,fun e2=>?_⟩,h.1,h.2.1⟩
   cases hs:(su s i).send with
   | true=>rfl
   | false=>exact absurd hi (h.2.2.2.1 hs)
 ·have e:cn s ((j / 2:Nat) + 1)=rP:=by
   unfold cn;rw [List.getD_eq_getElem?_getD,List.getElem?_eq_none (by omega)];rfl
  rw [e] at hi
  split at hi <;> simp [rP] at hi
theorem WW (Q:Qs s) {j j':Nat} {l l':List Int} (hl:(qW s)[j]?=some l) (Bl:(qW s)[j']?=some l') {i:Int} (hi:i∈l) (p9:i∈l'):j=j':=by
 have h1:=CI Q hl hi;have h2:=CI Q Bl p9;have e1:(j / 2:Nat)=j' / 2:=by have:=h1.2.1.symm.trans h2.2.1;omega
 have e2:j % 2=1↔j' % 2=1:=h1.2.2.1.symm.trans h2.2.2.1;omega
theorem CJ {l:List Int} {i:Int} (h:i∉l):eZ l i=l:=List.filter_eq_self.2 fun y hy=>by simp;intro e;exact h (e ▸ hy)
theorem WX (Q:Qs s) (i:Int):(Qu.drop (qW s) i).1=(qW s).map fun l=>eZ l i:=by
 unfold Qu.drop
 cases hl:Qu.loc (qW s) i with
 | none =>
  rw [Qu.qD] at hl;refine (List.map_id (qW s)).symm.trans (List.map_congr_left fun l hm=>(CJ fun hi=>hl (List.mem_flatten.2 ⟨l,hm,hi⟩)).symm)
 | some k =>
  obtain ⟨h1,h2⟩:=Qu.yM hl
  show (qW s).set k (((qW s).getD k []).filter (fun y=>y != i))=_;rw [List.getD_eq_getElem?_getD,List.getElem?_eq_getElem h1,Option.getD_some] at h2 ⊢;refine List.ext_getElem? fun j=>?_
  rw [List.getElem?_set,List.getElem?_map]
  by_cases e:k=j
  ·subst e;rw [if_pos rfl,if_pos h1,List.getElem?_eq_getElem h1];rfl
  ·rw [if_neg e]
   cases hj:(qW s)[j]? with
   | none=>rfl
   | some l=>rw [Option.map_some,CJ fun hi=>e (WW Q (List.getElem?_eq_getElem h1) hj h2 hi)]
theorem sQ {ch:Int} (h:aL s ch=true):∃ k:Nat,ch=(k:Int) + 1∧k < s.au.length:=by
 unfold aL at h;simp only [decide_eq_true_eq] at h;exact ⟨(ch - 1).toNat,by omega,by omega⟩
theorem WY (Q:Qs s) (i:Int):(Qu.drop (qW s) i).1=qW (aT s i):=by
 rw [WX Q i];unfold aT
 split
 ·rename_i hm;obtain ⟨k,hk,bZ⟩:=sQ hm;have c8:=Q.c8;rw [hk,Gw bZ (by omega)];unfold qC;refine List.ext_getElem? fun j=>?_
  rw [List.getElem?_map]
  cases hj:(qW s)[j]? with
  | none =>
   rw [Option.map_none,eq_comm,List.getElem?_eq_none];simpa using List.getElem?_eq_none_iff.1 hj
  | some l =>
   have CU:j < 16:=by have:=(List.getElem?_eq_some_iff.1 hj).1;rwa [Aj] at this
   rw [Option.map_some,List.getElem?_set,List.getElem?_set,List.length_set,Aj]
   by_cases e1:2 * k + 1=j
   ·subst e1;rw [if_pos rfl,if_pos CU];rw [(Ag (s:=s) (k:=k) (by omega)).2] at hj
    cases hj;rfl
   ·rw [if_neg e1]
    by_cases e2:2 * k=j
    ·subst e2;rw [if_pos rfl,if_pos CU];rw [(Ag (s:=s) (k:=k) (by omega)).1] at hj
     cases hj;rfl
    ·rw [if_neg e2,hj,CJ];intro hi;have:=(CI Q hj hi).2.1;omega
 ·rename_i hm;refine (List.map_congr_left fun l hl=>?_).trans (List.map_id _);obtain ⟨j,hj⟩:=List.getElem?_of_mem hl;refine CJ fun hi=>hm ?_
  have:=CI Q hj hi;unfold aL;rw [this.2.1];simp only [decide_eq_true_eq];omega
theorem Ak (Q:Qs s) (i:Int) :
  ∃ o,av prog 123 [.c (.v u.pQ),.c (nI i)] (wd b u s) (fun _:Unit=>(.c (bI o),wd b u (aT s i))):=by
 have h:=Tz u.pQ s.aB.length (qW s) u.TQ i;refine ⟨_,av.at_ 9 rfl h fun _=>?_⟩;rw [WY Q i];unfold aT
 split
 ·rename_i hm;obtain ⟨k,hk,bZ⟩:=sQ hm;have c8:=Q.c8;rw [hk,M0 _ _ bZ (by omega),Gw bZ (by omega)];rfl
 ·rfl
end
end Fl
open Go.RowKit
namespace Fl
open Sx Go.Proofs.Tryz
set_option maxRecDepth 100000
theorem WZ:Is (fun l:List Int=>[ints l]) DI:=fun ok w cs l r=>by
 unfold RC at r;obtain ⟨x,xs,e1,r1,r2⟩:=r;have e2:=r2.n0;subst e2;obtain ⟨S,h1,h2⟩:=IV.Fo r1;exact ⟨S,⟨x,e1,h1⟩,fun y hy=>⟨h2 y hy,h1.lt y hy⟩⟩
theorem W0 (room:Int) (l:List Int) (h:0≤room∧room≤64∧(l.length:Int)≤room):av prog 107 [.c (nI room),.c (ints l)] [] (fun x:Value × List Nat=>(.aZ [.c (.v x.1),.c (nI 0)],[aO (tR [(x.1,room.toNat,l)]) x.2])):=⟨fun ok e xs hd _ _ _=>by
 obtain ⟨ys,rfl,h1⟩:=hd.cv;obtain ⟨v,zs,rfl,r,h2⟩:=h1.c;rw [h2.Ks];obtain ⟨S,s1,s2⟩:=IV.Fo r;refine (Tg e room v l S s1).mono ?_;intro en w' hp;unfold BN at hp;rw [if_pos h] at hp;obtain ⟨p,T,rfl,k,g,hT⟩:=hp;refine ⟨(p,T),_,rfl,by simpa [bq] using k,fun y hy=>.inr (hT y (by simpa [bq,aO,an.bT] using hy)),List.pairwise_singleton _ _,fun q hq=>?_,?_⟩
 ·rw [List.mem_singleton.1 hq];refine (aO.holds tR.ok).2 ⟨[T],rfl,by simp,List.pairwise_singleton _ _,fun i x Si hi hs=>?_⟩
  cases i with
  | zero=>simp at hi hs;subst hi hs;exact g
  | succ i=>simp at hi
 ·obtain ⟨b,rfl⟩:=Rg.shape g;exact RD.vj rfl rfl⟩
theorem W1 (size most f:Nat) (C:List (List Int)) (M:List Int) (hM:M.length≤1000) (hC:∀ l∈C,l.length≤1000) (ho:Po.of size most f C M=true) :
  av prog 48 [.c (nI size),.c (nI most),.c (.r 1 (C.map fun l=>[ints l])),.c (ints M),.c (nI f)] []
   (fun x:{ x:Value × List Nat × List Bool // Po.settle f (List.replicate size false) (C.flatten ++ M)=(x.2.2,true) }=>(.aZ [.c (.v x.1.1),.c (nI 0)],[aO (tP x.1.1 size most ⟨C,M,f,x.1.2.2⟩) x.1.2.1])):=⟨fun ok e xs hd _ _ _=>by
 obtain ⟨y1,rfl,h1⟩:=hd.cv;obtain ⟨y2,rfl,h2⟩:=h1.cv;obtain ⟨vc,y3,rfl,r3,h3⟩:=h2.c;obtain ⟨vm,y4,rfl,r4,h4⟩:=h3.c;obtain rfl:=h4.v1;obtain ⟨S,s1,s2⟩:=WZ.gv r3;obtain ⟨T,t1,t2⟩:=IV.Fo r4;have W2:RP e vc vm C M (S ++ T):=⟨s1.mono (fun x hx=>List.mem_append_left _ hx) (fun x hx=>(List.mem_append.1 hx).elim (fun h=>(s2 x h).2) (fun h=>t1.lt x h)),T,t1,fun x hx=>List.mem_append_right _ hx⟩
 refine (Vc e size most f vc vm C M _ W2 hM hC).mono ?_
 rintro en w' ⟨k,⟨_,b,R,H,rfl,g1,g2,g3⟩ | ⟨g1,_⟩⟩
 ·refine ⟨⟨(.pointer (some ⟨b,0,none⟩),R,H),by simpa using g3⟩,_,rfl,by simpa [bq] using k,fun y hy=>.inr (g2 y (by simpa [bq,aO,an.bT] using hy)),List.pairwise_singleton _ _,fun q hq=>?_,RD.vj rfl rfl⟩;rw [List.mem_singleton.1 hq];exact (aO.holds tP.ok).2 g1
 ·rw [ho] at g1;cases g1⟩
theorem tR.app {l1 l2:List (Value × Nat × List Int)} {w:World} {S1 S2:List Nat} (h1:tR l1 w S1) (h2:tR l2 w S2) (ha:∀ x∈S1,x∉S2):tR (l1 ++ l2) w (S1 ++ S2):=by
 obtain ⟨A,a1,rfl,a3,a4⟩:=h1;obtain ⟨B,b1,rfl,b3,b4⟩:=h2;refine ⟨A ++ B,by simp [a1,b1],by simp,List.pairwise_append.2 ⟨a3,b3,fun X hX Y hY x hx hy=>ha x (List.mem_flatten.2 ⟨X,hX,hx⟩) (List.mem_flatten.2 ⟨Y,hY,hy⟩)⟩,fun i x Si hi hs=>?_⟩
 by_cases c:i < l1.length
 ·rw [List.getElem?_append_left c] at hi;rw [List.getElem?_append_left (by omega)] at hs;exact a4 i x Si hi hs
 ·rw [List.getElem?_append_right (by omega)] at hi;rw [List.getElem?_append_right (by omega),a1] at hs;exact b4 _ x Si hi hs
section
variable {P:Program} {c:Cx} {k:List Item} {f:Fm} {L:List an}
theorem J.rings {l1 l2:List (Value × Nat × List Int)} {S1 S2:List Nat} (h:J P c k f (aO (tR (l1 ++ l2)) (S1 ++ S2) :: L)):J P c k f (aO (tR l1) S1 :: aO (tR l2) S2 :: L):=⟨fun a w s=>by
 have hf:bq (aO (tR (l1 ++ l2)) (S1 ++ S2) :: L)=bq (aO (tR l1) S1 :: aO (tR l2) S2 :: L):=by simp [bq,aO,an.bT]
 have ho:bF c (aO (tR (l1 ++ l2)) (S1 ++ S2) :: L)=bF c (aO (tR l1) S1 :: aO (tR l2) S2 :: L):=by funext x;unfold bF;rw [hf]
 have ap:=List.pairwise_cons.1 s.ap;have M6:=List.pairwise_cons.1 ap.2;have q1:=(aO.holds tR.ok).1 (s.res _ (List.mem_cons_self ..));have q2:=(aO.holds tR.ok).1 (s.res _ (List.mem_cons_of_mem _ (List.mem_cons_self ..)));have hd:∀ x∈S1,x∉S2:=fun x hx hy=>ap.1 _ (List.mem_cons_self ..) x (by simpa [aO,an.bT] using hx) (by simpa [aO,an.bT] using hy)
 refine h.go a w ⟨s.kp,s.size,s.j5,fun q hq=>?_,fun x hx=>s.fL x (hf ▸ hx),List.pairwise_cons.2 ⟨fun q hq x hx hy=>?_,M6.2⟩,fun t d ht=>by rw [ho];exact s.fr t d ht⟩
 ·rw [ho];rcases List.mem_cons.1 hq with rfl | hq
  ·exact (aO.holds tR.ok).2 (q1.app q2 hd)
  ·exact s.res q (List.mem_cons_of_mem _ (List.mem_cons_of_mem _ hq))
 ·rcases List.mem_append.1 (show x∈S1 ++ S2 by simpa [aO,an.bT] using hx) with hx | hx
  ·exact ap.1 q (List.mem_cons_of_mem _ hq) x (by simpa [aO,an.bT] using hx) hy
  ·exact M6.1 q hq x (by simpa [aO,an.bT] using hx) hy⟩
end
end Fl
end Go.Proofs.YtdjhhbpedllnhaaGreat
