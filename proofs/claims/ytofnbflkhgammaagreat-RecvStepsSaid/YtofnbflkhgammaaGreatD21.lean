/-
  What the laws need, part D21.
  Conditions: none.
-/
import Derived.Test.YtofnbflkhgammaaGreatD20
set_option linter.unusedVariables false
set_option linter.unusedSimpArgs false
set_option linter.unnecessarySimpa false
set_option maxHeartbeats 2000000
namespace Go.Proofs.YtofnbflkhgammaaGreat
open Go.RowKit
namespace Sx
def bg (s:ah) (g:Nat) (f:Gr→Gr):ah:=ai s g (f (aa s g))
theorem ud {s:ah} {g k:Nat} {f:Gr→Gr} (h:g < s.gs.length):g < (bg s k f).gs.length:=by simpa [bg,ai] using h
theorem GC {s:ah} {g k:Nat} {x:Gr} (h:g < s.gs.length):g < (ai s k x).gs.length:=by simpa [ai] using h
class bT (g:Nat) (s:ah):Prop where h:g < s.gs.length
class mW (k g:Nat):Prop where h:k≠g
class dY (s:ah) (g:Nat) (x:outParam Gr):Prop where h:aa s g=x
class gX (i:Int) (s:ah):Prop where
 h0:0≤i
 h1:i < s.aC.length
class kK (s:ah) (i:Int) (x:outParam Su):Prop where h:su s i=x
section
variable {s:ah} {g k:Nat} {x y:Gr} {f:Gr→Gr} {i j:Int} {d e:Su} {c:Int} {n:Cn}
instance bT.Cz [h:bT k s]:bT k (bg s g f):=⟨ud h.h⟩
instance bT.fW [h:bT k s]:bT k (aR s i d):=⟨h.h⟩
instance bT.dJ [h:bT k s]:bT k (aE s c n):=⟨h.h⟩
theorem fX:(bq s i).gs=s.gs:=by unfold bq;split <;> rfl
theorem Nm:(bq s i).aC=s.aC:=by unfold bq;split <;> rfl
instance bT.drop [h:bT k s]:bT k (bq s i):=⟨by rw [fX];exact h.h⟩
instance (priority:=low) dY.self:dY s g (aa s g):=⟨rfl⟩
theorem GD (h:g < s.gs.length):aa (ai s g x) k=if k=g then x else aa s k:=by
 unfold aa ai;rw [List.getD_eq_getElem?_getD,List.getD_eq_getElem?_getD,List.getElem?_set]
 by_cases e:g=k
 ·subst e;simp [h]
 ·rw [if_neg e,if_neg (Ne.symm e)]
instance dY.abg [n:mW k g] [h:bT g s] [i:dY s k x]:dY (bg s g f) k x:=⟨by unfold Sx.bg;rw [GD h.h,if_neg n.h];exact i.h⟩
instance dY.Cz [h:bT g s] [i:dY s g x]:dY (bg s g f) g (f x):=⟨by unfold Sx.bg;rw [GD h.h,if_pos rfl,i.h]⟩
instance dY.fW [h:dY s g x]:dY (aR s i d) g x:=⟨h.h⟩
instance dY.dJ [h:dY s g x]:dY (aE s c n) g x:=⟨h.h⟩
instance dY.drop [h:dY s g x]:dY (bq s i) g x:=⟨by unfold aa;rw [fX];exact h.h⟩
instance gX.Cz [h:gX i s]:gX i (bg s g f):=⟨h.h0,h.h1⟩
instance gX.fW [h:gX i s]:gX i (aR s j d):=⟨h.h0,by simpa [Sx.aR] using h.h1⟩
instance gX.drop [h:gX i s]:gX i (bq s j):=⟨h.h0,by rw [Nm];exact h.h1⟩
instance (priority:=low) kK.self:kK s i (su s i):=⟨rfl⟩
instance kK.Cz [h:kK s i d]:kK (bg s g f) i d:=⟨h.h⟩
instance kK.drop [h:kK s i d]:kK (bq s j) i d:=⟨by unfold su;rw [Nm];exact h.h⟩
instance kK.fW [h:gX i s]:kK (aR s i d) i d:=⟨by
 have:=h.h0;have:=h.h1;unfold su Sx.aR;simp only [List.getD_eq_getElem?_getD,List.getElem?_set,if_true];rw [if_pos (by omega)];rfl⟩
instance bT.free [h:bT k s]:bT k (free s c):=⟨h.h⟩
instance dY.free [h:dY s g x]:dY (free s c) g x:=⟨h.h⟩
theorem Nn {y:Int}:(ez s g y).gs=s.gs∧(ez s g y).aC=s.aC:=by unfold ez;split <;> exact ⟨rfl,rfl⟩
instance bT.ez {y:Int} [h:bT k s]:bT k (ez s g y):=⟨by rw [Nn.1];exact h.h⟩
instance dY.ez {y:Int} [h:dY s k x]:dY (ez s g y) k x:=⟨by unfold aa;rw [Nn.1];exact h.h⟩
theorem WN {a:Nat} (hn:g≠a) (ha:a < s.gs.length):aa (ready s a) g=aa s g:=by unfold ready;rw [GD ha,if_neg hn]
instance bT.ready {a:Nat} [h:bT k s]:bT k (Sx.ready s a):=⟨by unfold Sx.ready;exact GC h.h⟩
instance dY.ready {a:Nat} [n:mW g a] [h:bT a s] [i:dY s g x]:dY (Sx.ready s a) g x:=⟨(WN n.h h.h).trans i.h⟩
end
end Sx
namespace Fl
open Sx Go.Proofs.Tryz
section
variable {P:Program} {F:FuncId} {ds:List D} {L Ll Lr:List ak}
theorem ax.frame {ι:Type} {dd:ι→D} {M L':ι→List ak} (Lr:List ak) (hC:ax P F ds Ll (fun x=>(dd x,M x))) (hL:(Ll ++ Lr).Perm L) (tf:∀ x,(L' x).Perm (M x ++ Lr)):ax P F ds L (fun x=>(dd x,L' x)):=⟨fun ok e xs hd hr ha hf=>by
 have WO:eY (Ll ++ Lr):=(hL.pairwise_iff (fun {x y} mq z hz rB=>mq z rB hz)).2 ha;have oX:=List.pairwise_append.1 WO;have hm:∀ x,x∈aT L↔x∈aT Ll∨x∈aT Lr:=fun x=>by rw [← rN hL x,oW]
 have gF:∀ r∈Ll,r∈L:=fun r h=>hL.mem_iff.1 (List.mem_append_left _ h)
 have No:∀ r∈Lr,r∈L:=fun r h=>hL.mem_iff.1 (List.mem_append_right _ h)
 have rG:∀ x,x∈aT Ll→x∉aT Lr:=fun x hx fI=>by
  obtain ⟨q,hq,h1⟩:=di.1 hx;obtain ⟨r,hr,h2⟩:=di.1 fI;exact oX.2.2 q hq r hr x h1 h2
 have ck:∀ x,x∈aT Lr→x < e.heap.size:=fun x hx=>by
  obtain ⟨r,h1,h2⟩:=di.1 hx;exact (hr r (No r h1)).lt x h2
 refine Calls.mono (hC.go ok e xs hd (fun r h=>hr r (gF r h)) oX.1 (fun x hx=>hf x ((hm x).2 (.inl hx)))) ?_
 rintro en w' ⟨i,x,rfl,kp,g1,g2,g3,g4⟩
 have mP:∀ y,y∈aT (L' i)↔y∈aT (M i)∨y∈aT Lr:=fun y=>by rw [rN (tf i) y,oW]
 have nU:∀ g,g < w'.heap.size→mz ok e Ll (M i) g→mz ok e L (L' i) g:=fun g _ hg=>by
  obtain ⟨hg,hn⟩:=hg;refine ⟨?_,fun hx=>?_⟩
  ·rcases hg with hg | hg | hg
   ·exact .inl hg
   ·exact .inr (.inl ((hm g).2 (.inl hg)))
   ·exact .inr (.inr hg)
  ·rcases (mP g).1 hx with hx | hx
   ·exact hn hx
   ·rcases hg with hg | hg | hg
    ·exact hf g ((hm g).2 (.inr hx)) hg
    ·exact rG g hg hx
    ·have:=ck g hx;omega
 have m1:Mon (mz ok e Ll (M i)) (mz ok e L (L' i)) w' w':=⟨Nat.le_refl _,fun g hg ho=>⟨nU g hg ho,rfl⟩⟩
 have m2:Mon ok (mz ok e L (L' i)) e w':=Mon.lJ kp fun g hg ho=>⟨⟨.inl ho,fun hx=>by
  rcases (mP g).1 hx with hx | hx
  ·rcases g1 g hx with h | h
   ·exact hf g ((hm g).2 (.inl h)) ho
   ·omega
  ·exact hf g ((hm g).2 (.inr hx)) ho⟩,fun hx=>hf g ((hm g).2 (.inl hx)) ho⟩
 refine ⟨i,x,rfl,kp.mono (fun y hy=>.inl ((hm y).2 (.inl hy))),fun y hy=>?_,?_,fun r uD=>?_,RD.cS m1 _ _ g4⟩
 ·rcases (mP y).1 hy with hy | hy
  ·rcases g1 y hy with h | h
   ·exact .inl ((hm y).2 (.inl h))
   ·exact .inr h
  ·exact .inl ((hm y).2 (.inr hy))
 ·refine ((tf i).pairwise_iff (fun {x y} mq z hz rB=>mq z rB hz)).2 ?_;refine List.pairwise_append.2 ⟨g2,oX.2.1,fun q hq r hr x hx fI=>?_⟩;have rH:x∈aT Lr:=di.2 ⟨r,hr,fI⟩;rcases g1 x (di.2 ⟨q,hq,hx⟩) with h | h
  ·exact rG x h rH
  ·have:=ck x rH;omega
 ·rcases List.mem_append.1 ((tf i).mem_iff.1 uD) with h | h
  ·exact (g3 r h).cS (aq.refl [] w') m1 (by simp)
  ·exact (hr r (No r h)).cS kp m2 (fun x hx fI=>rG x fI (di.2 ⟨r,h,hx⟩))⟩
theorem ax.at_ (j:Nat) {r:ak} {ι:Type} {dd:ι→D} {r':ι→ak} {L':ι→List ak} (hj:L[j]?=some r) (hC:ax P F ds [r] (fun x=>(dd x,[r' x]))) (tf:∀ x,L' x=L.set j (r' x)):ax P F ds L (fun x=>(dd x,L' x)) :=
 ax.frame (L.eraseIdx j) hC (sY L j hj) fun x=>by rw [tf x];exact set_perm hj
end
class vH {ι:Type} (L Ll:List ak) (M:ι→List ak) (L':outParam (ι→List ak)):Prop where h:∃ E,L=E ++ Ll∧L'=fun x=>E ++ M x
instance vH.succ {ι:Type} {q:ak} {L Ll:List ak} {M L':ι→List ak} [h:vH L Ll M L']:vH (q :: L) Ll M (fun x=>q :: L' x):=⟨by
 obtain ⟨E,h1,h2⟩:=h.h;exact ⟨q :: E,by rw [h1];rfl,by rw [h2];rfl⟩⟩
instance vH.zero {ι:Type} {L:List ak} {M:ι→List ak}:vH L L M M:=⟨⟨[],rfl,rfl⟩⟩
class xE (L:List ak) (b:Nat) (L0:outParam (List ak)):Prop where h:∃ B,L=L0 ++ B
instance xE.succ {q:ak} {L L0:List ak} {b:Nat} [h:xE L b L0]:xE (q :: L) b (q :: L0):=⟨by
 obtain ⟨B,hB⟩:=h.h;exact ⟨B,by rw [hB];rfl⟩⟩
instance xE.zero {b:Nat} {t:TypeId} {cs:List A} {M:List ak}:xE (.box b t cs :: M) b []:=⟨⟨_,rfl⟩⟩
class pZ (L:List ak) (b:Nat) (B:outParam (List ak)) (mk:outParam (List ak→List ak)):Prop where
 h:L=mk B
 e:∃ E,∀ X,mk X=E ++ X
instance pZ.succ {q:ak} {L:List ak} {b:Nat} {B:List ak} {mk:List ak→List ak} [h:pZ L b B mk]:pZ (q :: L) b B (fun A=>q :: mk A):=⟨by rw [h.h],by
 obtain ⟨E,hE⟩:=h.e;exact ⟨q :: E,fun X=>by rw [hE X];rfl⟩⟩
instance pZ.zero {b:Nat} {t:TypeId} {cs:List A} {M:List ak}:pZ (.box b t cs :: M) b (.box b t cs :: M) (fun A=>A):=⟨rfl,[],fun _=>rfl⟩
section
variable {P:Program} {c:Cx} {k:List Item} {f:Fm} {L L2:List ak} {T X:TypeId} {ps:String} {af:Array Edge} {gd:Option (Nat × Bool)} {t:Nat}
theorem Ld.aV {F:FuncId} {args:List Operand} {tys:Array TypeId} {dm ds:List D} {ι:Type} {dd:ι→D} {Ll:List ak} {M L':ι→List ak} [i:aJ P F] (hC:ax P F ds Ll (fun x=>(dd x,M x))) [hs:vH L Ll M L'] (ht:t < c.N) (h:iL f args=some dm) (hle:aK dm ds) :
  Ld P c ⟨some t,.call ⟨.value (.func F),args.toArray,tys⟩,T,ps,af,gd⟩ f L (aT Ll) (fun x=>(t,dd x) :: f) L':=by
 obtain ⟨E,h1,h2⟩:=hs.h;subst h1 h2;exact Ld.Qm E _ hC List.perm_append_comm (fun x=>List.perm_append_comm) ht h hle
theorem Ld.WQ {F:FuncId} {args:List Operand} {tys:Array TypeId} {dm ds:List D} {ι:Type} {dd:ι→D} {M L':ι→List ak} [i:aJ P F] (hC:ax P F ds [] (fun x=>(dd x,M x))) (hL:∀ x,L' x=M x ++ L) (ht:t < c.N) (h:iL f args=some dm) (hle:aK dm ds) :
  Ld P c ⟨some t,.call ⟨.value (.func F),args.toArray,tys⟩,T,ps,af,gd⟩ f L [] (fun x=>(t,dd x) :: f) L':=by
 obtain rfl:L'=fun x=>M x ++ L:=funext hL
 exact Ld.call (P:=P) (c:=c) (T:=T) (ps:=ps) (af:=af) (gd:=gd) (L:=L) (f:=f) (tys:=tys) hC ht h hle (Ll:=[]) (Lr:=L) rfl
end
def p6 (L:List ak):List Nat:=List.range L.length
theorem GF {L:List ak} {x:Nat} (h:x∈aT L):x∈jh L (p6 L):=by
 obtain ⟨r,hr,hx⟩:=di.1 h;obtain ⟨i,hi⟩:=List.getElem?_of_mem hr;exact yF.2 ⟨i,List.mem_range.2 (List.getElem?_eq_some_iff.1 hi).1,r,hi,hx⟩
def eW (S:List Nat) (L:List ak):Prop:=∀ x∈S,x∈aT L
theorem eW.aT {L Ll:List ak} {L':Unit→List ak} [h:vH L Ll (fun _:Unit=>([]:List ak)) L']:eW (Fl.aT Ll) L:=fun x hx=>by
 obtain ⟨E,h1,_⟩:=h.h;rw [h1,oW];exact .inr hx
section
variable {P:Program} {c:Cx} {k:List Item} {f f0:Fm} {L L0:List ak} {ops:Array Oper} {o:Oper} {m:Option Nat} {n:Nat} {aM:Array Bool}
theorem JW.p7 (m:Option Nat) (h:JD P c ops m (p6 L) n aM k f L f L):JW P c ops n aM k f L:=JW.iS _ _ h
end
theorem WR {s:ah} {i:Int} (h0:0≤i) (h:i < s.aC.length):(s.aC.map eS)[i.toNat]?=some (eS (su s i)):=by
 unfold su;rw [List.getElem?_map,List.getD_eq_getElem?_getD,List.getElem?_eq_getElem (show i.toNat < s.aC.length by omega)];rfl
theorem Np {b:Nat} {u:U} {s:ah} {g:Nat} (f:Gr→Gr) {G:List (List A)} (hg:g < s.gs.length) (hG:G=(fB u s).set g (gW (f (aa s g)) (u.sg g) (u.wk g))) (e:(f (aa s g)).status=(aa s g).status∧(f (aa s g)).token=(aa s g).token:=by exact ⟨rfl,rfl⟩) (e1:(f (aa s g)).ay=(aa s g).ay:=by rfl) (e2:(f (aa s g)).an=(aa s g).an:=by rfl) :
  wd b u (bg s g f)=wl b u s G (s.gs.map fun x=>(x.status,x.token)) (iq u s):=Fo (f (aa s g)) hg hG e e1 e2
theorem qV {α:Type} {l:List α} {i:Nat} {a:α} (h:l[i]?=some a):l.set i a=l:=List.ext_getElem? fun j=>by
 rw [List.getElem?_set]
 split
 ·rename_i e;subst e;rw [h];simp [(List.getElem?_eq_some_iff.1 h).1]
 ·rfl
theorem GG {s:ah} {k j:Nat} {c:Cn} (hk:k < s.au.length):cn (aE s ((k:Int) + 1) c) ((j:Int) + 1)=if j=k then c else cn s ((j:Int) + 1):=by
 unfold cn aE;rw [show ((k:Int) + 1 - 1).toNat=k by omega,show ((j:Int) + 1 - 1).toNat=j by omega];simp only [List.getD_eq_getElem?_getD,List.getElem?_set]
 by_cases e:k=j
 ·subst e;simp [hk]
 ·rw [if_neg e,if_neg (Ne.symm e)]
def qC (s:ah) (k:Nat) (c:Cn):List (List Int):=((qW s).set (2 * k) c.recv).set (2 * k + 1) c.send
theorem GH {s:ah} {k:Nat} {c:Cn} (hk:k < s.au.length) (h8:k < 8):qW (aE s ((k:Int) + 1) c)=qC s k c:=by
 unfold qC qW;refine List.ext_getElem? fun j=>?_
 by_cases hj:j < 16
 ·simp only [List.getElem?_set,List.getElem?_map,List.getElem?_range hj,Option.map_some,List.length_map,List.length_range,List.length_set,GG hk]
  by_cases e1:2 * k + 1=j
  ·subst e1;have h1:(2 * k + 1) / 2=k:=by omega
   have h2:(2 * k + 1) % 2=1:=by omega
   simp [h1,hj]
  ·rw [if_neg e1]
   by_cases e2:2 * k=j
   ·subst e2;simp [hj]
   ·rw [if_neg e2];have h1:j / 2≠k:=by omega
    simp [h1]
 ·rw [List.getElem?_eq_none (by simp;omega),List.getElem?_eq_none (by simp;omega)]
theorem WS {u:U} {s:ah} {k:Nat} {c:Cn} (hk:k < s.au.length):lu u (aE s ((k:Int) + 1) c)=(lu u s).set k (u.rs k,c.cap.toNat,c.buf):=by
 unfold lu;rw [show (aE s ((k:Int) + 1) c).au.length=s.au.length by simp [aE]];refine (Fk hk ?_ fun j hj _=>?_).symm
 ·rw [GG hk,if_pos rfl]
 ·rw [GG hk,if_neg hj]
theorem WT {s:ah} {k:Nat} {c:Cn}:((aE s ((k:Int) + 1) c).au.map fun c=>[bI c.closed])=(s.au.map fun c=>[bI c.closed]).set k [bI c.closed]:=by
 unfold aE;rw [show ((k:Int) + 1 - 1).toNat=k by omega];exact List.map_set
theorem WU {s:ah} {k:Nat} {c:Cn}:((aE s ((k:Int) + 1) c).au.map (·.lock))=(s.au.map (·.lock)).set k c.lock:=by
 unfold aE;rw [show ((k:Int) + 1 - 1).toNat=k by omega];exact List.map_set
theorem GI {b:Nat} {u:U} {s:ah} {k:Nat} {c:Cn} (hk:k < s.au.length) (h8:k < 8):wd b u (aE s ((k:Int) + 1) c) =
  .box b 81 (wW u s) ::
  .row u.vG 47 25 (fB u s) ::
  .row u.vR 110 1 ((List.range s.au.length).map fun i=>[.v (u.rs i)]) ::
  .row u.vC 4 1 ((s.au.map fun c=>[bI c.closed]).set k [bI c.closed]) ::
  .row u.vS 52 7 (s.aC.map eS) ::
  .row u.vM 54 13 (s.done.map eM) ::
  .box u.bD 145 [dW s,nI s.drawn] ::
  aP (tB u.pB (s.gs.map fun x=>(x.status,x.token))) u.TB ::
  aP (tL u.pL ((s.au.map (·.lock)).set k c.lock)) u.TL ::
  aP (tQ u.pQ s.aC.length (qC s k c)) u.TQ ::
  aP (tP u.pP s.cV.toNat s.bN.toNat (ee u s)) u.TP ::
  aP (tR ((lu u s).set k (u.rs k,c.cap.toNat,c.buf))) u.TR :: iq u s:=by
 rw [← WT,← WU,← GH hk h8,← WS hk,show s.au.length=(aE s ((k:Int) + 1) c).au.length by simp [aE]];rfl
theorem GJ {s:ah} {k:Nat} (hk:k < s.au.length):(s.au.map fun c=>[bI c.closed]).set k [bI (cn s ((k:Int) + 1)).closed]=(s.au.map fun c=>[bI c.closed]):=qV (by rw [List.getElem?_map,oD hk];rfl)
theorem Nq {s:ah} {k:Nat} (hk:k < s.au.length):(s.au.map (·.lock)).set k (cn s ((k:Int) + 1)).lock=s.au.map (·.lock):=qV (by rw [List.getElem?_map,oD hk];rfl)
theorem Nr {u:U} {s:ah} {k:Nat} (hk:k < s.au.length):(lu u s).set k (u.rs k,(cn s ((k:Int) + 1)).cap.toNat,(cn s ((k:Int) + 1)).buf)=lu u s:=qV (wU hk)
theorem Ak {s:ah} {k:Nat} (h8:k < 8):(qW s)[2 * k]?=some (cn s ((k:Int) + 1)).recv∧(qW s)[2 * k + 1]?=some (cn s ((k:Int) + 1)).send:=by
 unfold qW
 constructor
 ·rw [List.getElem?_map,List.getElem?_range (by omega)];simp
 ·rw [List.getElem?_map,List.getElem?_range (by omega)];have h1:(2 * (k:Int) + 1) / 2=k:=by omega
  simp [h1]
theorem Ns {s:ah} {k:Nat} (h8:k < 8) {c:Cn} (e1:c.recv=(cn s ((k:Int) + 1)).recv) (e2:c.send=(cn s ((k:Int) + 1)).send):qC s k c=qW s:=by
 unfold qC;rw [e1,qV (Ak h8).1,e2,qV (Ak h8).2]
theorem Nt {b:Nat} {u:U} {s:ah} {k:Nat} (v:Int) (hk:k < s.au.length) (h8:k < 8):wd b u (aE s ((k:Int) + 1) { cn s ((k:Int) + 1) with lock:=v })=(wd b u s).set 8 (aP (tL u.pL ((s.au.map (·.lock)).set k v)) u.TL):=by
 rw [GI hk h8,Ns (c:={ cn s ((k:Int) + 1) with lock:=v }) h8 rfl rfl];dsimp only;rw [GJ hk,Nr hk];rfl
theorem WV {b:Nat} {u:U} {s:ah} {k:Nat} (v:List Int) (hk:k < s.au.length) (h8:k < 8):wd b u (aE s ((k:Int) + 1) { cn s ((k:Int) + 1) with buf:=v })=(wd b u s).set 11 (aP (tR ((lu u s).set k (u.rs k,(cn s ((k:Int) + 1)).cap.toNat,v))) u.TR):=by
 rw [GI hk h8,Ns (c:={ cn s ((k:Int) + 1) with buf:=v }) h8 rfl rfl];dsimp only;rw [Nq hk,GJ hk];rfl
theorem Nu {b:Nat} {u:U} {s:ah} {k:Nat} (r t:List Int) (hk:k < s.au.length) (h8:k < 8):wd b u (aE s ((k:Int) + 1) { cn s ((k:Int) + 1) with recv:=r,send:=t })=(wd b u s).set 9 (aP (tQ u.pQ s.aC.length (((qW s).set (2 * k) r).set (2 * k + 1) t)) u.TQ):=by
 rw [GI hk h8];dsimp only;rw [GJ hk,Nq hk,Nr hk];rfl
theorem Nv {b:Nat} {u:U} {s:ah} {i:Int} (x:Su) {S:List (List A)} (hS:S=(s.aC.map eS).set i.toNat (eS x)):wd b u (aR s i x)=(wd b u s).set 4 (.row u.vS 52 7 S):=by
 have e1:(aR s i x).aC.map eS=(s.aC.map eS).set i.toNat (eS x):=by unfold aR;exact List.map_set
 have e2:(aR s i x).aC.length=s.aC.length:=by simp [aR]
 rw [hS,← e1]
 show (_ :: _ :: _ :: _ :: _ :: _ :: _ :: _ :: _ :: aP (tQ u.pQ (aR s i x).aC.length (qW s)) u.TQ :: _ :: _ :: _)=_;rw [e2];rfl
class xF (B:List ak) (u:outParam U) (s:outParam ah):Prop where h:True
instance xF.mk' {b:Nat} {t:TypeId} {u:U} {s:ah} {M:List ak}:xF (.box b t (wW u s) :: M) u s:=⟨trivial⟩
section
variable {P:Program} {c:Cx} {k:List Item} {fm:Fm} {L B:List ak} {mk:List ak→List ak} {ops:Array Oper} {l:List Oper} {u:U} {s:ah} {g:Nat}
theorem J.tl (b:Nat) [hs:pZ L b B mk] (A:List ak) (e:A=B) (h:J P c k fm (mk A)):J P c k fm L:=by
 rw [hs.h,← e];exact h
theorem J.Nw {E:List ak}:∀ {B:List ak},J P c k fm E→J P c k fm (E ++ B)
 | [],h=>by simpa using h
 | b :: B,h=>J.drop E.length (by
   have:(E ++ b :: B).eraseIdx E.length=E ++ B:=by rw [List.eraseIdx_append_of_length_le (Nat.le_refl _),Nat.sub_self];rfl
   rw [this];exact J.Nw h)
theorem J.CH (b:Nat) {L0:List ak} [hs:xE L b L0] (h:J P c k fm L0):J P c k fm L:=by
 obtain ⟨B,hB⟩:=hs.h;rw [hB];exact J.Nw h
theorem JO.tl (b:Nat) [hs:pZ L b B mk] (A:List ak) (e:A=B) (h:JO P c ops l k fm (mk A)):JO P c ops l k fm L:=by
 rw [hs.h,← e];exact h
theorem bX [h:Sx.bT g s] {x:Gr} [e:Sx.dY s g x]:(fB u s)[((g:Int)).toNat]?=some (gW x (u.sg g) (u.wk g)):=by rw [← e.h];exact wT h.h
theorem eB:(0:Int)≤(g:Int):=by omega
theorem eD [h:Sx.bT g s]:(g:Int) < (fB u s).length:=by rw [wS];have:=h.h;omega
theorem oL {i:Int} [h:Sx.gX i s] {d:Su} [e:Sx.kK s i d]:(s.aC.map eS)[i.toNat]?=some (eS d):=by rw [← e.h];exact WR h.h0 h.h1
theorem nL {i:Int} {s:ah} [h:Sx.gX i s]:0≤i:=h.h0
theorem nM {i:Int} [h:Sx.gX i s]:i < (s.aC.map eS).length:=by rw [List.length_map];exact h.h1
theorem J.eK (b g:Nat) (f:Gr→Gr) {x:Gr} [hs:pZ L b B mk] [hw:xF B u s] [hg:Sx.bT g s] [hx:Sx.dY s g x] (hB:B=wl b u s ((fB u s).set g (gW (f x) (u.sg g) (u.wk g))) (s.gs.map fun x=>(x.status,x.token)) (iq u s)) (h:J P c k fm (mk (wd b u (bg s g f)))) (e:(f x).status=x.status∧(f x).token=x.token:=by exact ⟨rfl,rfl⟩) (e1:(f x).ay=x.ay:=by rfl) (e2:(f x).an=x.an:=by rfl):J P c k fm L:=by
 have ex:=hx.h;subst ex;exact J.tl b (wd b u (bg s g f)) (by rw [hB];exact Np f hg.h rfl e e1 e2) h
theorem JO.eK (b g:Nat) (f:Gr→Gr) {x:Gr} [hs:pZ L b B mk] [hw:xF B u s] [hg:Sx.bT g s] [hx:Sx.dY s g x] (hB:B=wl b u s ((fB u s).set g (gW (f x) (u.sg g) (u.wk g))) (s.gs.map fun x=>(x.status,x.token)) (iq u s)) (h:JO P c ops l k fm (mk (wd b u (bg s g f)))) (e:(f x).status=x.status∧(f x).token=x.token:=by exact ⟨rfl,rfl⟩) (e1:(f x).ay=x.ay:=by rfl) (e2:(f x).an=x.an:=by rfl):JO P c ops l k fm L:=by
 have ex:=hx.h;subst ex;exact JO.tl b (wd b u (bg s g f)) (by rw [hB];exact Np f hg.h rfl e e1 e2) h
theorem J.Al (b:Nat) (i:Int) (x:Su) [hs:pZ L b B mk] [hw:xF B u s] (hB:B=(wd b u s).set 4 (.row u.vS 52 7 ((s.aC.map eS).set i.toNat (eS x)))) (h:J P c k fm (mk (wd b u (aR s i x)))):J P c k fm L :=
 J.tl b (wd b u (aR s i x)) (by rw [hB];exact Nv x rfl) h
theorem JO.Al (b:Nat) (i:Int) (x:Su) [hs:pZ L b B mk] [hw:xF B u s] (hB:B=(wd b u s).set 4 (.row u.vS 52 7 ((s.aC.map eS).set i.toNat (eS x)))) (h:JO P c ops l k fm (mk (wd b u (aR s i x)))):JO P c ops l k fm L :=
 JO.tl b (wd b u (aR s i x)) (by rw [hB];exact Nv x rfl) h
end
section
variable (b:Nat) (u:U) (s:ah)
theorem WW (k:Nat) (g:Nat) (hk:k < s.au.length) (h8:k < 8) :
  ax prog 130 [.c (.v u.pL),.c (nI ((k:Int) + 1 - 1)),.c (nI g)] (wd b u s) (fun _:Unit=>(.c (bI (Sx.tryLock s g ((k:Int) + 1)).2),wd b u (Sx.tryLock s g ((k:Int) + 1)).1)):=by
 have h:=Lg u.pL (s.au.map (·.lock)) u.TL ((k:Int) + 1 - 1) g;have hl:(s.au.map (·.lock)).getD ((k:Int) + 1 - 1).toNat 0=(cn s ((k:Int) + 1)).lock:=by
  rw [show ((k:Int) + 1 - 1).toNat=k by omega,List.getD_eq_getElem?_getD,List.getElem?_map,oD hk];rfl
 have h0:Lt.has (s.au.map (·.lock)) ((k:Int) + 1 - 1)=true:=by unfold Lt.has;simp;omega
 unfold Sx.tryLock
 by_cases c:(cn s ((k:Int) + 1)).lock=-1
 ·have e1:Lt.kW (s.au.map (·.lock)) ((k:Int) + 1 - 1) g=true:=by unfold Lt.kW;rw [hl,h0,c];simp
  have e2:Lt.kX (s.au.map (·.lock)) ((k:Int) + 1 - 1) g=(s.au.map (·.lock)).set k (g:Int):=by unfold Lt.kX;rw [if_pos e1,show ((k:Int) + 1 - 1).toNat=k by omega]
  rw [e1,e2] at h;rw [if_pos c];exact ax.at_ 8 rfl h fun _=>Nt (g:Int) hk h8
 ·have e1:Lt.kW (s.au.map (·.lock)) ((k:Int) + 1 - 1) g=false:=by unfold Lt.kW;rw [hl,h0];simp [c]
  have e2:Lt.kX (s.au.map (·.lock)) ((k:Int) + 1 - 1) g=s.au.map (·.lock):=by unfold Lt.kX;rw [e1];rfl
  rw [e1,e2] at h;rw [if_neg c];exact ax.at_ 8 rfl h fun _=>rfl
theorem Nx (k:Nat) (g:Nat) (hk:k < s.au.length) (h8:k < 8) (hg:(cn s ((k:Int) + 1)).lock=g) :
  ax prog 79 [.c (.v u.pL),.c (nI ((k:Int) + 1 - 1)),.c (nI g)] (wd b u s) (fun _:Unit=>(.c (bI true),wd b u (Sx.free s ((k:Int) + 1)))):=by
 have h:=Tx u.pL (s.au.map (·.lock)) u.TL ((k:Int) + 1 - 1) g;have hl:(s.au.map (·.lock)).getD ((k:Int) + 1 - 1).toNat 0=(cn s ((k:Int) + 1)).lock:=by
  rw [show ((k:Int) + 1 - 1).toNat=k by omega,List.getD_eq_getElem?_getD,List.getElem?_map,oD hk];rfl
 have h0:Lt.has (s.au.map (·.lock)) ((k:Int) + 1 - 1)=true:=by unfold Lt.has;simp;omega
 have e1:Lt.nt (s.au.map (·.lock)) ((k:Int) + 1 - 1) g=true:=by unfold Lt.nt;rw [hl,h0,hg];simp
 have e2:Lt.oa (s.au.map (·.lock)) ((k:Int) + 1 - 1) g=(s.au.map (·.lock)).set k (-1):=by unfold Lt.oa;rw [if_pos e1,show ((k:Int) + 1 - 1).toNat=k by omega]
 rw [e1,e2] at h;exact ax.at_ 8 rfl h fun _=>Nt (-1) hk h8
theorem xG (g:Nat) (x:Gr) (hg:g < s.gs.length) (e:{ x with status:=(aa s g).status,token:=(aa s g).token }=aa s g):wd b u (ai s g x)=(wd b u s).set 7 (aP (tB u.pB ((s.gs.map fun x=>(x.status,x.token)).set g (x.status,x.token))) u.TB):=by
 have hG:fB u (ai s g x)=fB u s:=by
  rw [← Lp (u:=u) (x:=x) hg];refine qV ?_;rw [Lm hg,← e];rfl
 have hR:iq u (ai s g x)=iq u s:=Lv hg (by rw [← e]) (by rw [← e])
 show wl b u s (fB u (ai s g x)) ((ai s g x).gs.map fun x=>(x.status,x.token)) (iq u (ai s g x))=_;rw [hG,hR,Ls hg];rfl
theorem CI {g:Nat} (hg:g < s.gs.length):(s.gs.map fun x=>(x.status,x.token))[g]?=some ((aa s g).status,(aa s g).token):=by
 rw [List.getElem?_map];unfold aa;rw [List.getD_eq_getElem?_getD,List.getElem?_eq_getElem hg];rfl
theorem WX (g:Nat) (hg:g < s.gs.length) :
  ax prog 80 [.c (.v u.pB),.c (nI g)] (wd b u s) (fun _:Unit=>(.c (bI (Bc.rS (s.gs.map fun x=>(x.status,x.token)) g)),wd b u (Sx.fA s g))):=by
 have h:=Ts u.pB (s.gs.map fun x=>(x.status,x.token)) u.TB g;have hm:Bc.mem (s.gs.map fun x=>(x.status,x.token)) (g:Int)=((aa s g).status,(aa s g).token):=by
  unfold Bc.mem;rw [Int.toNat_natCast,List.getD_eq_getElem?_getD,CI s hg];rfl
 refine ax.at_ 7 rfl h fun _=>?_
 have hs:Bc.status (s.gs.map fun x=>(x.status,x.token)) (g:Int)=(aa s g).status:=Fq hg;unfold Sx.fA Bc.tu;rw [hs,hm,Int.toNat_natCast]
 by_cases c:(aa s g).status=0
 ·rw [if_pos c]
  cases t:(aa s g).token with
  | true =>
   rw [if_pos ⟨c,rfl⟩,if_pos rfl,if_pos c,xG b u s g { aa s g with token:=false } hg rfl,← c]
  | false =>
   rw [if_neg (by simp),if_pos c,if_neg (by simp),xG b u s g { aa s g with status:=1 } hg rfl,t]
 ·rw [if_neg c,if_neg (by simp [c]),if_neg c,xG b u s g (aa s g) hg rfl,qV (CI s hg)]
theorem Am:(qW s).length=16:=by simp [qW]
theorem Ny {j:Nat} (hj:j < 16):(qW s)[j]?=some (if j % 2=0 then (cn s ((j / 2:Nat) + 1)).recv else (cn s ((j / 2:Nat) + 1)).send):=by
 unfold qW;rw [List.getElem?_map,List.getElem?_range hj];rfl
variable {s}
theorem CJ (Q:Qs s) {j:Nat} {l:List Int} (hl:(qW s)[j]?=some l) {i:Int} (hi:i∈l):j / 2 < s.au.length∧(su s i).ch=((j / 2:Nat):Int) + 1∧((su s i).send=true↔j % 2=1)∧0≤i∧i < s.aC.length:=by
 have hj:j < 16:=by have:=(List.getElem?_eq_some_iff.1 hl).1;rwa [Am] at this
 rw [Ny s hj] at hl
 cases hl
 by_cases hc:j / 2 < s.au.length
 ·by_cases e:j % 2=0
  ·rw [if_pos e] at hi;have h:=Q.q (j / 2) hc i (.inl hi);refine ⟨hc,h.2.2.1,⟨fun hs=>absurd hi (h.2.2.2.2 hs),fun e2=>by omega⟩,h.1,h.2.1⟩
  ·rw [if_neg e] at hi;have h:=Q.q (j / 2) hc i (.inr hi);refine ⟨hc,h.2.2.1,⟨fun hs=>by omega,fun e2=>?_⟩,h.1,h.2.1⟩
   cases hs:(su s i).send with
   | true=>rfl
   | false=>exact absurd hi (h.2.2.2.1 hs)
 ·have e:cn s ((j / 2:Nat) + 1)=lW:=by
   unfold cn;rw [List.getD_eq_getElem?_getD,List.getElem?_eq_none (by omega)];rfl
  rw [e] at hi
  split at hi <;> simp [lW] at hi
theorem WY (Q:Qs s) {j j':Nat} {l l':List Int} (hl:(qW s)[j]?=some l) (Bb:(qW s)[j']?=some l') {i:Int} (hi:i∈l) (qh:i∈l'):j=j':=by
 have h1:=CJ Q hl hi;have h2:=CJ Q Bb qh;have e1:(j / 2:Nat)=j' / 2:=by have:=h1.2.1.symm.trans h2.2.1;omega
 have e2:j % 2=1↔j' % 2=1:=h1.2.2.1.symm.trans h2.2.2.1;omega
theorem CU {l:List Int} {i:Int} (h:i∉l):ig l i=l:=List.filter_eq_self.2 fun y hy=>by simp;intro e;exact h (e ▸ hy)
theorem WZ (Q:Qs s) (i:Int):(Qu.drop (qW s) i).1=(qW s).map fun l=>ig l i:=by
 unfold Qu.drop
 cases hl:Qu.loc (qW s) i with
 | none =>
  rw [Qu.qG] at hl;refine (List.map_id (qW s)).symm.trans (List.map_congr_left fun l hm=>(CU fun hi=>hl (List.mem_flatten.2 ⟨l,hm,hi⟩)).symm)
 | some k =>
  obtain ⟨h1,h2⟩:=Qu.yQ hl
  show (qW s).set k (((qW s).getD k []).filter (fun y=>y != i))=_;rw [List.getD_eq_getElem?_getD,List.getElem?_eq_getElem h1,Option.getD_some] at h2 ⊢;refine List.ext_getElem? fun j=>?_
  rw [List.getElem?_set,List.getElem?_map]
  by_cases e:k=j
  ·subst e;rw [if_pos rfl,if_pos h1,List.getElem?_eq_getElem h1];rfl
  ·rw [if_neg e]
   cases hj:(qW s)[j]? with
   | none=>rfl
   | some l=>rw [Option.map_some,CU fun hi=>e (WY Q (List.getElem?_eq_getElem h1) hj h2 hi)]
theorem vI {ch:Int} (h:aN s ch=true):∃ k:Nat,ch=(k:Int) + 1∧k < s.au.length:=by
 unfold aN at h;simp only [decide_eq_true_eq] at h;exact ⟨(ch - 1).toNat,by omega,by omega⟩
theorem W0 (Q:Qs s) (i:Int):(Qu.drop (qW s) i).1=qW (bq s i):=by
 rw [WZ Q i];unfold bq
 split
 ·rename_i hm;obtain ⟨k,hk,aQ⟩:=vI hm;have c8:=Q.c8;rw [hk,GH aQ (by omega)];unfold qC;refine List.ext_getElem? fun j=>?_
  rw [List.getElem?_map]
  cases hj:(qW s)[j]? with
  | none =>
   rw [Option.map_none,eq_comm,List.getElem?_eq_none];simpa using List.getElem?_eq_none_iff.1 hj
  | some l =>
   have CV:j < 16:=by have:=(List.getElem?_eq_some_iff.1 hj).1;rwa [Am] at this
   rw [Option.map_some,List.getElem?_set,List.getElem?_set,List.length_set,Am]
   by_cases e1:2 * k + 1=j
   ·subst e1;rw [if_pos rfl,if_pos CV];rw [(Ak (s:=s) (k:=k) (by omega)).2] at hj
    cases hj;rfl
   ·rw [if_neg e1]
    by_cases e2:2 * k=j
    ·subst e2;rw [if_pos rfl,if_pos CV];rw [(Ak (s:=s) (k:=k) (by omega)).1] at hj
     cases hj;rfl
    ·rw [if_neg e2,hj,CU];intro hi;have:=(CJ Q hj hi).2.1;omega
 ·rename_i hm;refine (List.map_congr_left fun l hl=>?_).trans (List.map_id _);obtain ⟨j,hj⟩:=List.getElem?_of_mem hl;refine CU fun hi=>hm ?_
  have:=CJ Q hj hi;unfold aN;rw [this.2.1];simp only [decide_eq_true_eq];omega
theorem GK (Q:Qs s) (i:Int) :
  ∃ o,ax prog 111 [.c (.v u.pQ),.c (nI i)] (wd b u s) (fun _:Unit=>(.c (bI o),wd b u (bq s i))):=by
 have h:=TC u.pQ s.aC.length (qW s) u.TQ i;refine ⟨_,ax.at_ 9 rfl h fun _=>?_⟩;rw [W0 Q i];unfold bq
 split
 ·rename_i hm;obtain ⟨k,hk,aQ⟩:=vI hm;have c8:=Q.c8;rw [hk,Nu _ _ aQ (by omega),GH aQ (by omega)];rfl
 ·rfl
theorem W1 (Q:Qs s) {k:Nat} (hk:k < s.au.length) (x:Int) (h0:0≤x) (h1:x < s.aC.length) (hn:∀ c,x∉(cn s c).recv∧x∉(cn s c).send) :
  ax prog 107 [.c (.v u.pQ),.c (nI (2 * ((k:Int) + 1) - 1)),.c (nI x)] (wd b u s) (fun _:Unit=>(.c (bI true),wd b u (aE s ((k:Int) + 1) { cn s ((k:Int) + 1) with send:=(cn s ((k:Int) + 1)).send ++ [x] }))):=by
 have c8:=Q.c8;have h:=Fj u.pQ s.aC.length (qW s) u.TQ (2 * ((k:Int) + 1) - 1) x;have e:Qu.push s.aC.length (qW s) (2 * ((k:Int) + 1) - 1) x=(((qW s).set (2 * k) (cn s ((k:Int) + 1)).recv).set (2 * k + 1) ((cn s ((k:Int) + 1)).send ++ [x]),true):=by
  have hl:Qu.loc (qW s) x=none:=by
   rw [Qu.qG];intro hm;obtain ⟨l,hl,hx⟩:=List.mem_flatten.1 hm;obtain ⟨j,hj⟩:=List.getElem?_of_mem hl;have CV:j < 16:=by have:=(List.getElem?_eq_some_iff.1 hj).1;rwa [Am] at this
   rw [Ny s CV] at hj
   cases hj
   split at hx
   ·exact (hn _).1 hx
   ·exact (hn _).2 hx
  have hr:=Fs (s:=s) (k:=k) (by omega);have wP:Qu.line (qW s) (2 * ((k:Int) + 1) - 1)=true:=by unfold Qu.line;rw [Am];simp only [Bool.and_eq_true,decide_eq_true_eq];omega
  unfold Qu.push;rw [wP,hl,if_pos (by simp;omega),hr,qV (Ak (by omega)).1,show (2 * ((k:Int) + 1) - 1).toNat=2 * k + 1 by omega]
 rw [e] at h;exact ax.at_ 9 rfl h fun _=>Nu _ _ hk (by omega)
end
end Fl
open Go.RowKit
namespace Fl
open Sx Go.Proofs.Tryz
set_option maxRecDepth 100000
theorem W2:Is (fun l:List Int=>[ints l]) Dz:=fun ok w cs l r=>by
 unfold RC at r;obtain ⟨x,xs,e1,r1,r2⟩:=r;have e2:=r2.n0;subst e2;obtain ⟨S,h1,h2⟩:=IV.Fi r1;exact ⟨S,⟨x,e1,h1⟩,fun y hy=>⟨h2 y hy,h1.lt y hy⟩⟩
theorem W3 (room:Int) (l:List Int) (h:0≤room∧room≤64∧(l.length:Int)≤room):ax prog 129 [.c (nI room),.c (ints l)] [] (fun x:Value × List Nat=>(.aZ [.c (.v x.1),.c (nI 0)],[aP (tR [(x.1,room.toNat,l)]) x.2])):=⟨fun ok e xs hd _ _ _=>by
 obtain ⟨ys,rfl,h1⟩:=hd.cv;obtain ⟨v,zs,rfl,r,h2⟩:=h1.c;rw [h2.Le];obtain ⟨S,s1,s2⟩:=IV.Fi r;refine (Tg e room v l S s1).mono ?_;intro en w' hp;unfold BK at hp;rw [if_pos h] at hp;obtain ⟨p,T,rfl,k,g,hT⟩:=hp;refine ⟨(p,T),_,rfl,by simpa [aT] using k,fun y hy=>.inr (hT y (by simpa [aT,aP,ak.bY] using hy)),List.pairwise_singleton _ _,fun q hq=>?_,?_⟩
 ·rw [List.mem_singleton.1 hq];refine (aP.holds tR.ok).2 ⟨[T],rfl,by simp,List.pairwise_singleton _ _,fun i x Si hi hs=>?_⟩
  cases i with
  | zero=>simp at hi hs;subst hi hs;exact g
  | succ i=>simp at hi
 ·obtain ⟨b,rfl⟩:=Rg.shape g;exact RD.zu rfl rfl⟩
theorem W4 (size most f:Nat) (C:List (List Int)) (M:List Int) (hM:M.length≤1000) (hC:∀ l∈C,l.length≤1000) (ho:Po.of size most f C M=true) :
  ax prog 55 [.c (nI size),.c (nI most),.c (.r 1 (C.map fun l=>[ints l])),.c (ints M),.c (nI f)] []
   (fun x:{ x:Value × List Nat × List Bool // Po.settle f (List.replicate size false) (C.flatten ++ M)=(x.2.2,true) }=>(.aZ [.c (.v x.1.1),.c (nI 0)],[aP (tP x.1.1 size most ⟨C,M,f,x.1.2.2⟩) x.1.2.1])):=⟨fun ok e xs hd _ _ _=>by
 obtain ⟨y1,rfl,h1⟩:=hd.cv;obtain ⟨y2,rfl,h2⟩:=h1.cv;obtain ⟨vc,y3,rfl,r3,h3⟩:=h2.c;obtain ⟨vm,y4,rfl,r4,h4⟩:=h3.c;obtain rfl:=h4.v1;obtain ⟨S,s1,s2⟩:=W2.gv r3;obtain ⟨T,t1,t2⟩:=IV.Fi r4;have W5:RP e vc vm C M (S ++ T):=⟨s1.mono (fun x hx=>List.mem_append_left _ hx) (fun x hx=>(List.mem_append.1 hx).elim (fun h=>(s2 x h).2) (fun h=>t1.lt x h)),T,t1,fun x hx=>List.mem_append_right _ hx⟩
 refine (Vd e size most f vc vm C M _ W5 hM hC).mono ?_
 rintro en w' ⟨k,⟨_,b,R,H,rfl,g1,g2,g3⟩ | ⟨g1,_⟩⟩
 ·refine ⟨⟨(.pointer (some ⟨b,0,none⟩),R,H),by simpa using g3⟩,_,rfl,by simpa [aT] using k,fun y hy=>.inr (g2 y (by simpa [aT,aP,ak.bY] using hy)),List.pairwise_singleton _ _,fun q hq=>?_,RD.zu rfl rfl⟩;rw [List.mem_singleton.1 hq];exact (aP.holds tP.ok).2 g1
 ·rw [ho] at g1;cases g1⟩
theorem tR.app {l1 l2:List (Value × Nat × List Int)} {w:World} {S1 S2:List Nat} (h1:tR l1 w S1) (h2:tR l2 w S2) (ha:∀ x∈S1,x∉S2):tR (l1 ++ l2) w (S1 ++ S2):=by
 obtain ⟨A,a1,rfl,a3,a4⟩:=h1;obtain ⟨B,b1,rfl,b3,b4⟩:=h2;refine ⟨A ++ B,by simp [a1,b1],by simp,List.pairwise_append.2 ⟨a3,b3,fun X hX Y hY x hx hy=>ha x (List.mem_flatten.2 ⟨X,hX,hx⟩) (List.mem_flatten.2 ⟨Y,hY,hy⟩)⟩,fun i x Si hi hs=>?_⟩
 by_cases c:i < l1.length
 ·rw [List.getElem?_append_left c] at hi;rw [List.getElem?_append_left (by omega)] at hs;exact a4 i x Si hi hs
 ·rw [List.getElem?_append_right (by omega)] at hi;rw [List.getElem?_append_right (by omega),a1] at hs;exact b4 _ x Si hi hs
section
variable {P:Program} {c:Cx} {k:List Item} {f:Fm} {L:List ak}
theorem J.rings {l1 l2:List (Value × Nat × List Int)} {S1 S2:List Nat} (h:J P c k f (aP (tR (l1 ++ l2)) (S1 ++ S2) :: L)):J P c k f (aP (tR l1) S1 :: aP (tR l2) S2 :: L):=⟨fun a w s=>by
 have hf:aT (aP (tR (l1 ++ l2)) (S1 ++ S2) :: L)=aT (aP (tR l1) S1 :: aP (tR l2) S2 :: L):=by simp [aT,aP,ak.bY]
 have ho:bG c (aP (tR (l1 ++ l2)) (S1 ++ S2) :: L)=bG c (aP (tR l1) S1 :: aP (tR l2) S2 :: L):=by funext x;unfold bG;rw [hf]
 have ap:=List.pairwise_cons.1 s.ap;have Nz:=List.pairwise_cons.1 ap.2;have q1:=(aP.holds tR.ok).1 (s.res _ (List.mem_cons_self ..));have q2:=(aP.holds tR.ok).1 (s.res _ (List.mem_cons_of_mem _ (List.mem_cons_self ..)));have hd:∀ x∈S1,x∉S2:=fun x hx hy=>ap.1 _ (List.mem_cons_self ..) x (by simpa [aP,ak.bY] using hx) (by simpa [aP,ak.bY] using hy)
 refine h.go a w ⟨s.kp,s.size,s.jV,fun q hq=>?_,fun x hx=>s.fF x (hf ▸ hx),List.pairwise_cons.2 ⟨fun q hq x hx hy=>?_,Nz.2⟩,fun t d ht=>by rw [ho];exact s.fr t d ht⟩
 ·rw [ho];rcases List.mem_cons.1 hq with rfl | hq
  ·exact (aP.holds tR.ok).2 (q1.app q2 hd)
  ·exact s.res q (List.mem_cons_of_mem _ (List.mem_cons_of_mem _ hq))
 ·rcases List.mem_append.1 (show x∈S1 ++ S2 by simpa [aP,ak.bY] using hx) with hx | hx
  ·exact ap.1 q (List.mem_cons_of_mem _ hq) x (by simpa [aP,ak.bY] using hx) hy
  ·exact Nz.1 q hq x (by simpa [aP,ak.bY] using hx) hy⟩
end
end Fl
end Go.Proofs.YtofnbflkhgammaaGreat
