/-
  What the laws need, part A19.
  Conditions: none.
-/
import Derived.Test.YtofnbflkhgammaaGreatA11
import Derived.Test.YtofnbflkhgammaaGreatA18
set_option linter.unusedVariables false
set_option linter.unusedSimpArgs false
set_option linter.unnecessarySimpa false
set_option maxHeartbeats 2000000
namespace Go.Proofs.YtofnbflkhgammaaGreat
open Go.RowKit
namespace Sx
def bq (s:St) (g:Nat) (f:Gr→Gr):St:=aa s g (f (gr s g))
theorem we {s:St} {g k:Nat} {f:Gr→Gr} (h:g < s.gs.length):g < (bq s k f).gs.length:=by simpa [bq,aa] using h
theorem UL {s:St} {g k:Nat} {x:Gr} (h:g < s.gs.length):g < (aa s k x).gs.length:=by simpa [aa] using h
class cy (g:Nat) (s:St):Prop where h:g < s.gs.length
class oa (k g:Nat):Prop where h:k≠g
class dR (s:St) (g:Nat) (x:outParam Gr):Prop where h:gr s g=x
class ko (i:Int) (s:St):Prop where
 h0:0≤i
 h1:i < s.aB.length
class lD (s:St) (i:Int) (x:outParam Su):Prop where h:su s i=x
section
variable {s:St} {g k:Nat} {x y:Gr} {f:Gr→Gr} {i j:Int} {d e:Su} {c:Int} {n:Cn}
instance cy.bq [h:cy k s]:cy k (bq s g f):=⟨we h.h⟩
instance cy.aF [h:cy k s]:cy k (aF s i d):=⟨h.h⟩
instance cy.av [h:cy k s]:cy k (av s c n):=⟨h.h⟩
theorem fL:(drop s i).gs=s.gs:=by unfold drop;split <;> rfl
theorem Lw:(drop s i).aB=s.aB:=by unfold drop;split <;> rfl
instance cy.drop [h:cy k s]:cy k (drop s i):=⟨by rw [fL];exact h.h⟩
instance (priority:=low) dR.self:dR s g (gr s g):=⟨rfl⟩
theorem Fp (h:g < s.gs.length):gr (aa s g x) k=if k=g then x else gr s k:=by
 unfold gr aa;rw [List.getD_eq_getElem?_getD,List.getD_eq_getElem?_getD,List.getElem?_set]
 by_cases e:g=k
 ·subst e;simp [h]
 ·rw [if_neg e,if_neg (Ne.symm e)]
instance dR.aap [n:oa k g] [h:cy g s] [i:dR s k x]:dR (bq s g f) k x:=⟨by unfold Sx.bq;rw [Fp h.h,if_neg n.h];exact i.h⟩
instance dR.bq [h:cy g s] [i:dR s g x]:dR (bq s g f) g (f x):=⟨by unfold Sx.bq;rw [Fp h.h,if_pos rfl,i.h]⟩
instance dR.aF [h:dR s g x]:dR (aF s i d) g x:=⟨h.h⟩
instance dR.av [h:dR s g x]:dR (av s c n) g x:=⟨h.h⟩
instance dR.drop [h:dR s g x]:dR (drop s i) g x:=⟨by unfold gr;rw [fL];exact h.h⟩
instance ko.bq [h:ko i s]:ko i (bq s g f):=⟨h.h0,h.h1⟩
instance ko.drop [h:ko i s]:ko i (drop s j):=⟨h.h0,by rw [Lw];exact h.h1⟩
instance (priority:=low) lD.self:lD s i (su s i):=⟨rfl⟩
instance lD.bq [h:lD s i d]:lD (bq s g f) i d:=⟨h.h⟩
instance lD.drop [h:lD s i d]:lD (drop s j) i d:=⟨by unfold su;rw [Lw];exact h.h⟩
instance cy.free [h:cy k s]:cy k (free s c):=⟨h.h⟩
instance dR.free [h:dR s g x]:dR (free s c) g x:=⟨h.h⟩
theorem Lx {y:Int}:(dU s g y).gs=s.gs∧(dU s g y).aB=s.aB:=by unfold dU;split <;> exact ⟨rfl,rfl⟩
instance cy.dU {y:Int} [h:cy k s]:cy k (dU s g y):=⟨by rw [Lx.1];exact h.h⟩
instance dR.dU {y:Int} [h:dR s k x]:dR (dU s g y) k x:=⟨by unfold gr;rw [Lx.1];exact h.h⟩
theorem UM {a:Nat} (hn:g≠a) (ha:a < s.gs.length):gr (ready s a) g=gr s g:=by unfold ready;rw [Fp ha,if_neg hn]
instance cy.ready {a:Nat} [h:cy k s]:cy k (Sx.ready s a):=⟨by unfold Sx.ready;exact UL h.h⟩
instance dR.ready {a:Nat} [n:oa g a] [h:cy a s] [i:dR s g x]:dR (Sx.ready s a) g x:=⟨(UM n.h h.h).trans i.h⟩
end
end Sx
namespace Fl
open Sx
section
variable {P:Program} {F:FuncId} {ds:List D} {L Ll Lr:List ai}
theorem aq.frame {ι:Type} {dd:ι→D} {M L':ι→List ai} (Lr:List ai) (hC:aq P F ds Ll (fun x=>(dd x,M x))) (hL:(Ll ++ Lr).Perm L) (r9:∀ x,(L' x).Perm (M x ++ Lr)):aq P F ds L (fun x=>(dd x,L' x)):=⟨fun ok e xs hd hr ha hf=>by
 have UN:fA (Ll ++ Lr):=(hL.pairwise_iff (fun {x y} lI z hz qz=>lI z qz hz)).2 ha;have oE:=List.pairwise_append.1 UN;have hm:∀ x,x∈aO L↔x∈aO Ll∨x∈aO Lr:=fun x=>by rw [← qL hL x,oD]
 have ig:∀ r∈Ll,r∈L:=fun r h=>hL.mem_iff.1 (List.mem_append_left _ h)
 have Ly:∀ r∈Lr,r∈L:=fun r h=>hL.mem_iff.1 (List.mem_append_right _ h)
 have oF:∀ x,x∈aO Ll→x∉aO Lr:=fun x hx fC=>by
  obtain ⟨q,hq,h1⟩:=c9.1 hx;obtain ⟨r,hr,h2⟩:=c9.1 fC;exact oE.2.2 q hq r hr x h1 h2
 have cA:∀ x,x∈aO Lr→x < e.heap.size:=fun x hx=>by
  obtain ⟨r,h1,h2⟩:=c9.1 hx;exact (hr r (Ly r h1)).lt x h2
 refine Calls.mono (hC.go ok e xs hd (fun r h=>hr r (ig r h)) oE.1 (fun x hx=>hf x ((hm x).2 (.inl hx)))) ?_
 rintro en w' ⟨i,x,rfl,kp,g1,g2,g3,g4⟩
 have l9:∀ y,y∈aO (L' i)↔y∈aO (M i)∨y∈aO Lr:=fun y=>by rw [qL (r9 i) y,oD]
 have m9:∀ g,g < w'.heap.size→lO ok e Ll (M i) g→lO ok e L (L' i) g:=fun g _ hg=>by
  obtain ⟨hg,hn⟩:=hg;refine ⟨?_,fun hx=>?_⟩
  ·rcases hg with hg | hg | hg
   ·exact .inl hg
   ·exact .inr (.inl ((hm g).2 (.inl hg)))
   ·exact .inr (.inr hg)
  ·rcases (l9 g).1 hx with hx | hx
   ·exact hn hx
   ·rcases hg with hg | hg | hg
    ·exact hf g ((hm g).2 (.inr hx)) hg
    ·exact oF g hg hx
    ·have:=cA g hx;omega
 have m1:Mon (lO ok e Ll (M i)) (lO ok e L (L' i)) w' w':=⟨Nat.le_refl _,fun g hg ho=>⟨m9 g hg ho,rfl⟩⟩
 have m2:Mon ok (lO ok e L (L' i)) e w':=Mon.kT kp fun g hg ho=>⟨⟨.inl ho,fun hx=>by
  rcases (l9 g).1 hx with hx | hx
  ·rcases g1 g hx with h | h
   ·exact hf g ((hm g).2 (.inl h)) ho
   ·omega
  ·exact hf g ((hm g).2 (.inr hx)) ho⟩,fun hx=>hf g ((hm g).2 (.inl hx)) ho⟩
 refine ⟨i,x,rfl,kp.mono (fun y hy=>.inl ((hm y).2 (.inl hy))),fun y hy=>?_,?_,fun r tK=>?_,RD.cK m1 _ _ g4⟩
 ·rcases (l9 y).1 hy with hy | hy
  ·rcases g1 y hy with h | h
   ·exact .inl ((hm y).2 (.inl h))
   ·exact .inr h
  ·exact .inl ((hm y).2 (.inr hy))
 ·refine ((r9 i).pairwise_iff (fun {x y} lI z hz qz=>lI z qz hz)).2 ?_;refine List.pairwise_append.2 ⟨g2,oE.2.1,fun q hq r hr x hx fC=>?_⟩;have qF:x∈aO Lr:=c9.2 ⟨r,hr,fC⟩;rcases g1 x (c9.2 ⟨q,hq,hx⟩) with h | h
  ·exact oF x h qF
  ·have:=cA x qF;omega
 ·rcases List.mem_append.1 ((r9 i).mem_iff.1 tK) with h | h
  ·exact (g3 r h).cK (aj.refl [] w') m1 (by simp)
  ·exact (hr r (Ly r h)).cK kp m2 (fun x hx fC=>oF x fC (c9.2 ⟨r,h,hx⟩))⟩
theorem aq.at_ (j:Nat) {r:ai} {ι:Type} {dd:ι→D} {r':ι→ai} {L':ι→List ai} (hj:L[j]?=some r) (hC:aq P F ds [r] (fun x=>(dd x,[r' x]))) (r9:∀ x,L' x=L.set j (r' x)):aq P F ds L (fun x=>(dd x,L' x)) :=
 aq.frame (L.eraseIdx j) hC (rV L j hj) fun x=>by rw [r9 x];exact set_perm hj
end
class oe {ι:Type} (L Ll:List ai) (M:ι→List ai) (L':outParam (ι→List ai)):Prop where h:∃ E,L=E ++ Ll∧L'=fun x=>E ++ M x
instance oe.succ {ι:Type} {q:ai} {L Ll:List ai} {M L':ι→List ai} [h:oe L Ll M L']:oe (q :: L) Ll M (fun x=>q :: L' x):=⟨by
 obtain ⟨E,h1,h2⟩:=h.h;exact ⟨q :: E,by rw [h1];rfl,by rw [h2];rfl⟩⟩
instance oe.zero {ι:Type} {L:List ai} {M:ι→List ai}:oe L L M M:=⟨⟨[],rfl,rfl⟩⟩
instance (priority:=low) oe.app {ι:Type} {A L Ll:List ai} {M L':ι→List ai} [h:oe L Ll M L']:oe (A ++ L) Ll M (fun x=>A ++ L' x):=⟨by
 obtain ⟨E,h1,h2⟩:=h.h;exact ⟨A ++ E,by rw [h1,List.append_assoc],by rw [h2];funext x;rw [List.append_assoc]⟩⟩
instance (priority:=low) oe.end_ {ι:Type} {A:List ai} {M:ι→List ai}:oe A [] M (fun x=>A ++ M x):=⟨⟨A,by simp,rfl⟩⟩
class sZ (L:List ai) (b:Nat) (L0:outParam (List ai)):Prop where h:∃ B,L=L0 ++ B
instance sZ.succ {q:ai} {L L0:List ai} {b:Nat} [h:sZ L b L0]:sZ (q :: L) b (q :: L0):=⟨by
 obtain ⟨B,hB⟩:=h.h;exact ⟨B,by rw [hB];rfl⟩⟩
instance sZ.zero {b:Nat} {t:TypeId} {cs:List A} {M:List ai}:sZ (.box b t cs :: M) b []:=⟨⟨_,rfl⟩⟩
instance sZ.app {E:List ai} {b:Nat} {t:TypeId} {cs:List A} {M:List ai}:sZ (E ++ .box b t cs :: M) b E:=⟨⟨_,rfl⟩⟩
class uH (L:List ai) (b:Nat) (B:outParam (List ai)) (mk:outParam (List ai→List ai)):Prop where
 h:L=mk B
 e:∃ E,∀ X,mk X=E ++ X
instance uH.zero {b:Nat} {t:TypeId} {cs:List A} {M:List ai}:uH (.box b t cs :: M) b (.box b t cs :: M) (fun A=>A):=⟨rfl,[],fun _=>rfl⟩
section
variable {P:Program} {c:Cx} {k:List Item} {f:Fm} {L L2:List ai} {T X:TypeId} {ps:String} {af:Array Edge} {gd:Option (Nat × Bool)} {t:Nat}
theorem Ld.bU {F:FuncId} {args:List Operand} {tys:Array TypeId} {cZ ds:List D} {ι:Type} {dd:ι→D} {Ll:List ai} {M L':ι→List ai} [i:aG P F] (hC:aq P F ds Ll (fun x=>(dd x,M x))) [hs:oe L Ll M L'] (ht:t < c.N) (h:iq f args=some cZ) (hle:aL cZ ds) :
  Ld P c ⟨some t,.call ⟨.value (.func F),args.toArray,tys⟩,T,ps,af,gd⟩ f L (aO Ll) (fun x=>(t,dd x) :: f) L':=by
 obtain ⟨E,h1,h2⟩:=hs.h;subst h1 h2;exact Ld.O6 E _ hC List.perm_append_comm (fun x=>List.perm_append_comm) ht h hle
theorem Ld.UO {F:FuncId} {args:List Operand} {tys:Array TypeId} {cZ ds:List D} {ι:Type} {dd:ι→D} {M L':ι→List ai} [i:aG P F] (hC:aq P F ds [] (fun x=>(dd x,M x))) (hL:∀ x,L' x=M x ++ L) (ht:t < c.N) (h:iq f args=some cZ) (hle:aL cZ ds) :
  Ld P c ⟨some t,.call ⟨.value (.func F),args.toArray,tys⟩,T,ps,af,gd⟩ f L [] (fun x=>(t,dd x) :: f) L':=by
 obtain rfl:L'=fun x=>M x ++ L:=funext hL
 exact Ld.call (P:=P) (c:=c) (T:=T) (ps:=ps) (af:=af) (gd:=gd) (L:=L) (f:=f) (tys:=tys) hC ht h hle (Ll:=[]) (Lr:=L) rfl
end
def yV (L:List ai):List Nat:=List.range L.length
theorem UP {L:List ai} {x:Nat} (h:x∈aO L):x∈jD L (yV L):=by
 obtain ⟨r,hr,hx⟩:=c9.1 h;obtain ⟨i,hi⟩:=List.getElem?_of_mem hr;exact xw.2 ⟨i,List.mem_range.2 (List.getElem?_eq_some_iff.1 hi).1,r,hi,hx⟩
def eu (S:List Nat) (L:List ai):Prop:=∀ x∈S,x∈aO L
theorem eu.nil {L:List ai}:eu [] L:=fun x hx=>by cases hx
theorem eu.aO {L Ll:List ai} {L':Unit→List ai} [h:oe L Ll (fun _:Unit=>([]:List ai)) L']:eu (Fl.aO Ll) L:=fun x hx=>by
 obtain ⟨E,h1,_⟩:=h.h;rw [h1,oD];exact .inr hx
section
variable {P:Program} {c:Cx} {k:List Item} {f f0:Fm} {L L0:List ai} {ops:Array Oper} {o:Oper} {m:Option Nat} {n:Nat} {aH:Array Bool}
theorem JW.wh (m:Option Nat) (h:JD P c ops m (yV L) n aH k f L f L):JW P c ops n aH k f L:=JW.iR _ _ h
theorem JS.fF {S:List Nat} {i t:Nat} {ι:Type} {g:ι→D} {L':ι→List ai} (hi:ops[i]?=some o) (hd:o.dst=some t) (hw:dJ ops o f=true) (ht:t < c.N) (q:Ld P c o f L S (fun x=>(t,g x) :: f) L') (hS:eu S L)
  (h:∀ x,JD P c ops m (yV L0) n (aH.setIfInBounds i true) k ((t,g x) :: f) (L' x) ((t,stays (g x)) :: f0) L0):JS P c ops m (yV L0) n aH k f L f0 L0 i:=⟨fun a w w0 s s0 kp ho=>by
 refine wpOp_step hi (fun K hK=>?_);rw [dJ.run hw s,if_pos rfl];refine q.go a w s K _ fun x v w' qI sx hf=>?_
 have rY:aj (jD L0 (yV L0)) w0 w':=kp.trans qI fun x hx=>by
  rcases ho x (hS x hx) with h | h
  ·exact .inl (UP h)
  ·exact .inr h
 refine hK _ _ (.inr ⟨rY,(h x).go _ w' w0 sx ?_ rY ?_⟩)
 ·rw [hd];exact s0.mq ht (stays.rep (by
   have h1:=sx.fr t (g x) (rW _ _ _);have h2:=s.size;rw [hd] at h1;simpa [Act.put,Array.getD_eq_getD_getElem?,Array.getElem?_setIfInBounds,h2,ht] using h1))
 ·intro y hy;rcases hf y hy with h1 | h1
  ·exact ho y h1
  ·exact .inr (Nat.le_trans kp.size h1)⟩
end
theorem UQ {s:Sx.St} {i:Int} (h0:0≤i) (h:i < s.aB.length):(s.aB.map eS)[i.toNat]?=some (eS (su s i)):=by
 unfold su;rw [List.getElem?_map,List.getD_eq_getElem?_getD,List.getElem?_eq_getElem (show i.toNat < s.aB.length by omega)];rfl
theorem UR {b:Nat} {u:U} {s:Sx.St} {g:Nat} (f:Gr→Gr) {G:List (List A)} (hg:g < s.gs.length) (hG:G=(dc u s).set g (gW (f (Sx.gr s g)) (u.sg g) (u.wk g))) (e:(f (Sx.gr s g)).status=(Sx.gr s g).status∧(f (Sx.gr s g)).token=(Sx.gr s g).token:=by exact ⟨rfl,rfl⟩) (e1:(f (Sx.gr s g)).ak=(Sx.gr s g).ak:=by rfl) (e2:(f (Sx.gr s g)).ah=(Sx.gr s g).ah:=by rfl) :
  wd b u (Sx.bq s g f)=wl b u s G (s.gs.map fun x=>(x.status,x.token)) (fE u s):=Ey (f (Sx.gr s g)) hg hG e e1 e2
theorem ta {α:Type} {l:List α} {i:Nat} {a:α} (h:l[i]?=some a):l.set i a=l:=List.ext_getElem? fun j=>by
 rw [List.getElem?_set]
 split
 ·rename_i e;subst e;rw [h];simp [(List.getElem?_eq_some_iff.1 h).1]
 ·rfl
theorem Fq {s:Sx.St} {k j:Nat} {c:Cn} (hk:k < s.an.length):cn (Sx.av s ((k:Int) + 1) c) ((j:Int) + 1)=if j=k then c else cn s ((j:Int) + 1):=by
 unfold cn Sx.av;rw [show ((k:Int) + 1 - 1).toNat=k by omega,show ((j:Int) + 1 - 1).toNat=j by omega];simp only [List.getD_eq_getElem?_getD,List.getElem?_set]
 by_cases e:k=j
 ·subst e;simp [hk]
 ·rw [if_neg e,if_neg (Ne.symm e)]
def qC (s:Sx.St) (k:Nat) (c:Cn):List (List Int):=((qW s).set (2 * k) c.recv).set (2 * k + 1) c.send
theorem Fs {s:Sx.St} {k:Nat} {c:Cn} (hk:k < s.an.length) (h8:k < 8):qW (Sx.av s ((k:Int) + 1) c)=qC s k c:=by
 unfold qC qW;refine List.ext_getElem? fun j=>?_
 by_cases hj:j < 16
 ·simp only [List.getElem?_set,List.getElem?_map,List.getElem?_range hj,Option.map_some,List.length_map,List.length_range,List.length_set,Fq hk]
  by_cases e1:2 * k + 1=j
  ·subst e1;have h1:(2 * k + 1) / 2=k:=by omega
   have h2:(2 * k + 1) % 2=1:=by omega
   simp [h1,hj]
  ·rw [if_neg e1]
   by_cases e2:2 * k=j
   ·subst e2;simp [hj]
   ·rw [if_neg e2];have h1:j / 2≠k:=by omega
    simp [h1]
 ·rw [List.getElem?_eq_none (by simp;omega),List.getElem?_eq_none (by simp;omega)]
theorem US {u:U} {s:Sx.St} {k:Nat} {c:Cn} (hk:k < s.an.length):nR u (Sx.av s ((k:Int) + 1) c)=(nR u s).set k (u.rs k,c.cap.toNat,c.buf):=by
 unfold nR;rw [show (Sx.av s ((k:Int) + 1) c).an.length=s.an.length by simp [Sx.av]];refine (yg hk ?_ fun j hj _=>?_).symm
 ·rw [Fq hk,if_pos rfl]
 ·rw [Fq hk,if_neg hj]
theorem UT {s:Sx.St} {k:Nat} {c:Cn}:((Sx.av s ((k:Int) + 1) c).an.map fun c=>[bI c.closed])=(s.an.map fun c=>[bI c.closed]).set k [bI c.closed]:=by
 unfold Sx.av;rw [show ((k:Int) + 1 - 1).toNat=k by omega];exact List.map_set
theorem UU {s:Sx.St} {k:Nat} {c:Cn}:((Sx.av s ((k:Int) + 1) c).an.map (·.lock))=(s.an.map (·.lock)).set k c.lock:=by
 unfold Sx.av;rw [show ((k:Int) + 1 - 1).toNat=k by omega];exact List.map_set
theorem Ft {b:Nat} {u:U} {s:Sx.St} {k:Nat} {c:Cn} (hk:k < s.an.length) (h8:k < 8):wd b u (Sx.av s ((k:Int) + 1) c) =
  .box b 81 (wW u s) ::
  .row u.vG 47 25 (dc u s) ::
  .row u.vR 110 1 ((List.range s.an.length).map fun i=>[.v (u.rs i)]) ::
  .row u.vC 4 1 ((s.an.map fun c=>[bI c.closed]).set k [bI c.closed]) ::
  .row u.vS 52 7 (s.aB.map eS) ::
  .row u.vM 54 13 (s.done.map eM) ::
  .box u.bD 145 [dW s,nI s.drawn] ::
  aI (tB u.pB (s.gs.map fun x=>(x.status,x.token))) u.TB ::
  aI (tL u.pL ((s.an.map (·.lock)).set k c.lock)) u.TL ::
  aI (tQ u.pQ s.aB.length (qC s k c)) u.TQ ::
  aI (tP u.pP s.dB.toNat s.bN.toNat (fD u s)) u.TP ::
  aI (tR ((nR u s).set k (u.rs k,c.cap.toNat,c.buf))) u.TR :: fE u s:=by
 rw [← UT,← UU,← Fs hk h8,← US hk,show s.an.length=(Sx.av s ((k:Int) + 1) c).an.length by simp [Sx.av]];rfl
theorem Lz {s:Sx.St} {k:Nat} (hk:k < s.an.length):(s.an.map fun c=>[bI c.closed]).set k [bI (cn s ((k:Int) + 1)).closed]=(s.an.map fun c=>[bI c.closed]):=ta (by rw [List.getElem?_map,oM hk];rfl)
theorem LA {s:Sx.St} {k:Nat} (hk:k < s.an.length):(s.an.map (·.lock)).set k (cn s ((k:Int) + 1)).lock=s.an.map (·.lock):=ta (by rw [List.getElem?_map,oM hk];rfl)
theorem Fu {u:U} {s:Sx.St} {k:Nat} (hk:k < s.an.length):(nR u s).set k (u.rs k,(cn s ((k:Int) + 1)).cap.toNat,(cn s ((k:Int) + 1)).buf)=nR u s:=ta (EB hk)
theorem BA {s:Sx.St} {k:Nat} (h8:k < 8):(qW s)[2 * k]?=some (cn s ((k:Int) + 1)).recv∧(qW s)[2 * k + 1]?=some (cn s ((k:Int) + 1)).send:=by
 unfold qW
 constructor
 ·rw [List.getElem?_map,List.getElem?_range (by omega)];simp
 ·rw [List.getElem?_map,List.getElem?_range (by omega)];have h1:(2 * (k:Int) + 1) / 2=k:=by omega
  simp [h1]
theorem LB {s:Sx.St} {k:Nat} (h8:k < 8) {c:Cn} (e1:c.recv=(cn s ((k:Int) + 1)).recv) (e2:c.send=(cn s ((k:Int) + 1)).send):qC s k c=qW s:=by
 unfold qC;rw [e1,ta (BA h8).1,e2,ta (BA h8).2]
theorem LC {b:Nat} {u:U} {s:Sx.St} {k:Nat} (v:Int) (hk:k < s.an.length) (h8:k < 8):wd b u (Sx.av s ((k:Int) + 1) { cn s ((k:Int) + 1) with lock:=v })=(wd b u s).set 8 (aI (tL u.pL ((s.an.map (·.lock)).set k v)) u.TL):=by
 rw [Ft hk h8,LB (c:={ cn s ((k:Int) + 1) with lock:=v }) h8 rfl rfl];dsimp only;rw [Lz hk,Fu hk];rfl
theorem UW {b:Nat} {u:U} {s:Sx.St} {k:Nat} (v:Bool) (hk:k < s.an.length) (h8:k < 8):wd b u (Sx.av s ((k:Int) + 1) { cn s ((k:Int) + 1) with closed:=v })=(wd b u s).set 3 (.row u.vC 4 1 ((s.an.map fun c=>[bI c.closed]).set k [bI v])):=by
 rw [Ft hk h8,LB (c:={ cn s ((k:Int) + 1) with closed:=v }) h8 rfl rfl];dsimp only;rw [LA hk,Fu hk];rfl
theorem UX {b:Nat} {u:U} {s:Sx.St} {k:Nat} (r t:List Int) (hk:k < s.an.length) (h8:k < 8):wd b u (Sx.av s ((k:Int) + 1) { cn s ((k:Int) + 1) with recv:=r,send:=t })=(wd b u s).set 9 (aI (tQ u.pQ s.aB.length (((qW s).set (2 * k) r).set (2 * k + 1) t)) u.TQ):=by
 rw [Ft hk h8];dsimp only;rw [Lz hk,LA hk,Fu hk];rfl
theorem LD {b:Nat} {u:U} {s:Sx.St} {i:Int} (x:Su) {S:List (List A)} (hS:S=(s.aB.map eS).set i.toNat (eS x)):wd b u (Sx.aF s i x)=(wd b u s).set 4 (.row u.vS 52 7 S):=by
 have e1:(Sx.aF s i x).aB.map eS=(s.aB.map eS).set i.toNat (eS x):=by unfold Sx.aF;exact List.map_set
 have e2:(Sx.aF s i x).aB.length=s.aB.length:=by simp [Sx.aF]
 rw [hS,← e1]
 show (_ :: _ :: _ :: _ :: _ :: _ :: _ :: _ :: _ :: aI (tQ u.pQ (Sx.aF s i x).aB.length (qW s)) u.TQ :: _ :: _ :: _)=_;rw [e2];rfl
class yW (B:List ai) (u:outParam U) (s:outParam Sx.St):Prop where h:True
instance yW.mk' {b:Nat} {t:TypeId} {u:U} {s:Sx.St} {M:List ai}:yW (.box b t (wW u s) :: M) u s:=⟨trivial⟩
section
variable {P:Program} {c:Cx} {k:List Item} {fm:Fm} {L B:List ai} {mk:List ai→List ai} {ops:Array Oper} {l:List Oper} {u:U} {s:Sx.St} {g:Nat}
theorem J.tl (b:Nat) [hs:uH L b B mk] (A:List ai) (e:A=B) (h:J P c k fm (mk A)):J P c k fm L:=by
 rw [hs.h,← e];exact h
theorem J.LF {E:List ai}:∀ {B:List ai},J P c k fm E→J P c k fm (E ++ B)
 | [],h=>by simpa using h
 | b :: B,h=>J.drop E.length (by
   have:(E ++ b :: B).eraseIdx E.length=E ++ B:=by rw [List.eraseIdx_append_of_length_le (Nat.le_refl _),Nat.sub_self];rfl
   rw [this];exact J.LF h)
theorem J.yX (b:Nat) {L0:List ai} [hs:sZ L b L0] (h:J P c k fm L0):J P c k fm L:=by
 obtain ⟨B,hB⟩:=hs.h;rw [hB];exact J.LF h
theorem JO.tl (b:Nat) [hs:uH L b B mk] (A:List ai) (e:A=B) (h:JO P c ops l k fm (mk A)):JO P c ops l k fm L:=by
 rw [hs.h,← e];exact h
theorem cF [h:Sx.cy g s] {x:Gr} [e:Sx.dR s g x]:(dc u s)[((g:Int)).toNat]?=some (gW x (u.sg g) (u.wk g)):=by rw [← e.h];exact sJ h.h
theorem fo:(0:Int)≤(g:Int):=by omega
theorem fq [h:Sx.cy g s]:(g:Int) < (dc u s).length:=by rw [oL];have:=h.h;omega
theorem og {i:Int} [h:Sx.ko i s] {d:Su} [e:Sx.lD s i d]:(s.aB.map eS)[i.toNat]?=some (eS d):=by rw [← e.h];exact UQ h.h0 h.h1
theorem oh {i:Int} {s:Sx.St} [h:Sx.ko i s]:0≤i:=h.h0
theorem oo {i:Int} [h:Sx.ko i s]:i < (s.aB.map eS).length:=by rw [List.length_map];exact h.h1
theorem JO.fu (b g:Nat) (f:Gr→Gr) {x:Gr} [hs:uH L b B mk] [hw:yW B u s] [hg:Sx.cy g s] [hx:Sx.dR s g x] (hB:B=wl b u s ((dc u s).set g (gW (f x) (u.sg g) (u.wk g))) (s.gs.map fun x=>(x.status,x.token)) (fE u s)) (h:JO P c ops l k fm (mk (wd b u (Sx.bq s g f)))) (e:(f x).status=x.status∧(f x).token=x.token:=by exact ⟨rfl,rfl⟩) (e1:(f x).ak=x.ak:=by rfl) (e2:(f x).ah=x.ah:=by rfl):JO P c ops l k fm L:=by
 have ex:=hx.h;subst ex;exact JO.tl b (wd b u (Sx.bq s g f)) (by rw [hB];exact UR f hg.h rfl e e1 e2) h
theorem J.Fv (b:Nat) (i:Int) (x:Su) [hs:uH L b B mk] [hw:yW B u s] (hB:B=(wd b u s).set 4 (.row u.vS 52 7 ((s.aB.map eS).set i.toNat (eS x)))) (h:J P c k fm (mk (wd b u (Sx.aF s i x)))):J P c k fm L :=
 J.tl b (wd b u (Sx.aF s i x)) (by rw [hB];exact LD x rfl) h
theorem JO.Fv (b:Nat) (i:Int) (x:Su) [hs:uH L b B mk] [hw:yW B u s] (hB:B=(wd b u s).set 4 (.row u.vS 52 7 ((s.aB.map eS).set i.toNat (eS x)))) (h:JO P c ops l k fm (mk (wd b u (Sx.aF s i x)))):JO P c ops l k fm L :=
 JO.tl b (wd b u (Sx.aF s i x)) (by rw [hB];exact LD x rfl) h
end
section
variable (b:Nat) (u:U) (s:Sx.St)
theorem UY (k:Nat) (g:Nat) (hk:k < s.an.length) (h8:k < 8) :
  aq Tryz.prog 130 [.c (.v u.pL),.c (nI ((k:Int) + 1 - 1)),.c (nI g)] (wd b u s) (fun _:Unit=>(.c (bI (Sx.tryLock s g ((k:Int) + 1)).2),wd b u (Sx.tryLock s g ((k:Int) + 1)).1)):=by
 have h:=Js u.pL (s.an.map (·.lock)) u.TL ((k:Int) + 1 - 1) g;have hl:(s.an.map (·.lock)).getD ((k:Int) + 1 - 1).toNat 0=(cn s ((k:Int) + 1)).lock:=by
  rw [show ((k:Int) + 1 - 1).toNat=k by omega,List.getD_eq_getElem?_getD,List.getElem?_map,oM hk];rfl
 have h0:Lt.has (s.an.map (·.lock)) ((k:Int) + 1 - 1)=true:=by unfold Lt.has;simp;omega
 unfold Sx.tryLock
 by_cases c:(cn s ((k:Int) + 1)).lock=-1
 ·have e1:Lt.kG (s.an.map (·.lock)) ((k:Int) + 1 - 1) g=true:=by unfold Lt.kG;rw [hl,h0,c];simp
  have e2:Lt.kH (s.an.map (·.lock)) ((k:Int) + 1 - 1) g=(s.an.map (·.lock)).set k (g:Int):=by unfold Lt.kH;rw [if_pos e1,show ((k:Int) + 1 - 1).toNat=k by omega]
  rw [e1,e2] at h;rw [if_pos c];exact aq.at_ 8 rfl h fun _=>LC (g:Int) hk h8
 ·have e1:Lt.kG (s.an.map (·.lock)) ((k:Int) + 1 - 1) g=false:=by unfold Lt.kG;rw [hl,h0];simp [c]
  have e2:Lt.kH (s.an.map (·.lock)) ((k:Int) + 1 - 1) g=s.an.map (·.lock):=by unfold Lt.kH;rw [e1];rfl
  rw [e1,e2] at h;rw [if_neg c];exact aq.at_ 8 rfl h fun _=>rfl
theorem LG (k:Nat) (g:Nat) (hk:k < s.an.length) (h8:k < 8) (hg:(cn s ((k:Int) + 1)).lock=g) :
  aq Tryz.prog 79 [.c (.v u.pL),.c (nI ((k:Int) + 1 - 1)),.c (nI g)] (wd b u s) (fun _:Unit=>(.c (bI true),wd b u (Sx.free s ((k:Int) + 1)))):=by
 have h:=Se u.pL (s.an.map (·.lock)) u.TL ((k:Int) + 1 - 1) g;have hl:(s.an.map (·.lock)).getD ((k:Int) + 1 - 1).toNat 0=(cn s ((k:Int) + 1)).lock:=by
  rw [show ((k:Int) + 1 - 1).toNat=k by omega,List.getD_eq_getElem?_getD,List.getElem?_map,oM hk];rfl
 have h0:Lt.has (s.an.map (·.lock)) ((k:Int) + 1 - 1)=true:=by unfold Lt.has;simp;omega
 have e1:Lt.mG (s.an.map (·.lock)) ((k:Int) + 1 - 1) g=true:=by unfold Lt.mG;rw [hl,h0,hg];simp
 have e2:Lt.nA (s.an.map (·.lock)) ((k:Int) + 1 - 1) g=(s.an.map (·.lock)).set k (-1):=by unfold Lt.nA;rw [if_pos e1,show ((k:Int) + 1 - 1).toNat=k by omega]
 rw [e1,e2] at h;exact aq.at_ 8 rfl h fun _=>LC (-1) hk h8
theorem wj (g:Nat) (x:Gr) (hg:g < s.gs.length) (e:{ x with status:=(Sx.gr s g).status,token:=(Sx.gr s g).token }=Sx.gr s g):wd b u (Sx.aa s g x)=(wd b u s).set 7 (aI (tB u.pB ((s.gs.map fun x=>(x.status,x.token)).set g (x.status,x.token))) u.TB):=by
 have hG:dc u (Sx.aa s g x)=dc u s:=by
  rw [← Ew (u:=u) (x:=x) hg];refine ta ?_;rw [Jz hg,← e];rfl
 have hR:fE u (Sx.aa s g x)=fE u s:=JC hg (by rw [← e]) (by rw [← e])
 show wl b u s (dc u (Sx.aa s g x)) ((Sx.aa s g x).gs.map fun x=>(x.status,x.token)) (fE u (Sx.aa s g x))=_;rw [hG,hR,JA hg];rfl
theorem BB {g:Nat} (hg:g < s.gs.length):(s.gs.map fun x=>(x.status,x.token))[g]?=some ((Sx.gr s g).status,(Sx.gr s g).token):=by
 rw [List.getElem?_map];unfold Sx.gr;rw [List.getD_eq_getElem?_getD,List.getElem?_eq_getElem hg];rfl
theorem UZ (g:Nat) (hg:g < s.gs.length) :
  aq Tryz.prog 80 [.c (.v u.pB),.c (nI g)] (wd b u s) (fun _:Unit=>(.c (bI (Bc.qQ (s.gs.map fun x=>(x.status,x.token)) g)),wd b u (Sx.fh s g))):=by
 have h:=R9 u.pB (s.gs.map fun x=>(x.status,x.token)) u.TB g;have hm:Bc.mem (s.gs.map fun x=>(x.status,x.token)) (g:Int)=((Sx.gr s g).status,(Sx.gr s g).token):=by
  unfold Bc.mem;rw [Int.toNat_natCast,List.getD_eq_getElem?_getD,BB s hg];rfl
 refine aq.at_ 7 rfl h fun _=>?_
 have hs:Bc.status (s.gs.map fun x=>(x.status,x.token)) (g:Int)=(Sx.gr s g).status:=EA hg;unfold Sx.fh Bc.sB;rw [hs,hm,Int.toNat_natCast]
 by_cases c:(Sx.gr s g).status=0
 ·rw [if_pos c]
  cases t:(Sx.gr s g).token with
  | true =>
   rw [if_pos ⟨c,rfl⟩,if_pos rfl,if_pos c,wj b u s g { Sx.gr s g with token:=false } hg rfl,← c]
  | false =>
   rw [if_neg (by simp),if_pos c,if_neg (by simp),wj b u s g { Sx.gr s g with status:=1 } hg rfl,t]
 ·rw [if_neg c,if_neg (by simp [c]),if_neg c,wj b u s g (Sx.gr s g) hg rfl,ta (BB s hg)]
theorem Fx:(qW s).length=16:=by simp [qW]
theorem U6 {j:Nat} (hj:j < 16):(qW s)[j]?=some (if j % 2=0 then (cn s ((j / 2:Nat) + 1)).recv else (cn s ((j / 2:Nat) + 1)).send):=by
 unfold qW;rw [List.getElem?_map,List.getElem?_range hj];rfl
variable {s}
theorem BD (Q:Qs s) {j:Nat} {l:List Int} (hl:(qW s)[j]?=some l) {i:Int} (hi:i∈l):j / 2 < s.an.length∧(su s i).ch=((j / 2:Nat):Int) + 1∧((su s i).send=true↔j % 2=1)∧0≤i∧i < s.aB.length:=by
 have hj:j < 16:=by have:=(List.getElem?_eq_some_iff.1 hl).1;rwa [Fx] at this
 rw [U6 s hj] at hl
 cases hl
 by_cases hc:j / 2 < s.an.length
 ·by_cases e:j % 2=0
  ·rw [if_pos e] at hi;have h:=Q.q (j / 2) hc i (.inl hi);refine ⟨hc,h.2.2.1,⟨fun hs=>absurd hi (h.2.2.2.2 hs),fun e2=>by omega⟩,h.1,h.2.1⟩
  ·rw [if_neg e] at hi;have h:=Q.q (j / 2) hc i (.inr hi);refine ⟨hc,h.2.2.1,⟨fun hs=>by omega,fun e2=>?_⟩,h.1,h.2.1⟩
   cases hs:(su s i).send with
   | true=>rfl
   | false=>exact absurd hi (h.2.2.2.1 hs)
 ·have e:cn s ((j / 2:Nat) + 1)=nu:=by
   unfold cn;rw [List.getD_eq_getElem?_getD,List.getElem?_eq_none (by omega)];rfl
  rw [e] at hi
  split at hi <;> simp [nu] at hi
theorem U8 (Q:Qs s) {j j':Nat} {l l':List Int} (hl:(qW s)[j]?=some l) (uZ:(qW s)[j']?=some l') {i:Int} (hi:i∈l) (rU:i∈l'):j=j':=by
 have h1:=BD Q hl hi;have h2:=BD Q uZ rU;have e1:(j / 2:Nat)=j' / 2:=by have:=h1.2.1.symm.trans h2.2.1;omega
 have e2:j % 2=1↔j' % 2=1:=h1.2.2.1.symm.trans h2.2.2.1;omega
theorem BE {l:List Int} {i:Int} (h:i∉l):gM l i=l:=List.filter_eq_self.2 fun y hy=>by simp;intro e;exact h (e ▸ hy)
theorem U9 (Q:Qs s) (i:Int):(Qu.drop (qW s) i).1=(qW s).map fun l=>gM l i:=by
 unfold Qu.drop
 cases hl:Qu.loc (qW s) i with
 | none =>
  rw [Qu.qR] at hl;refine (List.map_id (qW s)).symm.trans (List.map_congr_left fun l hm=>(BE fun hi=>hl (List.mem_flatten.2 ⟨l,hm,hi⟩)).symm)
 | some k =>
  obtain ⟨h1,h2⟩:=Qu.xI hl
  show (qW s).set k (((qW s).getD k []).filter (fun y=>y != i))=_;rw [List.getD_eq_getElem?_getD,List.getElem?_eq_getElem h1,Option.getD_some] at h2 ⊢;refine List.ext_getElem? fun j=>?_
  rw [List.getElem?_set,List.getElem?_map]
  by_cases e:k=j
  ·subst e;rw [if_pos rfl,if_pos h1,List.getElem?_eq_getElem h1];rfl
  ·rw [if_neg e]
   cases hj:(qW s)[j]? with
   | none=>rfl
   | some l=>rw [Option.map_some,BE fun hi=>e (U8 Q (List.getElem?_eq_getElem h1) hj h2 hi)]
theorem rK {ch:Int} (h:Sx.made s ch=true):∃ k:Nat,ch=(k:Int) + 1∧k < s.an.length:=by
 unfold Sx.made at h;simp only [decide_eq_true_eq] at h;exact ⟨(ch - 1).toNat,by omega,by omega⟩
theorem Va (Q:Qs s) (i:Int):(Qu.drop (qW s) i).1=qW (Sx.drop s i):=by
 rw [U9 Q i];unfold Sx.drop
 split
 ·rename_i hm;obtain ⟨k,hk,aR⟩:=rK hm;have c8:=Q.c8;rw [hk,Fs aR (by omega)];unfold qC;refine List.ext_getElem? fun j=>?_
  rw [List.getElem?_map]
  cases hj:(qW s)[j]? with
  | none =>
   rw [Option.map_none,eq_comm,List.getElem?_eq_none];simpa using List.getElem?_eq_none_iff.1 hj
  | some l =>
   have LH:j < 16:=by have:=(List.getElem?_eq_some_iff.1 hj).1;rwa [Fx] at this
   rw [Option.map_some,List.getElem?_set,List.getElem?_set,List.length_set,Fx]
   by_cases e1:2 * k + 1=j
   ·subst e1;rw [if_pos rfl,if_pos LH];rw [(BA (s:=s) (k:=k) (by omega)).2] at hj
    cases hj;rfl
   ·rw [if_neg e1]
    by_cases e2:2 * k=j
    ·subst e2;rw [if_pos rfl,if_pos LH];rw [(BA (s:=s) (k:=k) (by omega)).1] at hj
     cases hj;rfl
    ·rw [if_neg e2,hj,BE];intro hi;have:=(BD Q hj hi).2.1;omega
 ·rename_i hm;refine (List.map_congr_left fun l hl=>?_).trans (List.map_id _);obtain ⟨j,hj⟩:=List.getElem?_of_mem hl;refine BE fun hi=>hm ?_
  have:=BD Q hj hi;unfold Sx.made;rw [this.2.1];simp only [decide_eq_true_eq];omega
theorem LI (Q:Qs s) (i:Int) :
  ∃ o,aq Tryz.prog 111 [.c (.v u.pQ),.c (nI i)] (wd b u s) (fun _:Unit=>(.c (bI o),wd b u (Sx.drop s i))):=by
 have h:=Sg u.pQ s.aB.length (qW s) u.TQ i;refine ⟨_,aq.at_ 9 rfl h fun _=>?_⟩;rw [Va Q i];unfold Sx.drop
 split
 ·rename_i hm;obtain ⟨k,hk,aR⟩:=rK hm;have c8:=Q.c8;rw [hk,UX _ _ aR (by omega),Fs aR (by omega)];rfl
 ·rfl
end
end Fl
open Go.RowKit Go.ChangeShapes Go.WideShapes Go.Deep
def lE (w:World) (cs:List Value) (c:Pn.Cs) (U:List Nat):Prop:=cs=[.bool c.send,.int .i64 c.ch,.int .i64 c.v]∧U=[]
def wm (w:World) (cs:List Value) (o:Pn.Op) (U:List Nat):Prop :=
 ∃ vc,cs=[.int .i64 o.kind,.int .i64 o.ch,.int .i64 o.n,.int .i64 o.v,vc,.bool o.de]∧GV lE 3 w vc o.cases U
theorem td:Kept lE:=⟨fun h _ _=>h,fun h x hx=>by obtain ⟨_,rfl⟩:=h;simp at hx⟩
theorem BF:Kept wm :=
 ⟨fun h k hn=>by obtain ⟨vc,h1,h2⟩:=h;exact ⟨vc,h1,h2.aT td k hn⟩,fun h=>by obtain ⟨vc,h1,h2⟩:=h;exact h2.lt⟩
def rL:World→List Value→List Pn.Op→List Nat→Prop:=pF wm 6
theorem Fy:Kept rL:=GY BF
section
variable {w:World} {ao:Option Addr} {m cap k:Nat} {S:List Nat}
theorem GV.case {l:List Pn.Cs} {c:Pn.Cs} (h:GV lE 3 w (.slice ao m cap) l S) (hk:l[k]?=some c) :
  ∃ g off,ao=some ⟨g,off,none⟩∧g∈S∧g < w.heap.size∧w.cell? ⟨g,off + k * 3,none⟩=some (.bool c.send)∧w.cell? ⟨g,off + k * 3 + 1,none⟩=some (.int .i64 c.ch)∧w.cell? ⟨g,off + k * 3 + 2,none⟩=some (.int .i64 c.v):=by
 obtain ⟨g,off,cs,U,h1,h2,h3,h4,h5,⟨rfl,_⟩,_⟩:=h.get hk;exact ⟨g,off,h1,h2,h3,h5 0 (by omega),h5 1 (by omega),h5 2 (by omega)⟩
theorem GV.op {l:List Pn.Op} {o:Pn.Op} (h:GV wm 6 w (.slice ao m cap) l S) (hk:l[k]?=some o) :
  ∃ g off vc U,ao=some ⟨g,off,none⟩∧g∈S∧g < w.heap.size∧(w.cell? ⟨g,off + k * 6,none⟩=some (.int .i64 o.kind)∧w.cell? ⟨g,off + k * 6 + 1,none⟩=some (.int .i64 o.ch)∧w.cell? ⟨g,off + k * 6 + 2,none⟩=some (.int .i64 o.n) ∧
   w.cell? ⟨g,off + k * 6 + 3,none⟩=some (.int .i64 o.v)∧w.cell? ⟨g,off + k * 6 + 4,none⟩=some vc∧w.cell? ⟨g,off + k * 6 + 5,none⟩=some (.bool o.de))∧GV lE 3 w vc o.cases U∧∀ x∈U,x∈S:=by
 obtain ⟨g,off,cs,U,h1,h2,h3,h4,h5,⟨vc,rfl,h6⟩,h7⟩:=h.get hk;exact ⟨g,off,vc,U,h1,h2,h3,⟨h5 0 (by omega),h5 1 (by omega),h5 2 (by omega),h5 3 (by omega),h5 4 (by omega),h5 5 (by omega)⟩,h6,h7⟩
theorem GV.one {α:Type} {E:World→List Value→α→List Nat→Prop} {l:List α} {a:α} (h:GV E 1 w (.slice ao m cap) l S) (hk:l[k]?=some a) :
  ∃ g off v U,ao=some ⟨g,off,none⟩∧g∈S∧g < w.heap.size∧w.cell? ⟨g,off + k,none⟩=some v∧E w [v] a U∧∀ x∈U,x∈S:=by
 obtain ⟨g,off,cs,U,h1,h2,h3,h4,h5,h6,h7⟩:=h.get hk;obtain ⟨v,rfl⟩:=Oe h4;exact ⟨g,off,v,U,h1,h2,h3,by have:=h5 0 (by omega);simpa using this,h6,h7⟩
end
theorem BH:fz Tryz.prog 3 (kz .i64) 1:=zX Tryz.underlying3 (by kernel_rfl)
theorem LJ:fz Tryz.prog 2 (kz .i64) 1:=zX Tryz.underlying2 (by kernel_rfl)
theorem LK:fz Tryz.prog 4 CU 1:=Ok Tryz.underlying4 (by kernel_rfl)
theorem Vb:fz Tryz.prog 83 lE 3:=by
 refine ⟨by omega,td,by kernel_rfl,?_⟩;intro H enc W fuel cs x h;obtain ⟨xs,n,_,_,hl,jS,hf⟩:=DataW.trod_struct Tryz.underlying83 h;have Vc:cs.length=3:=hl.trans (by kernel_rfl);obtain ⟨v0,v1,v2,rfl⟩:=Og Vc;have xD:xs.length=3:=jS.trans (by kernel_rfl);have hs:∀ i,i < 3→(xs[i]?).isSome=true:=fun i hi=>by simp [xD,hi]
 obtain ⟨_,_,a0,U0,e0,_⟩:=LK.field rfl rfl (hs 0 (by omega)) (hf 0 _ rfl);obtain ⟨_,_,a1,U1,e1,_⟩:=BH.field rfl rfl (hs 1 (by omega)) (hf 1 _ rfl);obtain ⟨_,_,a2,U2,e2,_⟩:=LJ.field rfl rfl (hs 2 (by omega)) (hf 2 _ rfl);simp at e0 e1 e2;subst e0 e1 e2;exact ⟨rfl,(by intro y hy;simp at hy;rcases hy with rfl | rfl | rfl <;> rfl),⟨a0,a1,a2⟩,[],rfl,rfl⟩
theorem Vd:fz Tryz.prog 48 (pF lE 3) 1:=wS Tryz.underlying48 (by kernel_rfl) Vb
theorem Ve:fz Tryz.prog 50 wm 6:=by
 refine ⟨by omega,BF,by kernel_rfl,?_⟩;intro H enc W fuel cs x h;obtain ⟨xs,n,_,_,hl,jS,hf⟩:=DataW.trod_struct Tryz.underlying50 h;have Vf:cs.length=6:=hl.trans (by kernel_rfl);obtain ⟨v0,v1,v2,v3,v4,v5,rfl⟩:=Oi Vf;have Vg:xs.length=6:=jS.trans (by kernel_rfl);have hs:∀ i,i < 6→(xs[i]?).isSome=true:=fun i hi=>by simp [Vg,hi]
 obtain ⟨_,_,a0,U0,e0,_⟩:=BH.field rfl rfl (hs 0 (by omega)) (hf 0 _ rfl);obtain ⟨_,_,a1,U1,e1,_⟩:=BH.field rfl rfl (hs 1 (by omega)) (hf 1 _ rfl);obtain ⟨_,_,a2,U2,e2,_⟩:=BH.field rfl rfl (hs 2 (by omega)) (hf 2 _ rfl);obtain ⟨_,_,a3,U3,e3,_⟩:=LJ.field rfl rfl (hs 3 (by omega)) (hf 3 _ rfl);obtain ⟨o4,_,a4,U4,vc,e4,h4⟩:=Vd.field rfl rfl (hs 4 (by omega)) (hf 4 _ rfl);obtain ⟨_,_,a5,U5,e5,_⟩:=LK.field rfl rfl (hs 5 (by omega)) (hf 5 _ rfl);simp at e0 e1 e2 e3 e4 e5 o4;subst e0 e1 e2 e3 e4 e5;exact ⟨rfl,(by intro y hy;simp at hy;rcases hy with rfl | rfl | rfl | rfl | rfl | rfl <;> first | rfl | assumption),⟨a0,a1,a2,a3,a4,a5⟩,U4,v4,rfl,h4⟩
theorem Vh:fz Tryz.prog 43 rL 1:=wS Tryz.underlying43 (by kernel_rfl) Ve
theorem Vi:fz Tryz.prog 22 (pF rL 1) 1:=wS Tryz.underlying22 (by kernel_rfl) Vh
open Go.RowKit
theorem uI (w:World) (k:Int):Calls Tryz.prog 194 #[.int .i64 k] w fun e w'=>e=.returned (.bool (Pn.gj k))∧w=w':=by
 go_enter Tryz.func194,Tryz.ntmps194
 go_wp2_with fail
 all_goals
  go_ret
  exact ⟨cS (by simp [Pn.gj, *] <;> omega),rfl⟩
theorem uJ (w:World) (k:Int):Calls Tryz.prog 195 #[.int .i64 k] w fun e w'=>e=.returned (.bool (Pn.gq k))∧w=w':=by
 go_enter Tryz.func195,Tryz.ntmps195
 go_wp2_with fail
 all_goals
  go_ret
  exact ⟨cS (by simp [Pn.gq, *]),rfl⟩
theorem tf (w:World) (k:Int):Calls Tryz.prog 196 #[.int .i64 k] w fun e w'=>e=.returned (.bool (Pn.gj k))∧w=w':=by
 go_enter Tryz.func196,Tryz.ntmps196
 go_wp2_with fail
 all_goals
  go_ret
  exact ⟨cS (by simp [Pn.gj, *] <;> omega),rfl⟩
theorem tg (w:World) (k:Int):Calls Tryz.prog 197 #[.int .i64 k] w fun e w'=>e=.returned (.bool (Pn.gq k))∧w=w':=by
 go_enter Tryz.func197,Tryz.ntmps197
 go_wp2_with fail
 all_goals
  go_ret
  exact ⟨cS (by simp [Pn.gq, *]),rfl⟩
def Pn.within (has:Bool) (n most:Int):Bool:=if has then decide (0≤n) && decide (n≤most) else n == 0
theorem kq (w:World) (b:Bool) (n most:Int):Calls Tryz.prog 193 #[.bool b,.int .i64 n,.int .i64 most] w fun e w'=>e=.returned (.bool (Pn.within b n most))∧w=w':=by
 cases b with
 | true =>
  go_enter Tryz.func193,Tryz.ntmps193
  go_wp2_with fail
  all_goals
   go_ret
   exact ⟨cS (by simp [Pn.within, *] <;> omega),rfl⟩
 | false =>
  go_enter Tryz.func193,Tryz.ntmps193
  go_wp2_with fail
  all_goals
   go_ret
   exact ⟨cS (by simp [Pn.within, *] <;> omega),rfl⟩
open Go.RowKit
namespace Pn
def qh (c:Cs):Bool:=within true c.ch 8 && within c.send c.v 255
theorem Fz (c:Cs):qh c=kC c:=by
 obtain ⟨s,ch,v⟩:=c;unfold qh kC within;rw [Bool.eq_iff_iff]
 cases s <;> simp <;> omega
theorem Vj {o:Op} (h:o.kind < 1∨9 < o.kind):c7 o=false:=by
 unfold c7;rw [decide_eq_false_iff_not];rintro ⟨h1,h2,_⟩;omega
theorem Vk {o:Op} (h:within (gj o.kind) o.ch 8=false):c7 o=false:=by
 unfold c7;rw [decide_eq_false_iff_not];rintro ⟨h1,h2,h3,h4,h5,h6,h7,h8,h9,jw,iY,iZ,fU,mQ⟩;unfold within at h
 split at h
 ·simp at h;omega
 ·rename_i hc;simp at h;exact h (jw (by simpa using hc))
theorem Vl {o:Op} (h:within (gq o.kind) o.v 255=false):c7 o=false:=by
 unfold c7;rw [decide_eq_false_iff_not];rintro ⟨h1,h2,h3,h4,h5,h6,h7,h8,h9,jw,iY,iZ,fU,mQ⟩;unfold within at h
 split at h
 ·simp at h;omega
 ·rename_i hc;simp at h;exact h (iY (by simpa using hc))
theorem Vm {o:Op} (h:within (o.kind == 1) o.n 4=false):c7 o=false:=by
 unfold c7;rw [decide_eq_false_iff_not];rintro ⟨h1,h2,h3,h4,h5,h6,h7,h8,h9,jw,iY,iZ,fU,mQ⟩;unfold within at h
 split at h
 ·simp at h;omega
 ·rename_i hc;simp at h;exact h (iZ (by simpa using hc))
theorem LL {o:Op} (h:within (gj o.kind) o.ch 8=true):0≤o.ch∧o.ch≤8∧(gj o.kind=false→o.ch=0):=by
 unfold within at h
 split at h
 ·rename_i hc;simp at h;exact ⟨h.1,h.2,fun e=>by rw [e] at hc;cases hc⟩
 ·simp at h;rw [h];exact ⟨by omega,by omega,fun _=>rfl⟩
theorem LM {o:Op} (h:within (gq o.kind) o.v 255=true):0≤o.v∧o.v≤255∧(gq o.kind=false→o.v=0):=by
 unfold within at h
 split at h
 ·rename_i hc;simp at h;exact ⟨h.1,h.2,fun e=>by rw [e] at hc;cases hc⟩
 ·simp at h;rw [h];exact ⟨by omega,by omega,fun _=>rfl⟩
theorem LN {o:Op} (h:within (o.kind == 1) o.n 4=true):0≤o.n∧o.n≤4∧(o.kind≠1→o.n=0):=by
 unfold within at h
 split at h
 ·rename_i hc;simp at h;exact ⟨h.1,h.2,fun e=>by simp at hc;exact absurd hc e⟩
 ·simp at h;rw [h];exact ⟨by omega,by omega,fun _=>rfl⟩
theorem Vn {o:Op} (h1:1≤o.kind) (h2:o.kind≤9) (h3:within (gj o.kind) o.ch 8=true) (h4:within (gq o.kind) o.v 255=true) (h5:within (o.kind == 1) o.n 4=true) (h6:o.kind≠9):c7 o=(decide (o.cases.length=0) && !o.de):=by
 obtain ⟨a1,a2,a3⟩:=LL h3;obtain ⟨b1,b2,b3⟩:=LM h4;obtain ⟨c1,c2,c3⟩:=LN h5;rw [Bool.eq_iff_iff];unfold c7;simp only [decide_eq_true_eq,Bool.and_eq_true,Bool.not_eq_true',List.length_eq_zero_iff]
 constructor
 ·rintro ⟨_,_,_,_,_,_,_,_,_,_,_,_,h,_⟩;exact h h6
 ·rintro ⟨h7,h8⟩
  refine ⟨h1,h2,a1,a2,c1,c2,b1,b2,by rw [h7];simp,a3,b3,c3,fun _=>⟨h7,h8⟩,by rw [h7];simp⟩
theorem Vo {o:Op} (h:6 < o.cases.length):c7 o=false:=by
 unfold c7;rw [decide_eq_false_iff_not];rintro ⟨h1,h2,h3,h4,h5,h6,h7,h8,h9,jw⟩;omega
theorem Vp {o:Op} (h3:within (gj o.kind) o.ch 8=true) (h4:within (gq o.kind) o.v 255=true) (h5:within (o.kind == 1) o.n 4=true) (h6:o.kind=9) (h7:o.cases.length≤6) (h8:∀ (j:Nat) (c:Cs),o.cases[j]?=some c→qh c=true):c7 o=true:=by
 obtain ⟨a1,a2,a3⟩:=LL h3;obtain ⟨b1,b2,b3⟩:=LM h4;obtain ⟨c1,c2,c3⟩:=LN h5;unfold c7;rw [decide_eq_true_iff];refine ⟨by omega,by omega,a1,a2,c1,c2,b1,b2,h7,a3,b3,c3,fun h=>absurd h6 h,fun c hc=>?_⟩;obtain ⟨j,hj,rfl⟩:=List.getElem_of_mem hc;rw [← Fz];exact h8 j _ (List.getElem?_eq_getElem hj)
theorem FA {o:Op} {j:Nat} {c:Cs} (h:o.cases[j]?=some c) (hc:qh c=false):c7 o=false:=by
 unfold c7;rw [decide_eq_false_iff_not];rintro ⟨h1,h2,h3,h4,h5,h6,h7,h8,h9,jw,iY,iZ,fU,mQ⟩;have:=mQ c (List.mem_of_getElem? h);rw [← Fz,hc] at this;cases this
end Pn
set_option maxHeartbeats 3200000 in
theorem LP (w:World) (o:Pn.Op) (va:Value) (SA:List Nat) (ha:GV lE 3 w va o.cases SA) :
  Calls Tryz.prog 174 #[.agg #[.int .i64 o.kind,.int .i64 o.ch,.int .i64 o.n,.int .i64 o.v,va,.bool o.de]] w fun e w'=>e=.returned (.bool (Pn.c7 o))∧aj [] w w':=by
 have iw:=ha.le;unfold maxLen at iw;obtain ⟨ao,cap,rfl⟩:=ha.shape;have HA:=Lib.hid ha;obtain ⟨q,fM⟩:∃ q,Pn.c7 o=q:=⟨_,rfl⟩
 rw [fM];have HQ:=Lib.hid fM;have KA:Hid (aj [] w (w.alloc (.cells #[.int .i64 o.kind,.int .i64 o.ch,.int .i64 o.n,.int .i64 o.v,.slice ao o.cases.length cap,.bool o.de] 50))):=Lib.hid ((aj.refl [] w).alloc _);clear ha fM
 by_cases hk:o.kind < 1∨9 < o.kind
 ·have HN:Hid (false=q):=Lib.hid (by rw [← HQ.out,Pn.Vj hk]);rcases hk with hk | hk
  ·have wq:o.kind≤9:=by omega
   go_enter Tryz.func174,Tryz.ntmps174
   go_wp2_with fail
   go_ret
   exact ⟨cS HN.out,KA.out⟩
  ·have aS:1≤o.kind:=by omega
   go_enter Tryz.func174,Tryz.ntmps174
   go_wp2_with fail
   go_ret
   exact ⟨cS HN.out,KA.out⟩
 have aS:1≤o.kind:=by omega
 have wq:o.kind≤9:=by omega
 clear hk
 cases BI:Pn.within (Pn.gj o.kind) o.ch 8 with
 | false =>
  have HN:Hid (false=q):=Lib.hid (by rw [← HQ.out,Pn.Vk BI])
  go_enter Tryz.func174,Tryz.ntmps174
  go_wp2_with fail
  go_quiet ((first | (go_at_call 194;exact iB (uI _ _)) | (go_at_call 195;exact iB (uJ _ _)) | (go_at_call 193;exact iB (kq _ _ _ _))))
  go_wp2_with fail
  go_ret
  exact ⟨cS HN.out,KA.out.drewN _⟩
 | true =>
  cases BJ:Pn.within (Pn.gq o.kind) o.v 255 with
  | false =>
   have HN:Hid (false=q):=Lib.hid (by rw [← HQ.out,Pn.Vl BJ])
   go_enter Tryz.func174,Tryz.ntmps174
   go_wp2_with fail
   go_quiet ((first | (go_at_call 194;exact iB (uI _ _)) | (go_at_call 195;exact iB (uJ _ _)) | (go_at_call 193;exact iB (kq _ _ _ _))))
   go_wp2_with fail
   go_ret
   exact ⟨cS HN.out,KA.out.drewN _⟩
  | true =>
   cases lZ:Pn.within (o.kind == 1) o.n 4 with
   | false =>
    have HN:Hid (false=q):=Lib.hid (by rw [← HQ.out,Pn.Vm lZ])
    go_enter Tryz.func174,Tryz.ntmps174
    go_wp2_with fail
    go_quiet ((first | (go_at_call 194;exact iB (uI _ _)) | (go_at_call 195;exact iB (uJ _ _)) | (go_at_call 193;exact iB (kq _ _ _ _))))
    go_wp2_with fail
    refine (kq _ _ _ _).mono ?_
    rintro e w3 ⟨rfl,rfl⟩
    rw [lZ]
    go_wp2_with fail
    go_ret
    exact ⟨cS HN.out,KA.out.drewN _⟩
   | true =>
    by_cases h9:o.kind=9
    ·have LQ:(o.kind != 9)=false:=by simp [h9]
     by_cases h6:6 < o.cases.length
     ·have HN:Hid (false=q):=Lib.hid (by rw [← HQ.out,Pn.Vo h6]);clear h9
      go_enter Tryz.func174,Tryz.ntmps174
      go_wp2_with fail
      go_quiet ((first | (go_at_call 194;exact iB (uI _ _)) | (go_at_call 195;exact iB (uJ _ _)) | (go_at_call 193;exact iB (kq _ _ _ _))))
      go_wp2_with fail
      refine (kq _ _ _ _).mono ?_
      rintro e w3 ⟨rfl,rfl⟩
      rw [lZ]
      go_wp2_with fail
      go_ret
      exact ⟨cS HN.out,KA.out.drewN _⟩
     ·have Vq:o.cases.length≤6:=by omega
      have HS:Hid ((∀ (j:Nat) (c:Pn.Cs),o.cases[j]?=some c→Pn.qh c=true)→true=q):=Lib.hid (fun h=>by rw [← HQ.out,Pn.Vp BI BJ lZ h9 Vq h]);clear h9 h6
      go_enter Tryz.func174,Tryz.ntmps174
      go_wp2_with fail
      go_quiet ((first | (go_at_call 194;exact iB (uI _ _)) | (go_at_call 195;exact iB (uJ _ _)) | (go_at_call 193;exact iB (kq _ _ _ _))))
      go_wp2_with fail
      refine (kq _ _ _ _).mono ?_
      rintro e w3 ⟨rfl,rfl⟩
      rw [lZ]
      go_wp2_with fail
      clear BI BJ lZ LQ
      go_loopw [59] (fun u wr=>∃ k:Nat,k≤o.cases.length∧u=.int .i64 k∧Hid (aj [] w wr∧∀ (j:Nat) (c:Pn.Cs),j < k→o.cases[j]?=some c→Pn.qh c=true)) (fun u _=>o.cases.length - (intOf u).toNat)
      case atStart=>exact ⟨0,Nat.zero_le _,rfl,Lib.hid ⟨KA.out.drewN _,fun j c hj=>by omega⟩⟩
      case round =>
       obtain ⟨k,hk,rfl,HI⟩:=hrel;obtain ⟨wo,rfl⟩:∃ wo:World,wo=wr:=⟨_,rfl⟩
       by_cases cA:k < o.cases.length
       ·obtain ⟨x,hx⟩:∃ x,o.cases[k]?=some x:=⟨_,List.getElem?_eq_getElem cA⟩
        obtain ⟨g1,FB,rfl,_,um,a0,a1,a2⟩:=(HA.out.then td HI.out.1).case hx;have HX:=Lib.hid hx;have KR:Hid (aj [] w (wo.alloc (.cells #[.bool x.send,.int .i64 x.ch,.int .i64 x.v] 83))):=Lib.hid (HI.out.1.alloc _);clear hx
        cases nr:Pn.within true x.ch 8 with
        | false =>
         have HN:Hid (false=q):=Lib.hid (by rw [← HQ.out,Pn.FA HX.out (by unfold Pn.qh;rw [nr];rfl)])
         go_wp2_with fail
         refine (kq _ _ _ _).mono ?_
         rintro e w4 ⟨rfl,rfl⟩
         rw [nr]
         go_wp2_with fail
         go_ret
         exact ⟨cS HN.out,KR.out⟩
        | true =>
         cases BK:Pn.within x.send x.v 255 with
         | false =>
          have HN:Hid (false=q):=Lib.hid (by rw [← HQ.out,Pn.FA HX.out (by unfold Pn.qh;rw [nr,BK];rfl)])
          go_wp2_with fail
          refine (kq _ _ _ _).mono ?_
          rintro e w4 ⟨rfl,rfl⟩
          rw [nr]
          go_wp2_with fail
          refine (kq _ _ _ _).mono ?_
          rintro e w4 ⟨rfl,rfl⟩
          rw [BK]
          go_wp2_with fail
          go_ret
          exact ⟨cS HN.out,KR.out⟩
         | true =>
          have HO:Hid (Pn.qh x=true):=Lib.hid (by unfold Pn.qh;rw [nr,BK];rfl)
          go_wp2_with fail
          refine (kq _ _ _ _).mono ?_
          rintro e w4 ⟨rfl,rfl⟩
          rw [nr]
          go_wp2_with fail
          refine (kq _ _ _ _).mono ?_
          rintro e w4 ⟨rfl,rfl⟩
          rw [BK]
          go_wp2_with fail
          go_roundw
          case rel=>exact ⟨k + 1,by omega,by go_num,Lib.hid ⟨KR.out,fun j c hj hc=>by
           by_cases e:j=k
           ·subst e;rw [HX.out] at hc;cases hc;exact HO.out
           ·exact HI.out.2 j c (by omega) hc⟩⟩
          case measure=>simp [intOf];omega
       ·obtain rfl:k=o.cases.length:=by omega
        have HN:Hid (true=q):=Lib.hid (HS.out fun j c hc=>HI.out.2 j c (List.getElem?_eq_some_iff.1 hc).1 hc)
        go_wp2_with fail
        go_ret
        exact ⟨cS HN.out,HI.out.1⟩
    ·have LQ:(o.kind != 9)=true:=by simp [h9]
     have HP:=Lib.hid (Pn.Vn aS wq BI BJ lZ h9);clear h9
     cases hl:decide (o.cases.length=0) with
     | false =>
      have HN:Hid (false=q):=Lib.hid (by rw [← HQ.out,HP.out,hl];rfl);have uZ:((o.cases.length:Int) == 0)=false:=by simpa using hl
      clear hl
      go_enter Tryz.func174,Tryz.ntmps174
      go_wp2_with fail
      go_quiet ((first | (go_at_call 194;exact iB (uI _ _)) | (go_at_call 195;exact iB (uJ _ _)) | (go_at_call 193;exact iB (kq _ _ _ _))))
      go_wp2_with fail
      refine (kq _ _ _ _).mono ?_
      rintro e w3 ⟨rfl,rfl⟩
      rw [lZ]
      go_wp2_with fail
      all_goals
       go_ret
       exact ⟨cS HN.out,KA.out.drewN _⟩
     | true =>
      have HN:Hid ((!o.de)=q):=Lib.hid (by rw [← HQ.out,HP.out,hl];rfl);have uZ:((o.cases.length:Int) == 0)=true:=by simpa using hl
      clear hl
      go_enter Tryz.func174,Tryz.ntmps174
      go_wp2_with fail
      go_quiet ((first | (go_at_call 194;exact iB (uI _ _)) | (go_at_call 195;exact iB (uJ _ _)) | (go_at_call 193;exact iB (kq _ _ _ _))))
      go_wp2_with fail
      refine (kq _ _ _ _).mono ?_
      rintro e w3 ⟨rfl,rfl⟩
      rw [lZ]
      go_wp2_with fail
      all_goals
       go_ret
       exact ⟨cS HN.out,KA.out.drewN _⟩
open Go.RowKit
namespace Pn
end Pn
set_option maxRecDepth 100000 in
set_option maxHeartbeats 3200000 in
theorem Vr (w:World) (o:Pn.Op) (va:Value) (SA:List Nat) (ha:GV lE 3 w va o.cases SA) (hb:¬ (1≤o.kind∧o.kind≤9∧0≤o.ch∧o.ch≤8∧0≤o.n∧o.n≤4∧0≤o.v∧o.v≤255∧o.cases.length≤6)) :
  Calls Tryz.prog 176 #[.agg #[.int .i64 o.kind,.int .i64 o.ch,.int .i64 o.n,.int .i64 o.v,va,.bool o.de]] w fun e w'=>e=.returned (.bool (Pn.c7 o))∧aj [] w w':=by
 have iw:=ha.le;unfold maxLen at iw;obtain ⟨ao,cap,rfl⟩:=ha.shape;have HA:=Lib.hid ha;obtain ⟨q,fM⟩:∃ q,Pn.c7 o=q:=⟨_,rfl⟩
 rw [fM];have HQ:=Lib.hid fM;have KA:Hid (aj [] w (w.alloc (.cells #[.int .i64 o.kind,.int .i64 o.ch,.int .i64 o.n,.int .i64 o.v,.slice ao o.cases.length cap,.bool o.de] 50))):=Lib.hid ((aj.refl [] w).alloc _);clear ha fM;have HN:Hid (false=q):=Lib.hid (by
  rw [← HQ.out,eq_comm];unfold Pn.c7;rw [decide_eq_false_iff_not];rintro ⟨h1,h2,h3,h4,h5,h6,h7,h8,h9,_⟩;exact hb ⟨h1,h2,h3,h4,h5,h6,h7,h8,h9⟩)
 have HB:=Lib.hid hb;clear hb
 go_enter Tryz.func176,Tryz.ntmps176
 go_upto_if 48 with fail
 all_goals
  go_wp2_with fail
  all_goals
   first
    | (exfalso;have h:=HB.out;omega)
    | (go_ret;exact ⟨cS HN.out,(aj.refl [] w).alloc _⟩)
open Go.RowKit
namespace Pn
end Pn
set_option maxRecDepth 100000 in
set_option maxHeartbeats 3200000 in
theorem Vs (w:World) (o:Pn.Op) (va:Value) (SA:List Nat) (ha:GV lE 3 w va o.cases SA) (hb:1≤o.kind∧o.kind≤9∧0≤o.ch∧o.ch≤8∧0≤o.n∧o.n≤4∧0≤o.v∧o.v≤255∧o.cases.length≤6) (hk:o.kind=1) :
  Calls Tryz.prog 176 #[.agg #[.int .i64 o.kind,.int .i64 o.ch,.int .i64 o.n,.int .i64 o.v,va,.bool o.de]] w fun e w'=>e=.returned (.bool (Pn.c7 o))∧aj [] w w':=by
 have iw:=ha.le;unfold maxLen at iw;obtain ⟨ao,cap,rfl⟩:=ha.shape;have HA:=Lib.hid ha;obtain ⟨q,fM⟩:∃ q,Pn.c7 o=q:=⟨_,rfl⟩
 rw [fM];have HQ:=Lib.hid fM;have KA:Hid (aj [] w (w.alloc (.cells #[.int .i64 o.kind,.int .i64 o.ch,.int .i64 o.n,.int .i64 o.v,.slice ao o.cases.length cap,.bool o.de] 50))):=Lib.hid ((aj.refl [] w).alloc _);clear ha fM;obtain ⟨b1,b2,b3,b4,b5,b6,b7,b8,b9⟩:=hb;obtain ⟨k,ch,n,v,cs,de⟩:=o;simp only at *;have HS:Hid ((Pn.gj k=false→ch=0)→(Pn.gq k=false→v=0)→(k≠1→n=0)→(k≠9→cs=[]∧de=false)→(∀ (j:Nat) (c:Pn.Cs),cs[j]?=some c→Pn.kC c=true)→true=q):=Lib.hid (fun d1 d2 d3 d4 h=>by
  rw [← HQ.out,eq_comm];unfold Pn.c7;rw [decide_eq_true_iff];refine ⟨b1,b2,b3,b4,b5,b6,b7,b8,b9,d1,d2,d3,d4,fun c hc=>?_⟩;obtain ⟨j,hj,rfl⟩:=List.getElem_of_mem hc;exact h j _ (List.getElem?_eq_getElem hj))
 have HF:Hid (¬ ((Pn.gj k=false→ch=0)∧(Pn.gq k=false→v=0)∧(k≠1→n=0)∧(k≠9→cs=[]∧de=false))→false=q):=Lib.hid (fun hn=>by
  rw [← HQ.out,eq_comm];unfold Pn.c7;rw [decide_eq_false_iff_not];rintro ⟨h1,h2,h3,h4,h5,h6,h7,h8,h9,jw,iY,iZ,fU,_⟩;exact hn ⟨jw,iY,iZ,fU⟩)
 subst hk;have fQ:Hid (Pn.gj 1=false∧Pn.gq 1=false):=Lib.hid (by constructor <;> simp [Pn.gj,Pn.gq] <;> omega)
 by_cases bQ:ch=0∧v=0∧de=false∧cs.length=0
 ·obtain ⟨e0,e1,e2,e3⟩:=bQ;subst e0 e1 e2;have e9:cs.length≤0:=by omega
  have lC:=Lib.hid (HS.out (fun _=>rfl) (fun _=>rfl) (fun h=>absurd rfl h) (fun _=>⟨List.eq_nil_of_length_eq_zero (by omega),rfl⟩));clear HS HF
  try clear e3
  try clear e2
  go_enter Tryz.func176,Tryz.ntmps176
  go_wp2_with fail
  refine (tf _ _).mono ?_
  rintro e w3 ⟨rfl,rfl⟩
  rw [fQ.out.1]
  go_wp2_with (go_at_call 197;refine (tg _ _).mono ?_;rintro e w4 ⟨rfl,rfl⟩;rw [fQ.out.2])
  go_loopw [97] (fun u wr=>∃ j:Nat,j≤cs.length∧u=.int .i64 j∧Hid (aj [] w wr∧∀ (i:Nat) (c:Pn.Cs),i < j→cs[i]?=some c→Pn.kC c=true)) (fun u _=>cs.length - (intOf u).toNat)
  case atStart=>exact ⟨0,Nat.zero_le _,rfl,Lib.hid ⟨KA.out,fun i c hi=>by omega⟩⟩
  case round =>
   obtain ⟨j,hj,rfl,HI⟩:=hrel;obtain ⟨wo,rfl⟩:∃ wo:World,wo=wr:=⟨_,rfl⟩
   obtain rfl:j=cs.length:=by omega
   have HN:Hid (true=q):=Lib.hid (lC.out fun i c hc=>HI.out.2 i c (List.getElem?_eq_some_iff.1 hc).1 hc)
   go_wp2_with fail
   go_ret
   exact ⟨cS HN.out,HI.out.1⟩
 ·have HN:Hid (false=q):=Lib.hid (HF.out (by rintro ⟨d1,d2,d3,d4⟩;have q1:=fQ.out.1;have q2:=fQ.out.2;exact bQ ⟨d1 q1,d2 q2,(d4 (by omega)).2,by simp [(d4 (by omega)).1]⟩));have HC:Hid (ch=0→v=0→de=false→cs.length=0→False):=Lib.hid (fun e0 e1 e2 e3=>bQ ⟨e0,e1,e2,e3⟩);clear bQ
  go_enter Tryz.func176,Tryz.ntmps176
  go_wp2_with fail
  refine (tf _ _).mono ?_
  rintro e w3 ⟨rfl,rfl⟩
  rw [fQ.out.1]
  go_upto_if 93 with (go_at_call 197;refine (tg _ _).mono ?_;rintro e w4 ⟨rfl,rfl⟩;rw [fQ.out.2])
  all_goals
   go_wp2_with fail
   all_goals
    first
     | (exfalso;refine HC.out ?_ ?_ ?_ ?_ <;> (first | assumption | omega | (simpa using ‹¬de=true›));done)
     | (go_ret;exact ⟨cS HN.out,(aj.refl [] w).alloc _⟩)
open Go.RowKit
namespace Pn
end Pn
set_option maxRecDepth 100000 in
set_option maxHeartbeats 3200000 in
theorem Vt (w:World) (o:Pn.Op) (va:Value) (SA:List Nat) (ha:GV lE 3 w va o.cases SA) (hb:1≤o.kind∧o.kind≤9∧0≤o.ch∧o.ch≤8∧0≤o.n∧o.n≤4∧0≤o.v∧o.v≤255∧o.cases.length≤6) (hv:o.kind=2∨o.kind=4) (hk:¬ o.kind=1) :
  Calls Tryz.prog 176 #[.agg #[.int .i64 o.kind,.int .i64 o.ch,.int .i64 o.n,.int .i64 o.v,va,.bool o.de]] w fun e w'=>e=.returned (.bool (Pn.c7 o))∧aj [] w w':=by
 have iw:=ha.le;unfold maxLen at iw;obtain ⟨ao,cap,rfl⟩:=ha.shape;have HA:=Lib.hid ha;obtain ⟨q,fM⟩:∃ q,Pn.c7 o=q:=⟨_,rfl⟩
 rw [fM];have HQ:=Lib.hid fM;have KA:Hid (aj [] w (w.alloc (.cells #[.int .i64 o.kind,.int .i64 o.ch,.int .i64 o.n,.int .i64 o.v,.slice ao o.cases.length cap,.bool o.de] 50))):=Lib.hid ((aj.refl [] w).alloc _);clear ha fM;obtain ⟨b1,b2,b3,b4,b5,b6,b7,b8,b9⟩:=hb;obtain ⟨k,ch,n,v,cs,de⟩:=o;simp only at *;have HS:Hid ((Pn.gj k=false→ch=0)→(Pn.gq k=false→v=0)→(k≠1→n=0)→(k≠9→cs=[]∧de=false)→(∀ (j:Nat) (c:Pn.Cs),cs[j]?=some c→Pn.kC c=true)→true=q):=Lib.hid (fun d1 d2 d3 d4 h=>by
  rw [← HQ.out,eq_comm];unfold Pn.c7;rw [decide_eq_true_iff];refine ⟨b1,b2,b3,b4,b5,b6,b7,b8,b9,d1,d2,d3,d4,fun c hc=>?_⟩;obtain ⟨j,hj,rfl⟩:=List.getElem_of_mem hc;exact h j _ (List.getElem?_eq_getElem hj))
 have HF:Hid (¬ ((Pn.gj k=false→ch=0)∧(Pn.gq k=false→v=0)∧(k≠1→n=0)∧(k≠9→cs=[]∧de=false))→false=q):=Lib.hid (fun hn=>by
  rw [← HQ.out,eq_comm];unfold Pn.c7;rw [decide_eq_false_iff_not];rintro ⟨h1,h2,h3,h4,h5,h6,h7,h8,h9,jw,iY,iZ,fU,_⟩;exact hn ⟨jw,iY,iZ,fU⟩)
 have q1:(k != 1)=true:=by simp;omega
 have q9:(k != 9)=true:=by simp;omega
 have fQ:Hid (Pn.gj k=true∧Pn.gq k=true):=Lib.hid (by constructor <;> simp [Pn.gj,Pn.gq] <;> omega)
 by_cases bQ:n=0∧de=false∧cs.length=0
 ·obtain ⟨e0,e1,e2⟩:=bQ;subst e0 e1;have e9:cs.length≤0:=by omega
  have lC:=Lib.hid (HS.out (fun h=>by rw [fQ.out.1] at h;cases h) (fun h=>by rw [fQ.out.2] at h;cases h) (fun _=>rfl) (fun _=>⟨List.eq_nil_of_length_eq_zero (by omega),rfl⟩));clear HS HF
  try clear e3
  try clear e2
  go_enter Tryz.func176,Tryz.ntmps176
  go_wp2_with fail
  refine (tf _ _).mono ?_
  rintro e w3 ⟨rfl,rfl⟩
  rw [fQ.out.1]
  go_wp2_with (go_at_call 197;refine (tg _ _).mono ?_;rintro e w4 ⟨rfl,rfl⟩;rw [fQ.out.2])
  go_loopw [97] (fun u wr=>∃ j:Nat,j≤cs.length∧u=.int .i64 j∧Hid (aj [] w wr∧∀ (i:Nat) (c:Pn.Cs),i < j→cs[i]?=some c→Pn.kC c=true)) (fun u _=>cs.length - (intOf u).toNat)
  case atStart=>exact ⟨0,Nat.zero_le _,rfl,Lib.hid ⟨KA.out,fun i c hi=>by omega⟩⟩
  case round =>
   obtain ⟨j,hj,rfl,HI⟩:=hrel;obtain ⟨wo,rfl⟩:∃ wo:World,wo=wr:=⟨_,rfl⟩
   obtain rfl:j=cs.length:=by omega
   have HN:Hid (true=q):=Lib.hid (lC.out fun i c hc=>HI.out.2 i c (List.getElem?_eq_some_iff.1 hc).1 hc)
   go_wp2_with fail
   go_ret
   exact ⟨cS HN.out,HI.out.1⟩
 ·have HN:Hid (false=q):=Lib.hid (HF.out (by rintro ⟨d1,d2,d3,d4⟩;have q1:=fQ.out.1;have q2:=fQ.out.2;exact bQ ⟨d3 (by omega),(d4 (by omega)).2,by simp [(d4 (by omega)).1]⟩));have HC:Hid (n=0→de=false→cs.length=0→False):=Lib.hid (fun e0 e1 e2=>bQ ⟨e0,e1,e2⟩);clear bQ
  go_enter Tryz.func176,Tryz.ntmps176
  go_wp2_with fail
  refine (tf _ _).mono ?_
  rintro e w3 ⟨rfl,rfl⟩
  rw [fQ.out.1]
  go_upto_if 93 with (go_at_call 197;refine (tg _ _).mono ?_;rintro e w4 ⟨rfl,rfl⟩;rw [fQ.out.2])
  all_goals
   go_wp2_with fail
   all_goals
    first
     | (exfalso;refine HC.out ?_ ?_ ?_ <;> (first | assumption | omega | (simpa using ‹¬de=true›));done)
     | (go_ret;exact ⟨cS HN.out,(aj.refl [] w).alloc _⟩)
end Go.Proofs.YtofnbflkhgammaaGreat
