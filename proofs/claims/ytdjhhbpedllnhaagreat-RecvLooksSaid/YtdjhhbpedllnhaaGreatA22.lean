/-
  What the laws need, part A22.
  Conditions: none.
-/
import Derived.Test.YtdjhhbpedllnhaaGreatA15
import Derived.Test.YtdjhhbpedllnhaaGreatA21
set_option linter.unusedVariables false
set_option linter.unusedSimpArgs false
set_option linter.unnecessarySimpa false
set_option maxHeartbeats 2000000
namespace Go.Proofs.YtdjhhbpedllnhaaGreat
namespace Sx
structure Z (x:Gr):Prop where
 op:∀ o∈x.ops,o.cases.length≤6
 od:x.order.length≤6
 sg:x.ax.length≤6
 lk:x.aF.length≤6
def ZS (s:ah):Prop:=∀ g:Nat,Z (aa s g)
theorem Z.clean (a:Int):Z (clean [] a):=⟨by simp [Sx.clean],by simp [Sx.clean],by simp [Sx.clean],by simp [Sx.clean]⟩
section
variable {s t:ah} {g h:Nat}
theorem ZS.dK (z:ZS s) {x:Gr} (hx:Z x):ZS (ai s g x):=by
 intro k;unfold aa Sx.ai;simp only [List.getD_eq_getElem?_getD,List.getElem?_set]
 split
 ·split
  ·exact hx
  ·exact Z.clean _
 ·have:=z k;unfold aa at this;rw [List.getD_eq_getElem?_getD] at this;exact this
theorem ZS.of (z:ZS s) (e:t.gs=s.gs):ZS t:=by
 intro k;have:=z k;unfold aa at this ⊢;rw [e];exact this
theorem ZS.dQ (z:ZS s) {c:Int} {x:Cn}:ZS (aA s c x):=z.of rfl
theorem ZS.hJ (z:ZS s) {c:Int} {x:Su}:ZS (aN s c x):=z.of rfl
theorem Z.same {x y:Gr} (z:Z x) (h1:y.ops=x.ops) (h2:y.order=x.order) (h3:y.ax=x.ax) (h4:y.aF=x.aF):Z y:=⟨by rw [h1];exact z.op,by rw [h2];exact z.od,by rw [h3];exact z.sg,by rw [h4];exact z.lk⟩
theorem ZS.put (zt:ZS t) (z:ZS s) (h:Nat) {x:Gr} (e:x.ops=(aa s h).ops∧x.order=(aa s h).order∧x.ax=(aa s h).ax∧x.aF=(aa s h).aF:=by exact ⟨rfl,rfl,rfl,rfl⟩):ZS (Sx.ai t g x):=zt.dK ((z h).same e.1 e.2.1 e.2.2.1 e.2.2.2)
theorem ZS.ite {c:Prop} [Decidable c] {β:Type} {a b:ah × β} (h1:ZS a.1) (h2:ZS b.1):ZS (if c then a else b).1:=by split <;> assumption
theorem ZS.cq {c:Prop} [Decidable c] {a b:ah} (h1:ZS a) (h2:ZS b):ZS (if c then a else b):=by split <;> assumption
theorem ZS.aG (z:ZS s) {p:Int}:ZS (aG s g p):=z.put z g
theorem ZS.br (z:ZS s) {r:Md.an} {p:Int}:ZS (br s g r p):=z.put z g
theorem ZS.free (z:ZS s) {c:Int}:ZS (free s c):=z.dQ
theorem ZS.tryLock (z:ZS s) {c:Int}:ZS (tryLock s g c).1:=ZS.ite z.dQ z
theorem ZS.ak (z:ZS s):ZS (ak s g):=ZS.cq z.aG z.aG
theorem ZS.fF (z:ZS s):ZS (fF s g):=by
 unfold Sx.fF;refine z.dK ?_
 split
 ·exact (z g).same rfl rfl rfl rfl
 ·split
  ·exact (z g).same rfl rfl rfl rfl
  ·exact z g
theorem ZS.ready (z:ZS s):ZS (ready s g):=by
 unfold Sx.ready;refine z.dK ?_
 split
 ·exact (z g).same rfl rfl rfl rfl
 ·split
  ·exact (z g).same rfl rfl rfl rfl
  ·exact z g
theorem ZS.eE (z:ZS s) {v:Int}:ZS (eE s g v):=ZS.cq (z.of rfl) z
theorem ZS.cy (z:ZS s) {v:Int}:ZS (cy s g v):=z.eE.hJ
theorem ZS.aQ (z:ZS s):ZS (aQ s g).1:=by
 unfold Sx.aQ;refine ZS.ite (ZS.ite ?_ z) ?_
 ·exact z.of rfl
 ·exact z.of rfl
theorem ZS.drop (z:ZS s) {v:Int}:ZS (aT s v):=ZS.cq z.dQ z
theorem ZS.pair (z:ZS s) {v:Int}:ZS (pair s g v):=ZS.put (ZS.put z z (su s v).g.toNat) z g
theorem ZS.serve (z:ZS s) {v:Int} {d:Bool}:ZS (serve s g v d):=by
 have z2:ZS (Sx.aN (Sx.ai s (su s v).g.toNat { aa s (su s v).g.toNat with param:=v }) v { su s v with done:=d }):=ZS.hJ (ZS.put z z (su s v).g.toNat);exact ZS.put z2 z2 g
theorem ZS.common (z:ZS s):ZS (common s g).1:=by
 unfold Sx.common;simp only;refine ZS.ite (ZS.ite (ZS.ite (ZS.aG z.tryLock) (ZS.aG z.tryLock)) z) ?_;refine ZS.ite (ZS.aG z.free) ?_;refine ZS.ite (ZS.fF (ZS.aG z)) ?_;refine ZS.ite (ZS.aG (ZS.put z.cy z g)) ?_;refine ZS.ite (ZS.ak z.free) ?_;refine ZS.ite (ZS.ak (ZS.put z.ready z g)) z
theorem ZS.taken (z:ZS s) {i a b:Int}:ZS (taken s g i a b) :=
 ZS.cq (ZS.aG (ZS.put z z g)) (ZS.aG (ZS.pair (ZS.drop (ZS.put z z g))))
theorem ZS.cU (z:ZS s) {a b:Int}:ZS (cU s g a b) :=
 ZS.cq (ZS.put z.drop z g) (ZS.aG (ZS.pair (ZS.put (ZS.put z z g) z (su s (aa s g).hold).g.toNat )))
theorem ZS.aI (z:ZS s) {d:Su}:ZS (aI s g d) :=
 ZS.cq (ZS.put z.aQ.hJ z g) (ZS.put z.aQ z g)
theorem ZS.nE (z:ZS s) {v:Int}:ZS (nE s g v):=ZS.serve (ZS.hJ z.drop)
theorem ZS.hand (z:ZS s) {c i:Int}:ZS (hand s c i).1:=by unfold Sx.hand;simp only;split;exact z;exact z.dQ
theorem ZS.bV (z:ZS s):ZS (bV s g).1:=by
 unfold Sx.bV;simp only;refine ZS.ite z ?_;refine ZS.ite z.common ?_;refine ZS.ite z ?_;refine ZS.ite (ZS.ite z.aG z.br) ?_;refine ZS.ite (ZS.ite (ZS.put z z g) (ZS.put z z g)) ?_;refine ZS.ite (ZS.ite z.br z.aG) ?_;refine ZS.ite (ZS.ite z.aG z.taken) ?_;refine ZS.ite z.cU ?_;refine ZS.ite (ZS.put z.nE z.nE g) ?_;refine ZS.ite (ZS.ite (ZS.br z.dQ) (ZS.ite z.br z.aG)) ?_;refine ZS.ite z.aI ?_;refine ZS.ite (ZS.put z.dQ z g) ?_;exact ZS.ite (ZS.put z z g) z
theorem ZS.bz (z:ZS s):ZS (bz s g).1:=by
 unfold Sx.bz;simp only;refine ZS.ite z ?_;refine ZS.ite z.common ?_;refine ZS.ite z ?_;refine ZS.ite (ZS.ite z.aG z.br) ?_;refine ZS.ite (ZS.ite z.aG (ZS.put z z g)) ?_;refine ZS.ite (ZS.ite (ZS.put z z g) z.br) ?_;refine ZS.ite (ZS.ite z.br (ZS.ite z.aG z.aG)) ?_;refine ZS.ite (ZS.ite z.aG z.taken) ?_;refine ZS.ite z.cU ?_;refine ZS.ite (ZS.put (ZS.serve (ZS.hand z.drop)) (ZS.serve (ZS.hand z.drop)) g ) ?_;refine ZS.ite (ZS.ite (ZS.br z.dQ) (ZS.ite z.br z.aG)) ?_;refine ZS.ite z.aI ?_;refine ZS.ite (ZS.put z.dQ z g) ?_;exact ZS.ite (ZS.put z z g) z
theorem ZS.fR (z:ZS s):ZS (fR s g):=by
 have z2:ZS (Sx.aT (Sx.ai s g { aa s g with t:=s.step }) (aa s g).hold):=ZS.drop (ZS.put z z g);exact ZS.serve (ZS.put z2 z2 (su (Sx.aT (Sx.ai s g { aa s g with t:=s.step }) (aa s g).hold) (aa s g).hold).g.toNat)
theorem ZS.ff (z:ZS s) {i:Int}:ZS (ff s g i):=by
 have z2:ZS (Sx.ai s g { aa s g with hold:=i }):=ZS.put z z g;exact ZS.cq z2.aG z2.fR
theorem ZS.ic (z:ZS s):ZS (ic s g) :=
 ZS.cq (ZS.put z.drop z g) (ZS.aG (ZS.fR (ZS.put z z (su s (aa s g).hold).g.toNat)))
theorem ZS.cj (z:ZS s):ZS (cj s g).1:=by
 unfold Sx.cj;simp only;refine ZS.ite z ?_;refine ZS.ite z.common ?_;refine ZS.ite z ?_;refine ZS.ite (ZS.ite z.br (ZS.br z.dQ)) ?_;refine ZS.ite (ZS.ite z.ff (ZS.ite z.ff z.aG)) ?_;exact ZS.ite z.ic z
theorem ZS.unlock (z:ZS s) {p:Int}:ZS (unlock s g p):=ZS.put z z g
theorem ZS.fC (z:ZS s) {r:Md.an} {i:Int}:ZS (fC s g r i):=by
 have z2:ZS (Sx.br s g { r with cs:=i } 30):=z.br;exact ZS.unlock (ZS.put z2 z2 g)
theorem ZS.lock (z:ZS s) {p:Int}:ZS (lock s g p) :=
 ZS.cq (ZS.cq (ZS.put z.tryLock z g) (ZS.put z.tryLock z g)) z
theorem ZS.next (z:ZS s) {p:Int}:ZS (next s g p):=ZS.cq (ZS.put z z g) (ZS.put z z g)
theorem ZS.gY (z:ZS s):ZS (gY s g):=ZS.cq (ZS.put z z g) (z.dK (z g))
theorem ZS.iX (z:ZS s) {i:Int} {k:Pn.Cs}:ZS (iX s g i k).1 :=
 ZS.ite z.fC (ZS.ite (ZS.gY z.taken) (ZS.ite (ZS.fC z.dQ) z))
theorem ZS.jP (z:ZS s) {i:Int} {k:Pn.Cs}:ZS (jP s g i k).1 :=
 ZS.ite (ZS.gY z.taken) (ZS.ite (ZS.fC z.dQ) (ZS.ite z.fC z))
theorem Cu (z:ZS s):(ag s g).cases.length≤6:=by
 unfold ag;rw [List.getD_eq_getElem?_getD]
 by_cases c:(aa s g).at_.toNat < (aa s g).ops.length
 ·rw [List.getElem?_eq_getElem c];exact (z g).op _ (List.getElem_mem c)
 ·rw [List.getElem?_eq_none (by omega)];simp [yG]
theorem ZS.kG (z:ZS s):ZS (kG s g (ag s g)):=by
 have hc:=Cu z (g:=g);have z2:ZS (Sx.ai s g { aa s g with ax:=List.replicate (ag s g).cases.length (-1) }):=z.dK ⟨(z g).op,(z g).od,by simp only [List.length_replicate];exact hc,(z g).lk⟩;unfold Sx.kG;simp only
 by_cases c1:(cD (ag s g) (aE (aa s g).order (aa s g).k)).send=true
 ·rw [if_pos c1];exact ZS.cq z.iX (ZS.cq z.next (ZS.cq z.fC z2.next))
 ·rw [if_neg c1];exact ZS.cq z.jP (ZS.cq z.next (ZS.cq z.fC z2.next))
theorem ZS.kH (z:ZS s) {o:Pn.Op}:ZS (kH s g o):=by
 unfold Sx.kH;simp only;have z1:=z.drop (v:=(aa s g).hold)
 by_cases c:(cD o (aE (aa s g).order (aa s g).k)).send=true
 ·simp only [if_pos c];exact ZS.unlock (ZS.put (ZS.serve z1.hJ) (ZS.serve z1.hJ) g )
 ·simp only [if_neg c];exact ZS.unlock (ZS.put (ZS.serve z1.hand) (ZS.serve z1.hand) g )
theorem ZS.aB (z:ZS s) {o:Pn.Op}:ZS (aB s g o):=by
 unfold Sx.aB;simp only;refine ZS.cq (ZS.next ?_) (ZS.unlock ?_)
 ·refine ZS.dK z.aQ.hJ ?_;exact ⟨(z g).op,(z g).od,by simp only [List.length_set];exact (z g).sg,(z g).lk⟩
 ·refine ZS.put z.aQ z g
theorem ZS.mj (z:ZS s) {o:Pn.Op}:ZS (mj s g o) :=
 ZS.cq (ZS.next z.dQ) (ZS.unlock (ZS.put z.dQ z g))
theorem ZS.dy (z:ZS s):ZS (dy s g).1:=ZS.put z.free z g
theorem ZS.mq (z:ZS s):ZS (mq s g):=ZS.put z z g
theorem ZS.mu (z:ZS s):ZS (mu s g):=ZS.cq (ZS.next z.drop) (ZS.unlock z.drop)
theorem ZS.kI (z:ZS s):ZS (kI s g):=by
 unfold Sx.kI;simp only;have z1:ZS (if 0≤aE (aa s g).ax (aE (aa s g).order (aa s g).k) then Sx.cy s g (aE (aa s g).ax (aE (aa s g).order (aa s g).k)) else s):=ZS.cq z.cy z;generalize (if 0≤aE (aa s g).ax (aE (aa s g).order (aa s g).k) then Sx.cy s g (aE (aa s g).ax (aE (aa s g).order (aa s g).k)) else s)=t at *;refine ZS.cq (ZS.ak (ZS.next ?_)) (ZS.next ?_)
 ·refine ZS.dK z1 ?_;exact ⟨(z g).op,(z g).od,by simp,(z g).lk⟩
 ·refine ZS.dK z1 ?_;exact ⟨(z g).op,(z g).od,by simp only [List.length_set];exact (z g).sg,(z g).lk⟩
theorem ZS.bL (z:ZS s):ZS (bL s g).1:=by
 unfold Sx.bL;simp only;refine ZS.ite z ?_;refine ZS.ite z.lock ?_;refine ZS.ite z.kG ?_;refine ZS.ite (ZS.gY z.cU) ?_;refine ZS.ite z.kH ?_;refine ZS.ite z.aB ?_;refine ZS.ite z.mj ?_;refine ZS.ite (ZS.ite z.dy (ZS.ite (ZS.aG z.dy) (ZS.ite (ZS.aG z.dy) (ZS.ak z.dy)))) ?_;refine ZS.ite z.mq ?_;refine ZS.ite z.lock ?_;refine ZS.ite z.mu ?_;refine ZS.ite (ZS.ite z.dy (ZS.aG z.dy)) ?_;refine ZS.ite z.kI ?_;exact ZS.ite z.common z
theorem ZS.never (z:ZS s):ZS (never s g):=ZS.fF z.aG
theorem ZS.clear (z:ZS s):ZS (clear s g):=by
 unfold Sx.clear;exact z.dK ⟨(z g).op,by simp [oX,Sx.clean],by simp [oX,Sx.clean],by simp [oX,Sx.clean]⟩
theorem Ws (l:List Int) (h:(aF l).Nodup):(aF l).length≤l.length:=by
 refine List.Nodup.length_le_of_subset h fun x hx=>((Gh l).2 x).1 hx |>.1
theorem ZS.kJ (z:ZS s) {o:Pn.Op} (hc:o.cases.length≤6) (ho:(aa s g).order=[]):ZS (kJ s g o):=by
 unfold Sx.kJ;simp only;have z1:ZS { s with drawn:=(drawn s o.cases.length).2 }:=z.of rfl;have hl:∀ (p:Int→Bool),((eJ (drawn s o.cases.length).1 o.cases.length).filter p).length≤6:=by
  intro p;have h1:=List.length_filter_le p (eJ (drawn s o.cases.length).1 o.cases.length);have h2:=(Cf (drawn s o.cases.length).1 o.cases.length).length_eq;simp at h2;omega
 have zx:Z { aa s g with order:=(aa s g).order ++ (eJ (drawn s o.cases.length).1 o.cases.length).filter (fun i=>aL s (cD o i).ch),aF:=Sx.aF (((eJ (drawn s o.cases.length).1 o.cases.length).filter (fun i=>aL s (cD o i).ch)).map (fun i=>(cD o i).ch)),place:=24 }:=by
  refine ⟨(z g).op,?_,(z g).sg,?_⟩
  ·simp only [ho,List.nil_append];exact hl _
  ·have ls:=Gh (((eJ (drawn s o.cases.length).1 o.cases.length).filter (fun i=>aL s (cD o i).ch)).map (fun i=>(cD o i).ch));have:=Ws _ (ls.1.imp (fun h e=>by omega));have h2:=hl (fun i=>aL s (cD o i).ch);simp only [List.length_map] at this;simp only;omega
 have z2:=z1.dK (g:=g) zx;exact ZS.cq z2 (ZS.cq z2.br z2.never)
theorem ZS.kK (z:ZS s):ZS (kK s g):=by
 unfold Sx.kK;simp only;refine ZS.cq (ZS.put z z g) ?_;have z2:ZS (Sx.ai (Sx.clear s g) g { aa (Sx.clear s g) g with call:=(Sx.clear s g).step }):=ZS.put z.clear z.clear g;have ho:(aa (Sx.ai (Sx.clear s g) g { aa (Sx.clear s g) g with call:=(Sx.clear s g).step }) g).order=[]:=by
  by_cases hg:g < s.gs.length
  ·have fY:g < (Sx.clear s g).gs.length:=by unfold Sx.clear;rw [eV];exact hg
   rw [fj fY,if_pos rfl];unfold Sx.clear;rw [fj hg,if_pos rfl];rfl
  ·unfold aa Sx.ai;rw [List.getD_eq_getElem?_getD,List.getElem?_eq_none (by simp [Sx.clear,Sx.ai];omega)];rfl
 generalize Sx.ai (Sx.clear s g) g { aa (Sx.clear s g) g with call:=(Sx.clear s g).step }=s2 at *;have hc:=Cu z2 (g:=g);refine ZS.cq z2.aG ?_;refine ZS.cq (ZS.cq z2.aG z2.never) ?_;refine ZS.cq (ZS.cq z2.aG z2.br) ?_;exact ZS.cq (ZS.cq z2.aG z2.br) (z2.kJ hc ho)
theorem ZS.kL (z:ZS s):ZS (kL s g):=by
 unfold Sx.kL;simp only;exact ZS.cq z.br (ZS.cq (ZS.br (s:={ s with au:=s.au ++ [⟨(ag s g).n,[],false,-1,[],[]⟩] }) (z.of rfl)) (ZS.cq z.br (ZS.cq z.br z.br)))
theorem ZS.answer (z:ZS s):ZS (answer s g):=by
 unfold Sx.answer;simp only;have z1:ZS { s with done:=s.done ++ [mark s g s.step] }:=z.of rfl;exact ZS.clear (ZS.put z1 z1 g)
theorem ZS.js (z:ZS s):ZS (js s g).1:=by
 unfold Sx.js;simp only;exact ZS.ite z.kK (ZS.ite z.kL (ZS.ite z.answer z))
theorem ZS.one (z:ZS s) (p:Int):ZS (one s p).1:=by
 unfold Sx.one
 split
 ·exact z
 have z1:ZS { s with step:=s.step + 1 }:=z.of rfl;simp only;exact ZS.ite z1.js (ZS.ite z1.bV (ZS.ite z1.bz (ZS.ite z1.cj (ZS.ite z1.bL z))))
theorem ZS.start {p:List (List Pn.Op)} {a c:Int} {d:List Int} (hp:Pn.right p=true):ZS (start p a c d):=by
 unfold Pn.right at hp;simp only [decide_eq_true_eq] at hp;intro g
 by_cases hg:g < p.length
 ·rw [Gs hg];have hm:p.getD g []∈p:=by
   rw [List.getD_eq_getElem?_getD,List.getElem?_eq_getElem hg];exact List.getElem_mem _
  have hr:=hp.2.2 _ hm;unfold Pn.mK at hr;simp only [decide_eq_true_eq] at hr;exact ⟨fun o ho=>(Gj (hr.2 o ho)).2.2.2.2.2.2.2.2.1,by simp [Sx.clean],by simp [Sx.clean],by simp [Sx.clean]⟩
 ·unfold aa;rw [List.getD_eq_getElem?_getD,List.getElem?_eq_none (by simp [Sx.start];omega)];exact Z.clean 0
structure Good (s:ah):Prop extends MInv s where
 z:ZS s
theorem Good.one (h:Good s) (p:Int):Good (one s p).1:=⟨h.toMInv.one p,h.z.one p⟩
theorem Good.start {p:List (List Pn.Op)} {a c:Int} {d:List Int} (hp:Pn.right p=true) (hc:can a p.length c=true) (hd:∀ x∈d,0≤x∧x < 65536) (hl:d.length≤1000):Good (start p a c d):=⟨MInv.start hp hc hd hl,ZS.start hp⟩
end
end Sx
namespace Sx
def SP (k:Int) (s:ah):Prop:=s.step=k
section
variable {s t:ah} {g h:Nat} {k:Int}
theorem SP.of (z:SP k s) (e:t.step=s.step):SP k t:=by unfold SP at *;rw [e];exact z
theorem SP.w (zt:SP k t) {x:Gr}:SP k (Sx.ai t g x):=zt
theorem SP.dQ (z:SP k s) {c:Int} {x:Cn}:SP k (Sx.aA s c x):=z
theorem SP.hJ (z:SP k s) {c:Int} {x:Su}:SP k (Sx.aN s c x):=z
theorem SP.ite {c:Prop} [Decidable c] {β:Type} {a b:ah × β} (h1:SP k a.1) (h2:SP k b.1):SP k (if c then a else b).1:=by split <;> assumption
theorem SP.cq {c:Prop} [Decidable c] {a b:ah} (h1:SP k a) (h2:SP k b):SP k (if c then a else b):=by split <;> assumption
theorem SP.aG (z:SP k s) {p:Int}:SP k (aG s g p):=SP.w z
theorem SP.br (z:SP k s) {r:Md.an} {p:Int}:SP k (br s g r p):=SP.w z
theorem SP.free (z:SP k s) {c:Int}:SP k (free s c):=z.dQ
theorem SP.tryLock (z:SP k s) {c:Int}:SP k (tryLock s g c).1:=SP.ite z.dQ z
theorem SP.ak (z:SP k s):SP k (ak s g):=SP.cq z.aG z.aG
theorem SP.fF (z:SP k s):SP k (fF s g):=SP.w z
theorem SP.ready (z:SP k s):SP k (ready s g):=SP.w z
theorem SP.eE (z:SP k s) {v:Int}:SP k (eE s g v):=SP.cq (z.of rfl) z
theorem SP.cy (z:SP k s) {v:Int}:SP k (cy s g v):=z.eE.hJ
theorem SP.aQ (z:SP k s):SP k (aQ s g).1:=by
 unfold Sx.aQ;refine SP.ite (SP.ite ?_ z) ?_
 ·exact z.of rfl
 ·exact z.of rfl
theorem SP.drop (z:SP k s) {v:Int}:SP k (aT s v):=SP.cq z.dQ z
theorem SP.pair (z:SP k s) {v:Int}:SP k (pair s g v):=SP.w (SP.w z)
theorem SP.serve (z:SP k s) {v:Int} {d:Bool}:SP k (serve s g v d):=by
 have z2:SP k (Sx.aN (Sx.ai s (su s v).g.toNat { aa s (su s v).g.toNat with param:=v }) v { su s v with done:=d }):=SP.hJ (SP.w z);exact SP.w z2
theorem SP.common (z:SP k s):SP k (common s g).1:=by
 unfold Sx.common;simp only;refine SP.ite (SP.ite (SP.ite (SP.aG z.tryLock) (SP.aG z.tryLock)) z) ?_;refine SP.ite (SP.aG z.free) ?_;refine SP.ite (SP.fF (SP.aG z)) ?_;refine SP.ite (SP.aG (SP.w z.cy)) ?_;refine SP.ite (SP.ak z.free) ?_;refine SP.ite (SP.ak (SP.w z.ready)) z
theorem SP.taken (z:SP k s) {i a b:Int}:SP k (taken s g i a b) :=
 SP.cq (SP.aG (SP.w z)) (SP.aG (SP.pair (SP.drop (SP.w z))))
theorem SP.cU (z:SP k s) {a b:Int}:SP k (cU s g a b) :=
 SP.cq (SP.w z.drop) (SP.aG (SP.pair (SP.w (SP.w z) )))
theorem SP.aI (z:SP k s) {d:Su}:SP k (aI s g d) :=
 SP.cq (SP.w z.aQ.hJ) (SP.w z.aQ)
theorem SP.nE (z:SP k s) {v:Int}:SP k (nE s g v):=SP.serve (SP.hJ z.drop)
theorem SP.hand (z:SP k s) {c i:Int}:SP k (hand s c i).1:=by unfold Sx.hand;simp only;split;exact z;exact z.dQ
theorem SP.bV (z:SP k s):SP k (bV s g).1:=by
 unfold Sx.bV;simp only;refine SP.ite z ?_;refine SP.ite z.common ?_;refine SP.ite z ?_;refine SP.ite (SP.ite z.aG z.br) ?_;refine SP.ite (SP.ite (SP.w z) (SP.w z)) ?_;refine SP.ite (SP.ite z.br z.aG) ?_;refine SP.ite (SP.ite z.aG z.taken) ?_;refine SP.ite z.cU ?_;refine SP.ite (SP.w z.nE) ?_;refine SP.ite (SP.ite (SP.br z.dQ) (SP.ite z.br z.aG)) ?_;refine SP.ite z.aI ?_;refine SP.ite (SP.w z.dQ) ?_;exact SP.ite (SP.w z) z
theorem SP.bz (z:SP k s):SP k (bz s g).1:=by
 unfold Sx.bz;simp only;refine SP.ite z ?_;refine SP.ite z.common ?_;refine SP.ite z ?_;refine SP.ite (SP.ite z.aG z.br) ?_;refine SP.ite (SP.ite z.aG (SP.w z)) ?_;refine SP.ite (SP.ite (SP.w z) z.br) ?_;refine SP.ite (SP.ite z.br (SP.ite z.aG z.aG)) ?_;refine SP.ite (SP.ite z.aG z.taken) ?_;refine SP.ite z.cU ?_;refine SP.ite (SP.w (SP.serve (SP.hand z.drop)) ) ?_;refine SP.ite (SP.ite (SP.br z.dQ) (SP.ite z.br z.aG)) ?_;refine SP.ite z.aI ?_;refine SP.ite (SP.w z.dQ) ?_;exact SP.ite (SP.w z) z
theorem SP.fR (z:SP k s):SP k (fR s g):=by
 have z2:SP k (Sx.aT (Sx.ai s g { aa s g with t:=s.step }) (aa s g).hold):=SP.drop (SP.w z);exact SP.serve (SP.w z2)
theorem SP.ff (z:SP k s) {i:Int}:SP k (ff s g i):=by
 have z2:SP k (Sx.ai s g { aa s g with hold:=i }):=SP.w z;exact SP.cq z2.aG z2.fR
theorem SP.ic (z:SP k s):SP k (ic s g) :=
 SP.cq (SP.w z.drop) (SP.aG (SP.fR (SP.w z)))
theorem SP.cj (z:SP k s):SP k (cj s g).1:=by
 unfold Sx.cj;simp only;refine SP.ite z ?_;refine SP.ite z.common ?_;refine SP.ite z ?_;refine SP.ite (SP.ite z.br (SP.br z.dQ)) ?_;refine SP.ite (SP.ite z.ff (SP.ite z.ff z.aG)) ?_;exact SP.ite z.ic z
theorem SP.unlock (z:SP k s) {p:Int}:SP k (unlock s g p):=SP.w z
theorem SP.fC (z:SP k s) {r:Md.an} {i:Int}:SP k (fC s g r i):=by
 have z2:SP k (Sx.br s g { r with cs:=i } 30):=z.br;exact SP.unlock (SP.w z2)
theorem SP.lock (z:SP k s) {p:Int}:SP k (lock s g p) :=
 SP.cq (SP.cq (SP.w z.tryLock) (SP.w z.tryLock)) z
theorem SP.next (z:SP k s) {p:Int}:SP k (next s g p):=SP.cq (SP.w z) (SP.w z)
theorem SP.gY (z:SP k s):SP k (gY s g):=SP.cq (SP.w z) (SP.w z)
theorem SP.iX (z:SP k s) {i:Int} {q:Pn.Cs}:SP k (iX s g i q).1 :=
 SP.ite z.fC (SP.ite (SP.gY z.taken) (SP.ite (SP.fC z.dQ) z))
theorem SP.jP (z:SP k s) {i:Int} {q:Pn.Cs}:SP k (jP s g i q).1 :=
 SP.ite (SP.gY z.taken) (SP.ite (SP.fC z.dQ) (SP.ite z.fC z))
theorem SP.kG (z:SP k s):SP k (kG s g (ag s g)):=by
 have z2:SP k (Sx.ai s g { aa s g with ax:=List.replicate (ag s g).cases.length (-1) }):=SP.w z;unfold Sx.kG;simp only
 by_cases c1:(cD (ag s g) (aE (aa s g).order (aa s g).k)).send=true
 ·rw [if_pos c1];exact SP.cq z.iX (SP.cq z.next (SP.cq z.fC z2.next))
 ·rw [if_neg c1];exact SP.cq z.jP (SP.cq z.next (SP.cq z.fC z2.next))
theorem SP.kH (z:SP k s) {o:Pn.Op}:SP k (kH s g o):=by
 unfold Sx.kH;simp only;have z1:=z.drop (v:=(aa s g).hold)
 by_cases c:(cD o (aE (aa s g).order (aa s g).k)).send=true
 ·simp only [if_pos c];exact SP.unlock (SP.w (SP.serve z1.hJ) )
 ·simp only [if_neg c];exact SP.unlock (SP.w (SP.serve z1.hand) )
theorem SP.aB (z:SP k s) {o:Pn.Op}:SP k (aB s g o):=by
 unfold Sx.aB;simp only;refine SP.cq (SP.next ?_) (SP.unlock ?_)
 ·exact SP.w z.aQ.hJ
 ·refine SP.w z.aQ
theorem SP.mj (z:SP k s) {o:Pn.Op}:SP k (mj s g o) :=
 SP.cq (SP.next z.dQ) (SP.unlock (SP.w z.dQ))
theorem SP.dy (z:SP k s):SP k (dy s g).1:=SP.w z.free
theorem SP.mq (z:SP k s):SP k (mq s g):=SP.w z
theorem SP.mu (z:SP k s):SP k (mu s g):=SP.cq (SP.next z.drop) (SP.unlock z.drop)
theorem SP.kI (z:SP k s):SP k (kI s g):=by
 unfold Sx.kI;simp only;have z1:SP k (if 0≤aE (aa s g).ax (aE (aa s g).order (aa s g).k) then Sx.cy s g (aE (aa s g).ax (aE (aa s g).order (aa s g).k)) else s):=SP.cq z.cy z;generalize (if 0≤aE (aa s g).ax (aE (aa s g).order (aa s g).k) then Sx.cy s g (aE (aa s g).ax (aE (aa s g).order (aa s g).k)) else s)=t at *;refine SP.cq (SP.ak (SP.next ?_)) (SP.next ?_)
 ·exact SP.w z1
 ·exact SP.w z1
theorem SP.bL (z:SP k s):SP k (bL s g).1:=by
 unfold Sx.bL;simp only;refine SP.ite z ?_;refine SP.ite z.lock ?_;refine SP.ite z.kG ?_;refine SP.ite (SP.gY z.cU) ?_;refine SP.ite z.kH ?_;refine SP.ite z.aB ?_;refine SP.ite z.mj ?_;refine SP.ite (SP.ite z.dy (SP.ite (SP.aG z.dy) (SP.ite (SP.aG z.dy) (SP.ak z.dy)))) ?_;refine SP.ite z.mq ?_;refine SP.ite z.lock ?_;refine SP.ite z.mu ?_;refine SP.ite (SP.ite z.dy (SP.aG z.dy)) ?_;refine SP.ite z.kI ?_;exact SP.ite z.common z
theorem SP.never (z:SP k s):SP k (never s g):=SP.fF z.aG
theorem SP.clear (z:SP k s):SP k (clear s g):=by
 unfold Sx.clear;exact SP.w z
theorem SP.kJ (z:SP k s) {o:Pn.Op}:SP k (kJ s g o):=by
 unfold Sx.kJ;simp only;have z1:SP k { s with drawn:=(drawn s o.cases.length).2 }:=z.of rfl;exact SP.cq (SP.w z1) (SP.cq (SP.br (SP.w z1)) (SP.never (SP.w z1)))
theorem SP.kK (z:SP k s):SP k (kK s g):=by
 unfold Sx.kK;simp only;refine SP.cq (SP.w z) ?_;have z2:SP k (Sx.ai (Sx.clear s g) g { aa (Sx.clear s g) g with call:=(Sx.clear s g).step }):=SP.w z.clear;generalize Sx.ai (Sx.clear s g) g { aa (Sx.clear s g) g with call:=(Sx.clear s g).step }=s2 at *;refine SP.cq z2.aG ?_;refine SP.cq (SP.cq z2.aG z2.never) ?_;refine SP.cq (SP.cq z2.aG z2.br) ?_;exact SP.cq (SP.cq z2.aG z2.br) z2.kJ
theorem SP.kL (z:SP k s):SP k (kL s g):=by
 unfold Sx.kL;simp only;exact SP.cq z.br (SP.cq (SP.br (s:={ s with au:=s.au ++ [⟨(ag s g).n,[],false,-1,[],[]⟩] }) (z.of rfl)) (SP.cq z.br (SP.cq z.br z.br)))
theorem SP.answer (z:SP k s):SP k (answer s g):=by
 unfold Sx.answer;simp only;have z1:SP k { s with done:=s.done ++ [mark s g s.step] }:=z.of rfl;exact SP.clear (SP.w z1)
theorem SP.js (z:SP k s):SP k (js s g).1:=by
 unfold Sx.js;simp only;exact SP.ite z.kK (SP.ite z.kL (SP.ite z.answer z))
theorem Wu (s:ah) (p:Int):s.step≤(Sx.one s p).1.step∧(Sx.one s p).1.step≤s.step + 1:=by
 unfold Sx.one
 split
 ·exact ⟨Int.le_refl _,by simp only;omega⟩
 have z1:SP (s.step + 1) { s with step:=s.step + 1 }:=rfl;simp only
 split
 ·have:=z1.js (g:=p.toNat);unfold SP at this;rw [this];omega
 split
 ·have:=z1.bV (g:=p.toNat);unfold SP at this;rw [this];omega
 split
 ·have:=z1.bz (g:=p.toNat);unfold SP at this;rw [this];omega
 split
 ·have:=z1.cj (g:=p.toNat);unfold SP at this;rw [this];omega
 split
 ·have:=z1.bL (g:=p.toNat);unfold SP at this;rw [this];omega
 ·exact ⟨Int.le_refl _,by simp only;omega⟩
theorem Wv (l:List Int):∀ s:ah,s.step≤(Sx.runs s l).1.step∧(Sx.runs s l).1.step≤s.step + l.length:=by
 induction l with
 | nil=>intro s;simp [Sx.runs]
 | cons p r ih =>
  intro s;unfold Sx.runs
  split
  ·simp only [List.length_cons];omega
  ·have h1:=Wu s (pick s p);have h2:=ih (Sx.one s (pick s p)).1;simp only [List.length_cons];omega
theorem Good.runs {s:ah} (h:Good s) (l:List Int):Good (Sx.runs s l).1:=by
 induction l generalizing s with
 | nil=>exact h
 | cons p r ih =>
  unfold Sx.runs
  split
  ·exact h
  ·exact ih (h.one _)
end
end Sx
namespace Po
theorem MS (f:Int):∀ (L:List Int) (H:List Bool),f≤H.length→L.Nodup→(∀ x∈L,0≤x∧x < f∧H.getD x.toNat false=false) →
  (settle f H L).2=true∧∀ j:Nat,(settle f H L).1.getD j false=(H.getD j false || decide ((j:Int)∈L))
 | [],H,hf,nd,hx=>⟨rfl,fun j=>by simp [settle]⟩
 | x :: r,H,hf,nd,hx=>by
  obtain ⟨h0,h1,h2⟩:=hx x (List.mem_cons_self ..);have MT:=List.nodup_cons.1 nd;have hl:live f H x=true:=by simp only [live,Bool.and_eq_true,decide_eq_true_eq,Bool.not_eq_true'];exact ⟨⟨h0,h1⟩,h2⟩
  have:=MS f r (H.set x.toNat true) (by rw [List.length_set];exact hf) MT.2 (fun y hy=>by
   obtain ⟨a,b,c⟩:=hx y (List.mem_cons_of_mem _ hy);refine ⟨a,b,?_⟩;rw [mL _ _ _ _ _ (by omega),if_neg];exact c;intro e;have:x=y:=by omega
   exact MT.1 (this ▸ hy))
  unfold settle;rw [if_pos hl];refine ⟨this.1,fun j=>?_⟩;rw [this.2 j,mL _ _ _ _ _ (by omega)]
  by_cases e:x.toNat=j
  ·rw [if_pos e];have:(j:Int)=x:=by omega
   simp [this]
  ·rw [if_neg e];have:(j:Int)≠x:=by omega
   simp [this]
theorem Ww {size most:Nat} {C:List (List Int)} {M:List Int} {f:Nat} {H0:List Bool} (v:Inv size most ⟨C,M,f,H0⟩) (hC:C.length≤8) :
  of size most f C M=true∧∀ H,settle f (List.replicate size false) (C.flatten ++ M)=(H,true)→Inv size most ⟨C,M,f,H⟩:=by
 have hc:∀ a,(C.flatten ++ M).count a=dZ ⟨C,M,f,H0⟩ a:=fun a=>by rw [List.count_append];unfold dZ;simp only;omega
 have fl:=v.fl;simp only at fl;have hk:=MS f (C.flatten ++ M) (List.replicate size false) (by simpa using fl) (List.nodup_iff_count.2 fun a=>by rw [hc];exact v.one a) (fun x hx=>by
  have h1:=v.bound x (by rw [← hc];exact List.count_pos_iff.2 hx);simp only at h1;exact ⟨h1.1,h1.2,by rw [List.getD_eq_getElem?_getD,List.getElem?_replicate];split <;> rfl⟩)
 have ca:=v.qv;simp only at ca;have m1:=v.m1;have m2:=v.m2;have s1:=v.s1;refine ⟨?_,fun H hH=>⟨m1,m2,s1,?_,v.fl,v.one,v.bound,fun x hx=>?_,v.qv⟩⟩
 ·unfold of fits;have a1:decide (0≤(size:Int)∧(size:Int)≤64∧0≤(C.length:Int)∧(C.length:Int)≤8∧1≤(most:Int)∧(most:Int)≤16)=true:=decide_eq_true (by omega);have a2:decide (0≤(f:Int))=true:=decide_eq_true (by omega);have a3:decide ((f:Int)≤(size:Int))=true:=decide_eq_true (by omega);have a4:decide (∀ l∈C,(l.length:Int)≤(most:Int))=true:=decide_eq_true (fun l hl=>by have:=ca l hl;omega);rw [a1,a2,a3,a4,Int.toNat_natCast];exact hk.1
 ·have:=BX f (List.replicate size false) (C.flatten ++ M);rw [hH] at this;simpa using this
 ·have:=hk.2 x;rw [hH] at this;simp only at this ⊢;rw [this,List.getD_eq_getElem?_getD,List.getElem?_replicate,if_pos hx];simp only [Option.getD_some,Bool.false_or];rw [decide_eq_decide]
  show _↔1≤dZ ⟨C,M,f,H0⟩ (x:Int);rw [← hc];exact List.count_pos_iff.symm
end Po
namespace Sx
variable {s:ah}
theorem zg {α:Type} {l:List α} {k:Nat} {a z:α} (h:l[k]?=some a) (n:Nat) (hn:n=l.length):(l.take k ++ List.replicate (n - k) z).set k a=l.take (k + 1) ++ List.replicate (n - (k + 1)) z:=by
 have hk:=(List.getElem?_eq_some_iff.1 h).1;have e1:(l.take k).length=k:=by rw [List.length_take];omega
 obtain ⟨d,hd⟩:∃ d,n - k=d + 1:=⟨n - k - 1,by omega⟩
 have FJ:n - (k + 1)=d:=by omega
 rw [List.set_append_right _ _ (by omega),e1,Nat.sub_self,hd,FJ,List.replicate_succ,List.set_cons_zero,List.take_add_one,h,List.append_assoc];rfl
def bK (s:ah) (k:Nat):List (Int × Bool):=(s.gs.map fun x=>(x.status,x.token)).take k ++ List.replicate (s.gs.length - k) (0,false)
theorem Wx (k:Nat) (hk:k≤s.gs.length):(bK s k).length=s.gs.length:=by simp [bK];omega
theorem Wy {k:Nat} (hk:k < s.gs.length) (h:0≤(aa s k).status∧(aa s k).status≤2):Bc.lE (bK s k) (k:Int) (aa s k).status (aa s k).token=bK s (k + 1):=by
 have hx:s.gs[k]?=some (aa s k):=by unfold aa;rw [List.getD_eq_getElem?_getD,List.getElem?_eq_getElem hk];rfl
 have:Bc.kM (bK s k) (k:Int) (aa s k).status=true:=by
  unfold Bc.kM Bc.has;rw [Wx k (by omega)];simp only [Bool.and_eq_true,decide_eq_true_eq];omega
 unfold Bc.lE;rw [if_pos this,Int.toNat_natCast];unfold bK;exact zg (by rw [List.getElem?_map,hx];rfl) _ (by simp)
theorem Wz (h:s.gs.length≤8):Bc.nK (s.gs.length:Int)=bK s 0:=by
 unfold Bc.nK bK;rw [show (max 0 (min (s.gs.length:Int) 4096)).toNat=s.gs.length by omega];simp
theorem WA:bK s s.gs.length=s.gs.map fun x=>(x.status,x.token):=by
 unfold bK;rw [List.take_of_length_le (by simp),Nat.sub_self];simp
def lK (s:ah) (k:Nat):List Int:=(s.au.map (·.lock)).take k ++ List.replicate (s.au.length - k) (-1)
theorem KU {k:Nat} (hk:k < s.au.length):s.au[k]?=some (cn s ((k:Int) + 1)):=by
 unfold cn;rw [show ((k:Int) + 1 - 1).toNat=k by omega,List.getD_eq_getElem?_getD,List.getElem?_eq_getElem hk];rfl
theorem WB {k:Nat} (hk:k < s.au.length) (h:(cn s ((k:Int) + 1)).lock=-1∨0≤(cn s ((k:Int) + 1)).lock):Lt.lD (lK s k) ((k:Int) + 1 - 1) (cn s ((k:Int) + 1)).lock=lK s (k + 1):=by
 have hx:=KU hk;have hl:(lK s k).length=s.au.length:=by simp [lK];omega
 have hm:(s.au.map (·.lock))[k]?=some (cn s ((k:Int) + 1)).lock:=by rw [List.getElem?_map,hx];rfl
 have hf:=zg (z:=(-1:Int)) hm s.au.length (by simp);rw [show (k:Int) + 1 - 1=k by omega];have he:(lK s k)[k]?=some (-1):=by
  have e1:((s.au.map (·.lock)).take k).length=k:=by simp;omega
  unfold lK;rw [List.getElem?_append_right (by omega),e1,Nat.sub_self,List.getElem?_replicate,if_pos (by omega)]
 unfold Lt.lD
 split
 ·rw [Int.toNat_natCast];exact hf
 ·rename_i c;have:¬ 0≤(cn s ((k:Int) + 1)).lock:=by
   intro c2;apply c;unfold Lt.lC Lt.has;rw [hl,Int.toNat_natCast,List.getD_eq_getElem?_getD,he];simp only [Bool.and_eq_true,decide_eq_true_eq];exact ⟨⟨⟨by omega,by omega⟩,c2⟩,by simp⟩
  have e:(cn s ((k:Int) + 1)).lock=-1:=by omega
  rw [e] at hf;have:(lK s k).set k (-1)=lK s k:=by
   apply List.ext_getElem?;intro j;rw [List.getElem?_set]
   split
   ·rename_i c3;subst c3;rw [he];simp [hl,hk]
   ·rfl
  unfold lK at this;rw [hf] at this;exact this.symm
theorem WC (h:s.au.length≤8):Lt.nK (s.au.length:Int)=lK s 0:=by
 unfold Lt.nK lK;rw [show (max 0 (min (s.au.length:Int) 4096)).toNat=s.au.length by omega];simp
theorem WE:lK s s.au.length=s.au.map (·.lock):=by
 unfold lK;rw [List.take_of_length_le (by simp),Nat.sub_self];simp
def qK (s:ah) (k a b:Nat):List (List Int):=(List.range 16).map fun j =>
 if j / 2 < k then (if j % 2=0 then (cn s ((j / 2:Nat) + 1)).recv else (cn s ((j / 2:Nat) + 1)).send)
 else if j / 2=k then (if j % 2=0 then (cn s ((k:Nat) + 1)).recv.take a else (cn s ((k:Nat) + 1)).send.take b) else []
theorem sP (k a b:Nat):(qK s k a b).length=16:=by simp [qK]
theorem ud (k a b:Nat) {j:Nat} (hj:j < 16):(qK s k a b)[j]?=some (if j / 2 < k then (if j % 2=0 then (cn s ((j / 2:Nat) + 1)).recv else (cn s ((j / 2:Nat) + 1)).send)
 else if j / 2=k then (if j % 2=0 then (cn s ((k:Nat) + 1)).recv.take a else (cn s ((k:Nat) + 1)).send.take b) else []):=by
 unfold qK;rw [List.getElem?_map,List.getElem?_range hj];rfl
theorem MU {k a b:Nat} {x:Int} (h:x∈(qK s k a b).flatten):∃ j:Nat,j≤k∧(j < k∧(x∈(cn s ((j:Int) + 1)).recv∨x∈(cn s ((j:Int) + 1)).send)∨j=k∧(x∈(cn s ((k:Int) + 1)).recv.take a∨x∈(cn s ((k:Int) + 1)).send.take b)):=by
 obtain ⟨l,hl,hx⟩:=List.mem_flatten.1 h;unfold qK at hl;obtain ⟨j,hj,rfl⟩:=List.mem_map.1 hl;have hj:j < 16:=by simpa using hj
 by_cases c:j / 2 < k
 ·rw [if_pos c] at hx;refine ⟨j / 2,by omega,.inl ⟨c,?_⟩⟩
  split at hx
  ·exact .inl hx
  ·exact .inr hx
 ·rw [if_neg c] at hx
  split at hx
  ·rename_i c2;refine ⟨k,Nat.le_refl _,.inr ⟨rfl,?_⟩⟩
   split at hx
   ·exact .inl hx
   ·exact .inr hx
  ·simp at hx
theorem MV {l:List Int} (nd:l.Nodup) {a:Nat} {x:Int} (h:l[a]?=some x):x∉l.take a:=by
 intro hx;obtain ⟨j,hj⟩:=List.getElem?_of_mem hx;have hl:=(List.getElem?_eq_some_iff.1 hj).1;rw [List.length_take] at hl;rw [List.getElem?_take_of_lt (by omega)] at hj;obtain ⟨h1,h2⟩:=List.getElem?_eq_some_iff.1 h;obtain ⟨h3,h4⟩:=List.getElem?_eq_some_iff.1 hj;exact List.pairwise_iff_getElem.1 nd j a h3 h1 (by omega) (h4.trans h2.symm)
structure Qs (s:ah):Prop where
 c8:s.au.length≤8
 q:∀ k:Nat,k < s.au.length→∀ i,i∈(cn s ((k:Int) + 1)).recv∨i∈(cn s ((k:Int) + 1)).send→0≤i∧i < s.aB.length∧(su s i).ch=(k:Int) + 1∧((su s i).send=false→i∉(cn s ((k:Int) + 1)).send)∧((su s i).send=true→i∉(cn s ((k:Int) + 1)).recv)
 nd:∀ k:Nat,k < s.au.length→(cn s ((k:Int) + 1)).recv.Nodup∧(cn s ((k:Int) + 1)).send.Nodup
theorem WG (Q:Qs s) {k a:Nat} (hk:k < s.au.length) {x:Int} (hx:(cn s ((k:Int) + 1)).recv[a]?=some x):Qu.push s.aB.length (qK s k a 0) (2 * ((k:Int) + 1) - 2) x=(qK s k (a + 1) 0,true):=by
 have m:=List.mem_of_getElem? hx;have c8:=Q.c8;obtain ⟨i0,i1,i2,i3,i4⟩:=Q.q k hk x (.inl m);have hn:Qu.loc (qK s k a 0) x=none:=by
  rw [Qu.qD];intro hm;obtain ⟨j,j1,⟨j2,j3⟩ | ⟨rfl,j3⟩⟩:=MU hm
  ·have:=(Q.q j (by omega) x j3).2.2.1;omega
  ·rcases j3 with j3 | j3
   ·exact MV (Q.nd j hk).1 hx j3
   ·simp at j3
 have e:2 * ((k:Int) + 1) - 2=((2 * k:Nat):Int):=by omega
 have hl:Qu.line (qK s k a 0) ((2 * k:Nat):Int)=true:=by unfold Qu.line;rw [sP];simp only [Bool.and_eq_true,decide_eq_true_eq];omega
 unfold Qu.push;rw [e,hl,hn,if_pos (by simp only [Option.isNone_none,Bool.true_and,Bool.and_true,Bool.and_eq_true,decide_eq_true_eq];exact ⟨i0,i1⟩)];unfold Qu.row;rw [hl,if_pos rfl,Int.toNat_natCast,List.getD_eq_getElem?_getD,ud k a 0 (j:=2 * k) (by omega)]
 congr 1
 apply List.ext_getElem?;intro j;rw [List.getElem?_set]
 by_cases c:2 * k=j
 ·subst c;rw [if_pos rfl,if_pos (by rw [sP];omega),ud k (a + 1) 0 (j:=2 * k) (by omega)];have d1:2 * k / 2=k:=by omega
  have d2:2 * k % 2=0:=by omega
  simp only [d1,d2,Nat.lt_irrefl,if_false,if_true,Option.getD_some];rw [List.take_add_one,hx];rfl
 ·rw [if_neg c]
  by_cases c2:j < 16
  ·rw [ud k a 0 c2,ud k (a + 1) 0 c2]
   by_cases c3:j / 2=k
   ·have:j % 2≠0:=by omega
    simp only [this,if_false]
   ·rw [if_neg c3,if_neg c3]
  ·rw [List.getElem?_eq_none (by rw [sP];omega),List.getElem?_eq_none (by rw [sP];omega)]
theorem WH (Q:Qs s) {k b:Nat} (hk:k < s.au.length) {x:Int} (hx:(cn s ((k:Int) + 1)).send[b]?=some x) :
  Qu.push s.aB.length (qK s k (cn s ((k:Int) + 1)).recv.length b) (2 * ((k:Int) + 1) - 1) x=(qK s k (cn s ((k:Int) + 1)).recv.length (b + 1),true):=by
 have m:=List.mem_of_getElem? hx;have c8:=Q.c8;obtain ⟨i0,i1,i2,i3,i4⟩:=Q.q k hk x (.inr m);generalize yV:(cn s ((k:Int) + 1)).recv.length=a;have hn:Qu.loc (qK s k a b) x=none:=by
  rw [Qu.qD];intro hm;obtain ⟨j,j1,⟨j2,j3⟩ | ⟨rfl,j3⟩⟩:=MU hm
  ·have:=(Q.q j (by omega) x j3).2.2.1;omega
  ·rcases j3 with j3 | j3
   ·have j3:=List.mem_of_mem_take j3
    cases c:(su s x).send with
    | false=>exact i3 c m
    | true=>exact i4 c j3
   ·exact MV (Q.nd j hk).2 hx j3
 have e:2 * ((k:Int) + 1) - 1=((2 * k + 1:Nat):Int):=by omega
 have hl:Qu.line (qK s k a b) ((2 * k + 1:Nat):Int)=true:=by unfold Qu.line;rw [sP];simp only [Bool.and_eq_true,decide_eq_true_eq];omega
 unfold Qu.push;rw [e,hl,hn,if_pos (by simp only [Option.isNone_none,Bool.true_and,Bool.and_true,Bool.and_eq_true,decide_eq_true_eq];exact ⟨i0,i1⟩)];unfold Qu.row;rw [hl,if_pos rfl,Int.toNat_natCast,List.getD_eq_getElem?_getD,ud k a b (j:=2 * k + 1) (by omega)]
 congr 1
 apply List.ext_getElem?;intro j;rw [List.getElem?_set]
 by_cases c:2 * k + 1=j
 ·subst c;rw [if_pos rfl,if_pos (by rw [sP];omega),ud k a (b + 1) (j:=2 * k + 1) (by omega)];have d1:(2 * k + 1) / 2=k:=by omega
  have d2:(2 * k + 1) % 2=1:=by omega
  simp only [d1,d2,Nat.lt_irrefl,if_false,if_true,Option.getD_some,Nat.one_ne_zero];rw [List.take_add_one,hx];rfl
 ·rw [if_neg c]
  by_cases c2:j < 16
  ·rw [ud k a b c2,ud k a (b + 1) c2]
   by_cases c3:j / 2=k
   ·have:j % 2=0:=by omega
    simp only [this,if_true]
   ·rw [if_neg c3,if_neg c3]
  ·rw [List.getElem?_eq_none (by rw [sP];omega),List.getElem?_eq_none (by rw [sP];omega)]
theorem WI:List.replicate 16 []=qK s 0 0 0:=by
 refine (List.eq_replicate_iff.2 ⟨sP 0 0 0,fun l hl=>?_⟩).symm;unfold qK at hl;obtain ⟨j,_,rfl⟩:=List.mem_map.1 hl
 split
 ·omega
 ·split
  ·split <;> simp
  ·rfl
theorem WJ {k:Nat}:qK s k (cn s ((k:Int) + 1)).recv.length (cn s ((k:Int) + 1)).send.length=qK s (k + 1) 0 0:=by
 unfold qK;refine List.map_congr_left fun j hj=>?_
 by_cases c:j / 2 < k
 ·rw [if_pos c,if_pos (show j / 2 < k + 1 by omega)]
 ·rw [if_neg c]
  by_cases c2:j / 2=k
  ·rw [if_pos c2,if_pos (show j / 2 < k + 1 by omega),List.take_of_length_le (Nat.le_refl _),List.take_of_length_le (Nat.le_refl _),c2]
  ·rw [if_neg c2,if_neg (show ¬ j / 2 < k + 1 by omega)]
   split
   ·split <;> simp
   ·rfl
theorem WK:qK s s.au.length 0 0=(List.range 16).map fun j=>if j % 2=0 then (cn s ((j / 2:Nat) + 1)).recv else (cn s ((j / 2:Nat) + 1)).send:=by
 unfold qK;refine List.map_congr_left fun j hj=>?_
 by_cases c:j / 2 < s.au.length
 ·rw [if_pos c]
 ·rw [if_neg c];have e:cn s ((j / 2:Nat) + 1)=rP:=by
   unfold cn;rw [List.getD_eq_getElem?_getD,List.getElem?_eq_none (by omega)];rfl
  rw [e]
  split
  ·split <;> simp [rP]
  ·split <;> rfl
theorem Good.qs (h:Good s):Qs s:=by
 have h':=h.toMInv;refine ⟨h.c8,fun k hk i hi=>?_,fun k hk=>?_⟩
 ·have:=Inv.q h'.v ((k:Int) + 1) (by omega) (by omega) i hi;obtain ⟨a1,a2,a3,a4,a5,_⟩:=this;exact ⟨a1,a2,a3,fun e=>(a4 e).2,fun e=>(a5 e).2⟩
 ·exact Inv.nd h'.v ((k:Int) + 1) (by omega) (by omega)
end Sx
namespace Sx
structure Bg (n:Nat) (x:Gr):Prop where
 op:x.ops.length≤n
 oc:∀ o∈x.ops,o.cases.length≤n
 od:x.order.length≤n
 lk:x.aF.length≤n
 sg:x.ax.length≤n
 wk:x.ak.length≤n
structure Bh (n:Nat) (c:Cn):Prop where
 cp:0≤c.cap
 bf:c.buf.length≤n
 rv:c.recv.length≤n
 sd:c.send.length≤n
structure Bd (n:Nat) (s:ah):Prop where
 g8:s.gs.length≤8
 c8:s.au.length≤8
 mw:s.aB.length≤64
 dn:s.done.length≤n
 dr:s.dG.length≤1000
 cl:s.cache.length=s.gs.length
 cb:∀ l∈s.cache,l.length≤n
 mb:s.middle.length≤n
 fr:0≤s.fresh
 gs:∀ x∈s.gs,Bg n x
 cs:∀ c∈s.au,Bh n c
section
variable {n m:Nat} {s:ah} {g:Nat}
theorem Bd.gr (h:Bd n s) (g:Nat):Bg n (aa s g):=by
 unfold Sx.aa;rw [List.getD_eq_getElem?_getD]
 cases e:s.gs[g]? with
 | none=>exact ⟨by simp [clean],by simp [clean],by simp [clean],by simp [clean],by simp [clean],by simp [clean]⟩
 | some x=>exact h.gs x (List.mem_of_getElem? e)
end
theorem wh {C:List (List Int)} {l:List Int} (h:l∈C):l.length≤C.flatten.length:=by
 induction C with
 | nil=>simp at h
 | cons a C ih =>
  rcases List.mem_cons.1 h with rfl | h
  ·simp
  ·have:=ih h;rw [List.flatten_cons,List.length_append];omega
end Sx
end Go.Proofs.YtdjhhbpedllnhaaGreat
