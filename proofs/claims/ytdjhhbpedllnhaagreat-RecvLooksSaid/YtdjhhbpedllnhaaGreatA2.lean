/-
  What the laws need, part A2.
  Conditions: none.
-/
import Derived.Test.YtdjhhbpedllnhaaGreatA1
import Derived.BigQuiet
import Derived.ChangeOld
import Derived.Deep.CutBlock
import Derived.Deep.DeepCutAuto
import Derived.Deep.DeepFit
import Derived.Deep.DeepMust
import Derived.Deep.Fields
import Derived.Deep.LoopGhost
import Derived.Deep.MidRow
import Derived.Deep.QuietTactic
import Derived.Deep.RegionHeld3
import Derived.Deep.RegionLaw
import Derived.Deep.Slices
import Derived.Laws.AppendOwnNone
import Derived.Laws.CopyOwn
import Derived.Lib.Hide
import Derived.Maps.OwnSet
import Derived.Maps.RangeWalk
import Derived.OpenShut
import Derived.ProofKit
import Derived.WalkKit
set_option linter.unusedVariables false
set_option linter.unusedSimpArgs false
set_option linter.unnecessarySimpa false
set_option maxHeartbeats 2000000
namespace Go.Proofs.YtdjhhbpedllnhaaGreat
open Go.RowKit
section
variable {w w':World} {v:Value} {es e:TypeId} {ll:List (List Int)} {T S:List Nat} {Us:List (List Nat)}
theorem NR.get {ao:Option Addr} {m cap:Nat} (h:NR w (.slice ao m cap) es e ll T Us) {k:Nat} {l:List Int} (hk:ll[k]?=some l) :
  ∃ g off x U,ao=some ⟨g,off,none⟩∧T=[g]∧g < w.heap.size∧w.cell? ⟨g,off + k,none⟩=some x∧w.frozen? ⟨g,off + k,none⟩=false∧IR w x e l U∧Us[k]?=some U∧g∉U:=by
 obtain ⟨vs,hr,hl,hi,hd,hp⟩:=h;have fK:=(List.getElem?_eq_some_iff.1 hk).1;have nZ:k < vs.length:=by rw [hr.len];omega
 have lU:k < Us.length:=by omega
 obtain ⟨g,off,rfl,rfl,hg,hc,hf⟩:=hr.cells (by omega);have hx:=List.getElem?_eq_getElem nZ;have hu:=List.getElem?_eq_getElem lU;exact ⟨g,off,_,_,rfl,rfl,hg,(hc k nZ).trans hx,hf k,hi k _ _ _ hx hu hk,hu,fun hm=>hd _ (List.mem_of_getElem? hu) g hm (by simp)⟩
end
open Go.RowKit
open Go.RowKit
namespace Fl
inductive A where
 | v (x:Value)
 | r (sz:Nat) (l:List (List A))
mutual
def RA (ok:Nat→Prop) (w:World):A→Value→Prop
 | .v y,x=>x=y∧y.oneCell'=true
 | .r sz l,x=>∃ ao cap,x=.slice ao l.length cap∧l.length≤cap∧cap≤maxLen∧(l=[]∨∃ g off,ao=some ⟨g,off,none⟩∧ok g∧g < w.heap.size∧RL ok w l g off sz)
def RL (ok:Nat→Prop) (w:World):List (List A)→Nat→Nat→Nat→Prop
 | [],_,_,_=>True
 | cs :: l,g,off,sz=>(∃ vs:List Value,vs.length=sz∧w.rangeAt g off vs∧RC ok w cs vs)∧RL ok w l g (off + sz) sz
def RC (ok:Nat→Prop) (w:World):List A→List Value→Prop
 | [],vs=>vs=[]
 | a :: cs,vs=>∃ x xs,vs=x :: xs∧RA ok w a x∧RC ok w cs xs
end
def Mon (ok gy:Nat→Prop) (w w':World):Prop:=w.heap.size≤w'.heap.size∧∀ g,g < w.heap.size→ok g→gy g∧w'.heap[g]?=w.heap[g]?
theorem Mon.refl (ok:Nat→Prop) (w:World):Mon ok ok w w:=⟨Nat.le_refl _,fun g _ h=>⟨h,rfl⟩⟩
theorem Mon.lV {ok gy:Nat→Prop} {S:List Nat} {w w':World} (k:aq S w w') (h:∀ g,g < w.heap.size→ok g→gy g∧g∉S):Mon ok gy w w' :=
 ⟨k.size,fun g hg ho=>⟨(h g hg ho).1,k.block g hg (h g hg ho).2⟩⟩
theorem rangeAt_of_block {w w':World} {g off:Nat} {vs:List Value} (h:w.rangeAt g off vs) (e:w'.heap[g]?=w.heap[g]?):w'.rangeAt g off vs:=fun j v hj=>by
 rw [World.cell?_of_block (w:=w) e];exact h j v hj
mutual
theorem RA.cY {ok gy:Nat→Prop} {w w':World} (m:Mon ok gy w w'):∀ (a:A) (x:Value),RA ok w a x→RA gy w' a x
 | .v y,x,h=>by unfold RA at h ⊢;exact h
 | .r sz l,x,h=>by
  unfold RA at h ⊢;obtain ⟨ao,cap,h1,h2,h3,h4⟩:=h;refine ⟨ao,cap,h1,h2,h3,?_⟩;rcases h4 with h4 | ⟨g,off,h4,h5,h6,h7⟩
  ·exact .inl h4
  ·exact .inr ⟨g,off,h4,(m.2 g h6 h5).1,Nat.lt_of_lt_of_le h6 m.1,RL.cY m l g off sz (m.2 g h6 h5).2 h7⟩
theorem RL.cY {ok gy:Nat→Prop} {w w':World} (m:Mon ok gy w w'):∀ (l:List (List A)) (g off sz:Nat),w'.heap[g]?=w.heap[g]?→RL ok w l g off sz→RL gy w' l g off sz
 | [],_,_,_,_,_=>by unfold RL;trivial
 | cs :: l,g,off,sz,e,h=>by
  unfold RL at h ⊢;obtain ⟨⟨vs,h1,h2,h3⟩,h4⟩:=h;exact ⟨⟨vs,h1,rangeAt_of_block h2 e,RC.cY m cs vs h3⟩,RL.cY m l g (off + sz) sz e h4⟩
theorem RC.cY {ok gy:Nat→Prop} {w w':World} (m:Mon ok gy w w'):∀ (cs:List A) (vs:List Value),RC ok w cs vs→RC gy w' cs vs
 | [],vs,h=>by unfold RC at h ⊢;exact h
 | a :: cs,vs,h=>by
  unfold RC at h ⊢;obtain ⟨x,xs,h1,h2,h3⟩:=h;exact ⟨x,xs,h1,RA.cY m a x h2,RC.cY m cs xs h3⟩
end
section
variable {ok:Nat→Prop} {w:World}
theorem RA.one {a:A} {x:Value} (h:RA ok w a x):x.oneCell'=true:=by
 cases a with
 | v y=>unfold RA at h;obtain ⟨rfl,h⟩:=h;exact h
 | r sz l=>unfold RA at h;obtain ⟨ao,cap,rfl,_⟩:=h;rfl
theorem RC.len:∀ {cs:List A} {vs:List Value},RC ok w cs vs→vs.length=cs.length
 | [],vs,h=>by unfold RC at h;simp [h]
 | a :: cs,vs,h=>by unfold RC at h;obtain ⟨x,xs,rfl,_,h⟩:=h;simp [RC.len h]
theorem RC.one:∀ {cs:List A} {vs:List Value},RC ok w cs vs→∀ v∈vs,v.oneCell'=true
 | [],vs,h=>by unfold RC at h;simp [h]
 | a :: cs,vs,h=>by
  unfold RC at h;obtain ⟨x,xs,rfl,h1,h⟩:=h;intro v hv;rcases List.mem_cons.1 hv with rfl | hv
  ·exact h1.one
  ·exact h.one v hv
theorem RC.nil:RC ok w [] []:=by unfold RC;rfl
theorem RC.cons {a:A} {x:Value} {cs:List A} {xs:List Value} (h:RA ok w a x) (k:RC ok w cs xs):RC ok w (a :: cs) (x :: xs):=by unfold RC;exact ⟨x,xs,rfl,h,k⟩
theorem RC.get:∀ {cs:List A} {vs:List Value} (k:Nat) {a:A},RC ok w cs vs→cs[k]?=some a→∃ x,vs[k]?=some x∧RA ok w a x
 | [],vs,k,a,h,e=>by simp at e
 | b :: cs,vs,0,a,h,e=>by
  unfold RC at h;obtain ⟨x,xs,rfl,h1,h⟩:=h;simp at e;subst e;exact ⟨x,rfl,h1⟩
 | b :: cs,vs,k + 1,a,h,e=>by
  unfold RC at h;obtain ⟨x,xs,rfl,h1,h⟩:=h;simp at e;simpa using RC.get k h e
theorem RC.set:∀ {cs:List A} {vs:List Value} (k:Nat) {a:A} {x:Value},RC ok w cs vs→RA ok w a x→RC ok w (cs.set k a) (vs.set k x)
 | [],vs,k,a,x,h,e=>by unfold RC at h;subst h;simp [RC.nil]
 | b :: cs,vs,0,a,x,h,e=>by
  unfold RC at h;obtain ⟨y,ys,rfl,h1,h⟩:=h;exact RC.cons e h
 | b :: cs,vs,k + 1,a,x,h,e=>by
  unfold RC at h;obtain ⟨y,ys,rfl,h1,h⟩:=h;exact RC.cons h1 (RC.set k h e)
theorem RC.app:∀ {cs ds:List A} {vs us:List Value},RC ok w cs vs→RC ok w ds us→RC ok w (cs ++ ds) (vs ++ us)
 | [],ds,vs,us,h,k=>by unfold RC at h;subst h;exact k
 | a :: cs,ds,vs,us,h,k=>by
  unfold RC at h;obtain ⟨x,xs,rfl,h1,h⟩:=h;exact RC.cons h1 (RC.app h k)
theorem RC.drop:∀ (n:Nat) {cs:List A} {vs:List Value},RC ok w cs vs→RC ok w (cs.drop n) (vs.drop n)
 | 0,cs,vs,h=>h
 | n + 1,[],vs,h=>by unfold RC at h;subst h;exact RC.nil
 | n + 1,a :: cs,vs,h=>by
  unfold RC at h;obtain ⟨x,xs,rfl,h1,h⟩:=h;exact RC.drop n h
theorem RC.take:∀ (n:Nat) {cs:List A} {vs:List Value},RC ok w cs vs→RC ok w (cs.take n) (vs.take n)
 | 0,cs,vs,h=>by simpa using RC.nil
 | n + 1,[],vs,h=>by unfold RC at h;subst h;exact RC.nil
 | n + 1,a :: cs,vs,h=>by
  unfold RC at h;obtain ⟨x,xs,rfl,h1,h⟩:=h;exact RC.cons h1 (RC.take n h)
theorem RL.get:∀ {l:List (List A)} {g off sz:Nat} (k:Nat) {cs:List A},RL ok w l g off sz→l[k]?=some cs→∃ vs:List Value,vs.length=sz∧w.rangeAt g (off + k * sz) vs∧RC ok w cs vs
 | [],g,off,sz,k,cs,h,e=>by simp at e
 | c :: l,g,off,sz,0,cs,h,e=>by
  unfold RL at h;simp at e;subst e;simpa using h.1
 | c :: l,g,off,sz,k + 1,cs,h,e=>by
  unfold RL at h;simp at e;have:=RL.get k h.2 e;rw [show off + (k + 1) * sz=off + sz + k * sz by rw [Nat.add_mul];omega];exact this
theorem RL.drop:∀ {l:List (List A)} {g off sz:Nat} (n:Nat),RL ok w l g off sz→RL ok w (l.drop n) g (off + n * sz) sz
 | l,g,off,sz,0,h=>by simpa using h
 | [],g,off,sz,n + 1,h=>by simp;unfold RL;trivial
 | c :: l,g,off,sz,n + 1,h=>by
  unfold RL at h;have:=RL.drop n h.2;rw [show off + (n + 1) * sz=off + sz + n * sz by rw [Nat.add_mul];omega];exact this
theorem RL.take:∀ {l:List (List A)} {g off sz:Nat} (n:Nat),RL ok w l g off sz→RL ok w (l.take n) g off sz
 | l,g,off,sz,0,h=>by simp;unfold RL;trivial
 | [],g,off,sz,n + 1,h=>by simp;unfold RL;trivial
 | c :: l,g,off,sz,n + 1,h=>by
  unfold RL at h;simp only [List.take_succ_cons];unfold RL;exact ⟨h.1,RL.take n h.2⟩
end
inductive D where
 | c (a:A)
 | agg (cs:List A)
 | aZ (l:List D)
 | el (cs:List A) (o:Nat)
 | ow (v:Value) (sz k o:Nat)
 | any
mutual
def RD (ok:Nat→Prop) (w:World):D→Value→Prop
 | .c a,x=>RA ok w a x
 | .agg cs,x=>∃ vs:List Value,x=.agg vs.toArray∧RC ok w cs vs
 | .aZ l,x=>∃ vs:List Value,x=.tuple vs.toArray∧ck ok w l vs
 | .el cs o,x=>∃ g off,∃ vs:List Value,x=.pointer (some ⟨g,off + o,none⟩)∧ok g∧g < w.heap.size∧w.rangeAt g off vs∧RC ok w cs vs
 | .ow v sz k o,x=>∃ g off n cap,v=.slice (some ⟨g,off,none⟩) n cap∧x=.pointer (some ⟨g,off + k * sz + o,none⟩)
 | .any,_=>True
def ck (ok:Nat→Prop) (w:World):List D→List Value→Prop
 | [],vs=>vs=[]
 | d :: l,vs=>∃ x xs,vs=x :: xs∧RD ok w d x∧ck ok w l xs
end
mutual
theorem RD.cY {ok gy:Nat→Prop} {w w':World} (m:Mon ok gy w w'):∀ (d:D) (x:Value),RD ok w d x→RD gy w' d x
 | .c a,x,h=>by unfold RD at h ⊢;exact RA.cY m a x h
 | .agg cs,x,h=>by unfold RD at h ⊢;obtain ⟨vs,h1,h2⟩:=h;exact ⟨vs,h1,RC.cY m cs vs h2⟩
 | .aZ l,x,h=>by unfold RD at h ⊢;obtain ⟨vs,h1,h2⟩:=h;exact ⟨vs,h1,ck.cY m l vs h2⟩
 | .el cs o,x,h=>by
  unfold RD at h ⊢;obtain ⟨g,off,vs,h1,h2,h3,h4,h5⟩:=h;exact ⟨g,off,vs,h1,(m.2 g h3 h2).1,Nat.lt_of_lt_of_le h3 m.1,rangeAt_of_block h4 (m.2 g h3 h2).2,RC.cY m cs vs h5⟩
 | .ow v sz k o,x,h=>by unfold RD at h ⊢;exact h
 | .any,x,h=>by unfold RD;trivial
theorem ck.cY {ok gy:Nat→Prop} {w w':World} (m:Mon ok gy w w'):∀ (l:List D) (vs:List Value),ck ok w l vs→ck gy w' l vs
 | [],vs,h=>by unfold ck at h ⊢;exact h
 | d :: l,vs,h=>by
  unfold ck at h ⊢;obtain ⟨x,xs,h1,h2,h3⟩:=h;exact ⟨x,xs,h1,RD.cY m d x h2,ck.cY m l xs h3⟩
end
theorem ck.nil {ok:Nat→Prop} {w:World}:ck ok w [] []:=by unfold ck;rfl
theorem ck.cons {ok:Nat→Prop} {w:World} {d:D} {x:Value} {l:List D} {xs:List Value} (h:RD ok w d x) (k:ck ok w l xs):ck ok w (d :: l) (x :: xs):=by unfold ck;exact ⟨x,xs,rfl,h,k⟩
theorem ck.len {ok:Nat→Prop} {w:World}:∀ {l:List D} {vs:List Value},ck ok w l vs→vs.length=l.length
 | [],vs,h=>by unfold ck at h;simp [h]
 | a :: cs,vs,h=>by unfold ck at h;obtain ⟨x,xs,rfl,_,h⟩:=h;simp [ck.len h]
theorem ck.get {ok:Nat→Prop} {w:World}:∀ {l:List D} {vs:List Value} (k:Nat) {d:D},ck ok w l vs→l[k]?=some d→∃ x,vs[k]?=some x∧RD ok w d x
 | [],vs,k,a,h,e=>by simp at e
 | b :: cs,vs,0,a,h,e=>by
  unfold ck at h;obtain ⟨x,xs,rfl,h1,h⟩:=h;simp at e;subst e;exact ⟨x,rfl,h1⟩
 | b :: cs,vs,k + 1,a,h,e=>by
  unfold ck at h;obtain ⟨x,xs,rfl,h1,h⟩:=h;simp at e;simpa using ck.get k h e
def dx:Value→List Nat
 | .slice (some a) _ _=>[a.block]
 | _=>[]
def RX (ok:Nat→Prop) (w:World) (sz:Nat):List (List A)→List Value→Prop
 | [],xs=>xs=[]
 | cs :: l,xs=>∃ vs ys,xs=vs ++ ys∧vs.length=sz∧RC ok w cs vs∧RX ok w sz l ys
inductive an where
 | box (b:Nat) (t:TypeId) (cs:List A)
 | row (v:Value) (e:TypeId) (sz:Nat) (l:List (List A))
 | obj (T:List Nat) (Φ:World→Prop)
def an.bT:an→List Nat
 | .box b _ _=>[b]
 | .row v _ _ _=>dx v
 | .obj T _=>T
def an.holds (ok:Nat→Prop) (w:World):an→Prop
 | .box b t cs=>∃ vs,cr w b vs t∧RC ok w cs vs
 | .row v e sz l=>∃ xs,Row w v e sz l.length xs (dx v)∧RX ok w sz l xs
 | .obj T Φ=>(∀ x∈T,x < w.heap.size)∧∀ w' S,aq S w w'→(∀ x∈T,x∉S)→Φ w'
theorem RX.cY {ok gy:Nat→Prop} {w w':World} (m:Mon ok gy w w') {sz:Nat}:∀ (l:List (List A)) (xs:List Value),RX ok w sz l xs→RX gy w' sz l xs
 | [],xs,h=>h
 | cs :: l,xs,h=>by
  obtain ⟨vs,ys,h1,h2,h3,h4⟩:=h;exact ⟨vs,ys,h1,h2,RC.cY m cs vs h3,RX.cY m l ys h4⟩
theorem RX.one {ok:Nat→Prop} {w:World} {sz:Nat}:∀ {l:List (List A)} {xs:List Value},RX ok w sz l xs→∀ v∈xs,v.oneCell'=true
 | [],xs,h=>by unfold RX at h;simp [h]
 | cs :: l,xs,h=>by
  obtain ⟨vs,ys,rfl,h2,h3,h4⟩:=h;intro v hv;rcases List.mem_append.1 hv with hv | hv
  ·exact h3.one v hv
  ·exact h4.one v hv
theorem RX.app {ok:Nat→Prop} {w:World} {sz:Nat}:∀ {l m:List (List A)} {xs ys:List Value},RX ok w sz l xs→RX ok w sz m ys→RX ok w sz (l ++ m) (xs ++ ys)
 | [],m,xs,ys,h,k=>by unfold RX at h;subst h;exact k
 | cs :: l,m,xs,ys,h,k=>by
  obtain ⟨vs,us,rfl,h2,h3,h4⟩:=h;exact ⟨vs,us ++ ys,by simp,h2,h3,RX.app h4 k⟩
theorem RX.len {ok:Nat→Prop} {w:World} {sz:Nat}:∀ {l:List (List A)} {xs:List Value},RX ok w sz l xs→xs.length=l.length * sz
 | [],xs,h=>by unfold RX at h;simp [h]
 | cs :: l,xs,h=>by
  obtain ⟨vs,us,rfl,h2,h3,h4⟩:=h;have:=RX.len h4;simp [this,h2,Nat.add_mul,Nat.add_comm]
theorem RX.get {ok:Nat→Prop} {w:World} {sz:Nat}:∀ {l:List (List A)} {xs:List Value} (k:Nat) {cs:List A},RX ok w sz l xs→l[k]?=some cs→∃ vs:List Value,vs.length=sz∧(∀ j,j < sz→xs[k * sz + j]?=vs[j]?)∧RC ok w cs vs
 | [],xs,k,cs,h,e=>by simp at e
 | c :: l,xs,0,cs,h,e=>by
  obtain ⟨vs,ys,rfl,h2,h3,h4⟩:=h;simp at e;subst e;exact ⟨vs,h2,fun j hj=>by rw [Nat.zero_mul,Nat.zero_add,List.getElem?_append_left (by omega)],h3⟩
 | c :: l,xs,k + 1,cs,h,e=>by
  obtain ⟨vs,ys,rfl,h2,h3,h4⟩:=h;simp at e;obtain ⟨us,g1,g2,g3⟩:=RX.get k h4 e;exact ⟨us,g1,fun j hj=>by
   rw [← g2 j hj,List.getElem?_append_right (by rw [h2,Nat.add_mul];omega),h2]
   congr 1;rw [Nat.add_mul];omega,g3⟩
theorem RX.set {ok:Nat→Prop} {w:World} {sz:Nat}:∀ {l:List (List A)} {xs:List Value} (k o:Nat) {cs:List A} {a:A} {x:Value},RX ok w sz l xs→l[k]?=some cs→o < sz→RA ok w a x→RX ok w sz (l.set k (cs.set o a)) (xs.set (k * sz + o) x)
 | [],xs,k,o,cs,a,x,h,e,ho,ha=>by simp at e
 | c :: l,xs,0,o,cs,a,x,h,e,ho,ha=>by
  obtain ⟨vs,ys,rfl,h2,h3,h4⟩:=h;simp at e;subst e;refine ⟨vs.set o x,ys,?_,by simpa using h2,RC.set o h3 ha,h4⟩;rw [Nat.zero_mul,Nat.zero_add,List.set_append_left _ _ (by omega)]
 | c :: l,xs,k + 1,o,cs,a,x,h,e,ho,ha=>by
  obtain ⟨vs,ys,rfl,h2,h3,h4⟩:=h;simp at e;refine ⟨vs,ys.set (k * sz + o) x,?_,h2,h3,RX.set k o h4 e ho ha⟩;rw [List.set_append_right _ _ (by rw [h2,Nat.add_mul];omega),h2]
  congr 2;rw [Nat.add_mul];omega
theorem an.holds.cY {ok gy:Nat→Prop} {w w':World} {S:List Nat} (k:aq S w w') (m:Mon ok gy w w'):∀ {r:an},r.holds ok w→(∀ x∈r.bT,x∉S)→r.holds gy w'
 | .box b t cs,h,hn=>by
  obtain ⟨vs,h1,h2⟩:=h;exact ⟨vs,h1.aY k (hn b (by simp [an.bT])),RC.cY m cs vs h2⟩
 | .row v e sz l,h,hn=>by
  obtain ⟨xs,h1,h2⟩:=h;exact ⟨xs,h1.aY k hn,RX.cY m l xs h2⟩
 | .obj T Φ,h,hn=>by
  exact ⟨fun x hx=>Nat.lt_of_lt_of_le (h.1 x hx) k.size,fun PO S' k' PR=>h.2 PO (S ++ S') ((k.mono (fun x hx=>.inl (List.mem_append_left S' hx))).trans k' (fun x hx=>.inl (List.mem_append_right S hx))) (fun x hx hm=>by
   rcases List.mem_append.1 hm with hm | hm
   ·exact hn x hx hm
   ·exact PR x hx hm)⟩
theorem an.holds.lt {ok:Nat→Prop} {w:World}:∀ {r:an},r.holds ok w→∀ x∈r.bT,x < w.heap.size
 | .box b t cs,h,x,hx=>by
  obtain ⟨vs,h1,h2⟩:=h;simp [an.bT] at hx;subst hx;exact h1.lt
 | .row v e sz l,h,x,hx=>by obtain ⟨xs,h1,h2⟩:=h;exact h1.lt x hx
 | .obj T Φ,h,x,hx=>h.1 x hx
def bq (L:List an):List Nat:=L.flatMap an.bT
theorem dz {L:List an} {x:Nat}:x∈bq L↔∃ r∈L,x∈r.bT:=by simp [bq]
end Fl
open Go.RowKit
namespace Fl
structure Cx where
 F:FuncId
 R:Ending→World→Prop
 yd:List Nat
 PT:Nat→Prop
 e:World
 N:Nat
abbrev Fm:=List (Nat × D)
def look:Fm→Nat→Option D
 | [],_=>none
 | (k,d) :: f,t=>cond (Nat.beq k t) (some d) (look f t)
def bF (c:Cx) (L:List an) (x:Nat):Prop:=(c.PT x∨x∈c.yd∨c.e.heap.size≤x)∧x∉bq L
def fq (L:List an):Prop:=L.Pairwise (fun r s=>∀ x∈r.bT,x∉s.bT)
structure St (c:Cx) (f:Fm) (L:List an) (a:Act) (w:World):Prop where
 kp:aq c.yd c.e w
 size:a.tmps.size=c.N
 j5:a.defers=[]
 res:∀ r∈L,r.holds (bF c L) w
 fL:∀ x∈bq L,x∈c.yd∨c.e.heap.size≤x
 ap:fq L
 fr:∀ t d,look f t=some d→RD (bF c L) w d (a.tmps.getD t undef)
theorem St.lt {c:Cx} {f:Fm} {L:List an} {a:Act} {w:World} (h:St c f L a w):∀ x∈bq L,x < w.heap.size:=fun x hx=>by
 obtain ⟨r,hr,hx⟩:=dz.1 hx;exact (h.res r hr).lt x hx
def kC (P:Program) (c:Cx) (k:List Item) (a:Act) (w:World):Prop :=
 ∀ (b:Frame) (cs:List Frame),b.fn=c.F→b.kind=.normal→∃ en w' fr,c.R en w'∧Comes P (lone (b.at a k) cs w) (lone fr cs w') en∧fr.fn=c.F∧fr.leaving P w' en
structure J (P:Program) (c:Cx) (k:List Item) (f:Fm) (L:List an):Prop where
 go:∀ a w,St c f L a w→kC P c k a w
theorem kC.step {P:Program} {c:Cx} {k k':List Item} {a a':Act} {w w':World} (h:kC P c k' a' w') (hs:∀ (b:Frame) (cs:List Frame),step P (lone (b.at a k) cs w)=.next (lone (b.at a' k') cs w')):kC P c k a w:=fun b cs hb hk=>by
 obtain ⟨en,w2,fr,h1,h2,h3⟩:=h b cs hb hk;exact ⟨en,w2,fr,h1,h2.of_steps (.one (hs b cs)),h3⟩
theorem kC.wp {P:Program} {c:Cx} {k:List Item} {x:Code} {a:Act} {w:World} (h:x.wp P (fun e a' w'=>e=.normal∧kC P c k a' w') a w):kC P c (.code x :: k) a w:=fun b cs hb hk=>by
 obtain ⟨e,a',w',⟨rfl,hr⟩,PU⟩:=h b k cs;obtain ⟨en,w2,fr,h1,h2,h3⟩:=hr b cs hb hk;exact ⟨en,w2,fr,h1,h2.of_steps PU,h3⟩
section
variable {P:Program} {c:Cx} {k:List Item} {f:Fm} {L:List an}
theorem J.seq {x y:Code} (h:J P c (.code x :: .code y :: k) f L):J P c (.code (.seq x y) :: k) f L:=⟨fun a w s=>(h.go a w s).step fun _ _=>step_seq⟩
theorem J.skip (h:J P c k f L):J P c (.code .skip :: k) f L:=⟨fun a w s=>(h.go a w s).step fun _ _=>step_skip⟩
theorem J.block {id:Nat} {x:Code} (h:J P c (.code x :: .inBlock id :: k) f L):J P c (.code (.block id x) :: k) f L:=⟨fun a w s=>(h.go a w s).step fun _ _=>step_block⟩
theorem J.inBlock {id:Nat} (h:J P c k f L):J P c (.inBlock id :: k) f L:=⟨fun a w s=>(h.go a w s).step fun _ _=>step_inBlock⟩
theorem J.exit {id:Nat} {k':List Item} (e:exitTo id k=some k') (h:J P c k' f L):J P c (.code (.exit id) :: k) f L:=⟨fun a w s=>(h.go a w s).step fun _ _=>step_exit e⟩
def bg (f:Fm):Operand→Option D
 | .tmp t=>look f t
 | .const v=>cond v.oneCell' (some (.c (.v v))) none
 | .global g=>some (.c (.v (.pointer (some ⟨g,0,none⟩))))
 | .func fn=>some (.c (.v (.func (.func fn) #[] #[])))
theorem St.ev {a:Act} {w:World} (s:St c f L a w) {x:Operand} {d:D} (h:bg f x=some d):RD (bF c L) w d (a.eval x):=by
 cases x with
 | tmp t=>exact s.fr t d h
 | const v =>
  simp only [bg] at h
  cases ho:v.oneCell' with
  | false=>rw [ho] at h;cases h
  | true=>rw [ho] at h;cases h;unfold RD RA;exact ⟨rfl,ho⟩
 | global g=>unfold bg at h;cases h;unfold RD RA;exact ⟨rfl,rfl⟩
 | func g=>unfold bg at h;cases h;unfold RD RA;exact ⟨rfl,rfl⟩
theorem St.val {a:Act} {w:World} (s:St c f L a w) {x:Operand} {v:Value} (h:bg f x=some (.c (.v v))):a.eval x=v:=by
 have:=s.ev h;unfold RD RA at this;exact this.1
theorem J.cond {x y:Code} {t:Operand} {b:Bool} (hc:bg f t=some (.c (.v (.bool b)))) (ht:b=true→J P c (.code x :: k) f L) (hf:b=false→J P c (.code y :: k) f L):J P c (.code (.cond t x y) :: k) f L:=⟨fun a w s=>by
 have hv:=s.val hc
 cases b with
 | true=>exact ((ht rfl).go a w s).step fun _ _=>step_cond hv
 | false=>exact ((hf rfl).go a w s).step fun _ _=>step_cond hv⟩
theorem J.iy {x y:Code} {t:Operand} (hc:bg f t=some (.c (.v (.bool true)))) (ht:J P c (.code x :: k) f L):J P c (.code (.cond t x y) :: k) f L:=J.cond hc (fun _=>ht) (fun h=>by cases h)
theorem J.gK {x y:Code} {t:Operand} (hc:bg f t=some (.c (.v (.bool false)))) (hf:J P c (.code y :: k) f L):J P c (.code (.cond t x y) :: k) f L:=J.cond hc (fun h=>by cases h) (fun _=>hf)
theorem J.loop {x:Code} {ι:Type} (fi:ι→Fm) (Li:ι→List an) (μ:ι→Nat) (i0:ι) (h0:∀ X,J P c X (fi i0) (Li i0)→J P c X f L)
  (round:∀ i,(∀ i',μ i' < μ i→J P c (.inLoop x :: k) (fi i') (Li i'))→J P c (.code x :: .inLoop x :: k) (fi i) (Li i)):J P c (.code (.loop x) :: k) f L:=by
 have key:∀ n i,μ i=n→J P c (.code x :: .inLoop x :: k) (fi i) (Li i):=by
  intro n
  induction n using Nat.strongRecOn with
  | _ n ih =>
   intro i hi;exact round i fun i' cJ=>⟨fun a w s=>((ih (μ i') (hi ▸ cJ) i' rfl).go a w s).step fun _ _=>step_inLoop⟩
 have h1:=h0 _ (key _ i0 rfl);exact ⟨fun a w s=>(h1.go a w s).step fun _ _=>step_loop⟩
theorem J.less {f':Fm} (hs:∀ t d,look f' t=some d→look f t=some d) (h:J P c k f' L):J P c k f L:=⟨fun a w s =>
 h.go a w ⟨s.kp,s.size,s.j5,s.res,s.fL,s.ap,fun t d ht=>s.fr t d (hs t d ht)⟩⟩
def wj (f:Fm):Fm→Prop
 | []=>True
 | (t,d) :: f'=>look f t=some d∧wj f f'
theorem wj.look {f:Fm}:∀ {f':Fm},wj f f'→∀ t d,look f' t=some d→look f t=some d
 | [],_,t,d,h=>by simp [Fl.look] at h
 | (s,e) :: f',ho,t,d,h=>by
  simp only [Fl.look] at h
  cases hb:Nat.beq s t with
  | true =>
   rw [hb] at h;have:s=t:=Nat.eq_of_beq_eq_true hb;subst this;simp at h;subst h;exact ho.1
  | false=>rw [hb] at h;exact wj.look ho.2 t d h
theorem J.only (f':Fm) (ho:wj f f') (h:J P c k f' L):J P c k f L:=J.less ho.look h
theorem sZ {α:Type}:∀ (L:List α) (i:Nat) {r:α},L[i]?=some r→(r :: L.eraseIdx i).Perm L
 | [],i,r,h=>by simp at h
 | x :: L,0,r,h=>by simp at h;subst h;simp
 | x :: L,i + 1,r,h=>by
  simp at h;simp only [List.eraseIdx_cons_succ];exact (List.Perm.swap x r _).trans ((sZ L i h).cons x)
theorem J.pull (i:Nat) {r:an} (hi:L[i]?=some r) (h:J P c k f (r :: L.eraseIdx i)):J P c k f L:=⟨fun a w s=>by
 have hp:(r :: L.eraseIdx i).Perm L:=sZ L i hi;have hm:∀ x,x∈bq (r :: L.eraseIdx i)↔x∈bq L:=fun x=>by
  rw [dz,dz];exact ⟨fun ⟨q,hq,hx⟩=>⟨q,hp.mem_iff.1 hq,hx⟩,fun ⟨q,hq,hx⟩=>⟨q,hp.mem_iff.2 hq,hx⟩⟩
 have ho:bF c (r :: L.eraseIdx i)=bF c L:=by
  funext x;unfold bF;rw [hm]
 refine h.go a w ⟨s.kp,s.size,s.j5,fun q hq=>by rw [ho];exact s.res q (hp.mem_iff.1 hq),fun x hx=>s.fL x ((hm x).1 hx),?_,fun t d ht=>by rw [ho];exact s.fr t d ht⟩;exact (hp.pairwise_iff (fun {x y} mF z hz rC=>mF z rC hz)).2 s.ap⟩
theorem J.drop (i:Nat) (h:J P c k f (L.eraseIdx i)):J P c k f L:=⟨fun a w s=>by
 have hm:∀ q,q∈L.eraseIdx i→q∈L:=fun q hq=>List.mem_of_mem_eraseIdx hq
 have hf:∀ x,x∈bq (L.eraseIdx i)→x∈bq L:=fun x hx=>by
  obtain ⟨q,hq,hx⟩:=dz.1 hx;exact dz.2 ⟨q,hm q hq,hx⟩
 have mo:Mon (bF c L) (bF c (L.eraseIdx i)) w w:=⟨Nat.le_refl _,fun g _ hg=>⟨⟨hg.1,fun hx=>hg.2 (hf g hx)⟩,rfl⟩⟩
 exact h.go a w ⟨s.kp,s.size,s.j5,fun q hq=>(s.res q (hm q hq)).cY (aq.refl [] w) mo (by simp),fun x hx=>s.fL x (hf x hx),s.ap.sublist (List.eraseIdx_sublist L i),fun t d ht=>RD.cY mo d _ (s.fr t d ht)⟩⟩
end
end Fl
open Go.RowKit
namespace Fl
def ye (P:Program) (T:TypeId) (k:Nat):Option Nat:=match P.underlying T with
 | some (.struct fs)=>match fs[k]? with
  | some f=>match P.info? f.type with
   | some i=>if i.size=0 then none else some f.offset
   | none=>none
  | none=>none
 | _=>none
def jK (P:Program) (T:TypeId):Option Nat:=(P.info? T).map (·.size)
def mG (P:Program) (T:TypeId):Option Bool:=match P.underlying T with
 | some (.struct _) | some (.array _ _)=>some true
 | some _=>some false
 | none=>none
def lW (P:Program) (T:TypeId):Option TypeId:=match P.underlying T with
 | some (.slice e)=>some e
 | _=>none
def qf (P:Program) (T:TypeId):Option (List Value):=(P.info? T).bind (fun i=>i.zero.map (·.cells.toList))
def wm (P:Program) (T:TypeId):Option IntKind:=match P.underlying T with
 | some (.int k)=>some k
 | _=>none
class bR (P:Program) (T:TypeId) (k:Nat) (off:outParam Nat):Prop where h:ye P T k=some off:=by kernel_rfl
class gS (P:Program) (T:TypeId):Prop where h:mG P T=some false:=by kernel_rfl
class j6 (P:Program) (T:TypeId) (n:outParam Nat):Prop where
 h:mG P T=some true:=by kernel_rfl
 s:jK P T=some n:=by kernel_rfl
class fM (P:Program) (T:TypeId) (e:outParam TypeId) (sz:outParam Nat):Prop where
 h:lW P T=some e:=by kernel_rfl
 s:jK P e=some sz:=by kernel_rfl
class fE (P:Program) (T:TypeId) (n:outParam Nat):Prop where h:jK P T=some n:=by kernel_rfl
class TyZ (P:Program) (T:TypeId) (zs:outParam (List Value)):Prop where h:qf P T=some zs:=by kernel_rfl
def wq (P:Program) (T:TypeId):Bool:=match P.underlying T with
 | some .bool=>true
 | _=>false
class Bb (P:Program) (T:TypeId):Prop where h:wq P T=true:=by kernel_rfl
class kD (P:Program) (T:TypeId) (k:outParam IntKind):Prop where h:wm P T=some k:=by kernel_rfl
section
variable {P:Program}
theorem ye.run {T k off:Nat} (h:ye P T k=some off) (w:World) (b o:Nat):(Instr.fieldAt T (.pointer (some ⟨b,o,none⟩)) k).run P w=.ok (.pointer (some ⟨b,o + off,none⟩)) w:=by
 unfold ye at h
 cases hu:P.underlying T with
 | none=>rw [hu] at h;cases h
 | some d =>
  rw [hu] at h
  cases d with
  | struct fs =>
   simp only at h
   cases hf:fs[k]? with
   | none=>rw [hf] at h;cases h
   | some f =>
    rw [hf] at h;simp only at h
    cases hi:P.info? f.type with
    | none=>rw [hi] at h;cases h
    | some i =>
     rw [hi] at h;simp only at h
     by_cases hz:i.size=0
     ·rw [if_pos hz] at h;cases h
     ·rw [if_neg hz] at h;cases h;simp [Instr.fieldAt,Sem.run_bind,run_underlying hu,hf,Instr.sureAddr,fieldPlace,sizeOf,typeInfo,hi,hz,Addr.add_mid]
  | _=>cases h
theorem mG.runT {T:Nat} (h:mG P T=some true) (w:World):(isAgg T).run P w=.ok true w:=by
 unfold mG at h
 cases hu:P.underlying T with
 | none=>rw [hu] at h;cases h
 | some d=>rw [hu] at h;unfold isAgg;rw [Sem.run_bind,run_underlying hu w];cases d <;> first | rfl | (cases h;done)
theorem mG.DO {T:Nat} (h:mG P T=some false) (w:World):(isAgg T).run P w=.ok false w:=by
 unfold mG at h
 cases hu:P.underlying T with
 | none=>rw [hu] at h;cases h
 | some d=>rw [hu] at h;unfold isAgg;rw [Sem.run_bind,run_underlying hu w];cases d <;> first | rfl | (cases h;done)
theorem jK.run {T n:Nat} (h:jK P T=some n) (w:World):(sizeOf T).run P w=.ok n w:=by
 unfold jK at h
 cases hu:P.info? T with
 | none=>rw [hu] at h;cases h
 | some i=>rw [hu] at h;simp at h;simp [sizeOf,typeInfo,Sem.run_bind,hu,h]
theorem lW.kE {T e:Nat} (h:lW P T=some e):P.underlying T=some (.slice e):=by
 unfold lW at h
 cases hu:P.underlying T with
 | none=>rw [hu] at h;cases h
 | some d=>rw [hu] at h;cases d <;> first | (cases h;rfl) | (cases h;done)
theorem wq.kE {T:Nat} (h:wq P T=true):P.underlying T=some .bool:=by
 unfold wq at h
 cases hu:P.underlying T with
 | none=>rw [hu] at h;cases h
 | some d=>rw [hu] at h;cases d <;> first | rfl | (cases h;done)
theorem IA {X:Nat} (hu:P.underlying X=some .bool) (w:World) (m n:Bool):(Op.equal X (.bool m) (.bool n)).run P w=.ok (m == n) w:=by
 unfold Op.equal;rw [show Op.maxDepth=9999 + 1 from rfl,Op.equalIn];simp [Sem.run_bind,run_underlying hu]
theorem wm.kE {T:Nat} {k:IntKind} (h:wm P T=some k):P.underlying T=some (.int k):=by
 unfold wm at h
 cases hu:P.underlying T with
 | none=>rw [hu] at h;cases h
 | some d=>rw [hu] at h;cases d <;> first | (cases h;rfl) | (cases h;done)
end
section
variable (P:Program) (c:Cx)
structure rD (L:List an) (U:List Nat) (w w':World):Prop where
 go:∃ T,aq T w w'∧(∀ x∈T,x∈bq L)∧∀ x∈T,∀ j∈U,∀ r,L[j]?=some r→x∉r.bT
theorem rD.now (L:List an) (U:List Nat) (w:World):rD L U w w:=⟨[],aq.refl _ _,by simp,by simp⟩
structure Qt (U:List Nat) (o:Oper) (f:Fm) (L:List an) (d:D):Prop where
 go:∀ a w,St c f L a w→∃ v,RD (bF c L) w d v∧∀ w',rD L U w w'→(execOp a.eval o).run P w'=.ok (.value v) w'
def ee (ops:Array Oper) (o:Oper) (f:Fm):Bool:=match o.guard with
 | none=>true
 | some (j,b)=>match (ops[j]?).bind (·.dst) with
  | none=>false
  | some t=>match look f t with
   | some (.c (.v (.bool b')))=>b == b'
   | _=>false
def uE (ops:Array Oper) (o:Oper) (f:Fm):Bool:=match o.guard with
 | none=>false
 | some (j,b)=>match (ops[j]?).bind (·.dst) with
  | none=>false
  | some t=>match look f t with
   | some (.c (.v (.bool b')))=>b != b'
   | some (.aZ _)=>true
   | _=>false
structure JO (ops:Array Oper) (l:List Oper) (k:List Item) (f:Fm) (L:List an):Prop where
 go:∀ a w,St c f L a w→wpList P ops (fun e a' w'=>e=.normal∧kC P c k a' w') l a w
end
section
variable {P:Program} {c:Cx} {k:List Item} {f:Fm} {L:List an} {ops:Array Oper} {l:List Oper} {o:Oper}
theorem ee.run (h:ee ops o f=true) {a:Act} {w:World} (s:St c f L a w):Region.wanted o (yielded ops a.tmps)=true:=by
 unfold ee at h;unfold Region.wanted
 cases hg:o.guard with
 | none=>rfl
 | some p =>
  obtain ⟨j,b⟩:=p;rw [hg] at h;simp only at h ⊢;unfold yielded
  cases hd:(ops[j]?).bind (·.dst) with
  | none=>rw [hd] at h;cases h
  | some t =>
   rw [hd] at h;simp only at h
   cases hl:look f t with
   | none=>rw [hl] at h;cases h
   | some d =>
    have hr:=s.fr t d hl;rw [hl] at h
    cases d with
    | c x=>cases x with
     | v y=>cases y with
      | bool b' =>
       unfold RD RA at hr;simp at h;subst h;obtain ⟨h1,_⟩:=hr;rw [Array.getD_eq_getD_getElem?] at h1
       cases ht:a.tmps[t]? with
       | none=>rw [ht] at h1;cases h1
       | some z=>rw [ht] at h1;simp at h1;subst h1;simp [ht]
      | _=>cases h
     | r _ _=>cases h
    | _=>cases h
theorem uE.run (h:uE ops o f=true) {a:Act} {w:World} (s:St c f L a w):Region.wanted o (yielded ops a.tmps)=false:=by
 unfold uE at h;unfold Region.wanted
 cases hg:o.guard with
 | none=>rw [hg] at h;cases h
 | some p =>
  obtain ⟨j,b⟩:=p;rw [hg] at h;simp only at h ⊢;unfold yielded
  cases hd:(ops[j]?).bind (·.dst) with
  | none=>rw [hd] at h;cases h
  | some t =>
   rw [hd] at h;simp only at h
   cases hl:look f t with
   | none=>rw [hl] at h;cases h
   | some d =>
    have hr:=s.fr t d hl;rw [hl] at h
    cases d with
    | c x=>cases x with
     | v y=>cases y with
      | bool b' =>
       unfold RD RA at hr;obtain ⟨h1,_⟩:=hr;rw [Array.getD_eq_getD_getElem?] at h1
       cases ht:a.tmps[t]? with
       | none=>rw [ht] at h1;cases h1
       | some z=>rw [ht] at h1;simp at h1;subst h1;simp [ht];intro e;subst e;simp at h
      | _=>cases h
     | r _ _=>cases h
    | aZ q =>
     unfold RD at hr;obtain ⟨vs,h1,_⟩:=hr;rw [Array.getD_eq_getD_getElem?] at h1
     cases ht:a.tmps[t]? with
     | none=>simp [ht]
     | some z=>rw [ht] at h1;simp at h1;subst h1;simp [ht]
    | _=>cases h
theorem qg (t:Nat) (d:D) (f:Fm):look ((t,d) :: f) t=some d:=by simp [look,Nat.beq_refl]
theorem uF {t u:Nat} (h:t≠u) (d:D) (f:Fm):look ((t,d) :: f) u=look f u:=by
 have:Nat.beq t u=false:=by
  cases hb:Nat.beq t u with
  | false=>rfl
  | true=>exact absurd (Nat.eq_of_beq_eq_true hb) h
 simp [look,this]
theorem St.put {L':List an} {a:Act} {w w':World} {t:Nat} {d:D} {v:Value} (s:St c f L a w) (ht:t < c.N) (hd:RD (bF c L') w' d v) (kp:aq c.yd c.e w') (res:∀ r∈L',r.holds (bF c L') w') (fL:∀ x∈bq L',x∈c.yd∨c.e.heap.size≤x) (ap:fq L') (m:Mon (bF c L) (bF c L') w w') :
  St c ((t,d) :: f) L' (a.put (some t) v) w':=by
 refine ⟨kp,by simp [Act.put,s.size],s.j5,res,fL,ap,fun u e hu=>?_⟩
 by_cases e1:t=u
 ·subst e1;rw [qg] at hu;cases hu;have:(a.put (some t) v).tmps.getD t undef=v:=by
   have:=s.size;simp [Act.put,Array.getD_eq_getD_getElem?,Array.getElem?_setIfInBounds,this,ht]
  rw [this];exact hd
 ·rw [uF e1] at hu;have:(a.put (some t) v).tmps.getD u undef=a.tmps.getD u undef:=by
   simp [Act.put,Array.getD_eq_getD_getElem?,Array.getElem?_setIfInBounds_ne e1]
  rw [this];exact RD.cY m e _ (s.fr u e hu)
theorem St.lX {a:Act} {w:World} {t:Nat} {d:D} {v:Value} (s:St c f L a w) (ht:t < c.N) (hd:RD (bF c L) w d v):St c ((t,d) :: f) L (a.put (some t) v) w :=
 s.put ht hd s.kp s.res s.fL s.ap (Mon.refl _ _)
theorem JO.nil (h:J P c k f L):JO P c ops [] k f L:=⟨fun a w s=>wpList_nil ⟨rfl,h.go a w s⟩⟩
theorem J.region {id:Nat} (h:JO P c l.toArray l k f L):J P c (.code (.region id l.toArray false) :: k) f L:=⟨fun a w s=>kC.wp (wp_region_lit (h.go a w s))⟩
theorem JO.q {t:Nat} {d:D} (hd:o.dst=some t) (hw:ee ops o f=true) (ht:t < c.N) {U:List Nat} (q:Qt P c U o f L d) (h:JO P c ops l k ((t,d) :: f) L):JO P c ops (o :: l) k f L:=⟨fun a w s=>by
 obtain ⟨v,h1,h2⟩:=q.go a w s;refine wpList_step fun K hK=>?_
 rw [ee.run hw s];simp only [↓reduceIte,Oper.wp,h2 w (rD.now _ _ _),Oper.upon];exact hK _ _ (h.go _ _ (by rw [hd];exact s.lX ht h1))⟩
theorem JO.no {t:Nat} (hd:o.dst=some t) (hw:uE ops o f=true) (ht:t < c.N) (h:JO P c ops l k ((t,.aZ []) :: f) L):JO P c ops (o :: l) k f L:=⟨fun a w s=>by
 refine wpList_step fun K hK=>?_
 rw [uE.run hw s];simp only [Bool.false_eq_true,↓reduceIte];exact hK _ _ (h.go _ _ (by rw [hd];exact s.lX ht (by unfold RD;exact ⟨[],rfl,rfl⟩)))⟩
end
class lY (L:List an) (b:Nat) (t:outParam TypeId) (cs:outParam (List A)) (i:outParam Nat):Prop where h:L[i]?=some (.box b t cs)
class gU (L:List an) (v:Value) (e:outParam TypeId) (sz:outParam Nat) (l:outParam (List (List A))) (i:outParam Nat):Prop where h:L[i]?=some (.row v e sz l)
instance lY.succ {q:an} {M:List an} {b:Nat} {t:TypeId} {cs:List A} {i:Nat} [h:lY M b t cs i]:lY (q :: M) b t cs (i + 1):=⟨by simpa using h.h⟩
instance lY.zero {M:List an} {b:Nat} {t:TypeId} {cs:List A}:lY (.box b t cs :: M) b t cs 0:=⟨rfl⟩
instance gU.succ {q:an} {M:List an} {v:Value} {e:TypeId} {sz:Nat} {l:List (List A)} {i:Nat} [h:gU M v e sz l i]:gU (q :: M) v e sz l (i + 1):=⟨by simpa using h.h⟩
instance gU.zero {M:List an} {v:Value} {e:TypeId} {sz:Nat} {l:List (List A)}:gU (.row v e sz l :: M) v e sz l 0:=⟨rfl⟩
class lZ (L:List an) (i:Nat) (r:an) (L':outParam (List an)):Prop where h:L.set i r=L'
instance lZ.succ {q r:an} {M M':List an} {i:Nat} [h:lZ M i r M']:lZ (q :: M) (i + 1) r (q :: M'):=⟨by rw [List.set_cons_succ,h.h]⟩
instance lZ.zero {q r:an} {M:List an}:lZ (q :: M) 0 r (r :: M):=⟨rfl⟩
class mI (L:List an) (i:Nat) (L':outParam (List an)):Prop where h:L.eraseIdx i=L'
instance mI.succ {q:an} {M M':List an} {i:Nat} [h:mI M i M']:mI (q :: M) (i + 1) (q :: M'):=⟨by rw [List.eraseIdx_cons_succ,h.h]⟩
instance mI.zero {q:an} {M:List an}:mI (q :: M) 0 M:=⟨rfl⟩
section
variable {P:Program} {c:Cx} {f:Fm} {L:List an} {t:Option Tmp} {T:TypeId} {ps:String} {af:Array Edge} {gd:Option (Nat × Bool)}
theorem Qt.move {x:Operand} {d:D} (h:bg f x=some d):Qt P c [] ⟨t,.move x,T,ps,af,gd⟩ f L d:=⟨fun a w s=>⟨_,s.ev h,fun w' k=>rfl⟩⟩
theorem Qt.assign {x:Operand} {d:D} (h:bg f x=some d):Qt P c [] ⟨t,.assign x,T,ps,af,gd⟩ f L d:=⟨fun a w s=>⟨_,s.ev h,fun w' k=>rfl⟩⟩
def shift (n:Nat):D→Option D
 | .c (.v (.pointer (some ⟨b,o,none⟩)))=>some (.c (.v (.pointer (some ⟨b,o + n,none⟩))))
 | .el cs o=>some (.el cs (o + n))
 | .ow v sz k o=>some (.ow v sz k (o + n))
 | _=>none
theorem shift.rep {n:Nat} {d d':D} (h:shift n d=some d') {ok:Nat→Prop} {w:World} {x:Value} (r:RD ok w d x):∃ b o,x=.pointer (some ⟨b,o,none⟩)∧RD ok w d' (.pointer (some ⟨b,o + n,none⟩)):=by
 unfold shift at h
 split at h
 ·cases h;unfold RD RA at r ⊢;obtain ⟨rfl,_⟩:=r;exact ⟨_,_,rfl,rfl,rfl⟩
 ·cases h;unfold RD at r ⊢;obtain ⟨g,off,vs,rfl,h⟩:=r;exact ⟨_,_,rfl,g,off,vs,by rw [Nat.add_assoc],h⟩
 ·cases h;unfold RD at r ⊢;obtain ⟨g,off,m,cap,rfl,rfl⟩:=r;exact ⟨_,_,rfl,g,off,m,cap,rfl,by rw [Nat.add_assoc]⟩
 ·cases h
theorem Qt.fieldAddr {x:Operand} {X k off:Nat} {d d':D} [i:bR P X k off] (h:bg f x=some d) (hs:shift off d=some d'):Qt P c [] ⟨t,.fieldAddr X x k,T,ps,af,gd⟩ f L d':=⟨fun a w s=>by
 obtain ⟨b,o,hx,hr⟩:=shift.rep hs (s.ev h);refine ⟨_,hr,fun w' k=>?_⟩;simp only [execOp,hx,Sem.run_bind,ye.run i.h,Result.andThen_ok,Sem.run_pure]⟩
def IB:D→Bool
 | .c (.v (.pointer (some _)))=>true
 | .el _ _=>true
 | .ow _ _ _ _=>true
 | _=>false
theorem Qt.nilCheck {x:Operand} {d:D} (h:bg f x=some d) (hp:IB d=true):Qt P c [] ⟨t,.nilCheck x,T,ps,af,gd⟩ f L d:=⟨fun a w s=>by
 have r:=s.ev h;have:∃ p,a.eval x=.pointer (some p):=by
  unfold IB at hp
  split at hp
  ·unfold RD RA at r;exact ⟨_,r.1⟩
  ·unfold RD at r;obtain ⟨g,off,vs,h1,_⟩:=r;exact ⟨_,h1⟩
  ·unfold RD at r;obtain ⟨g,off,vs,cap,_,h1⟩:=r;exact ⟨_,h1⟩
  ·cases hp
 obtain ⟨p,hp⟩:=this;refine ⟨_,r,fun w' k=>?_⟩;simp only [execOp,hp,Sem.run_pure]⟩
inductive Cells (L:List an):D→List A→Nat→List Nat→Prop
 | box (i:Nat) {b t cs o}:L[i]?=some (.box b t cs)→Cells L (.c (.v (.pointer (some ⟨b,o,none⟩)))) cs o [i]
 | el {cs o}:Cells L (.el cs o) cs o []
 | ow (i:Nat) {v e sz l k o cs}:L[i]?=some (.row v e sz l)→l[k]?=some cs→Cells L (.ow v sz k o) cs o [i]
theorem DP {w w':World} {g off:Nat} {vs:List Value} {T:List Nat} (h:w.rangeAt g off vs) (k:aq T w w') (hg:g∉T):w'.rangeAt g off vs:=fun j v hj=>k.cell (h j v hj) hg
theorem Cells.rep {d:D} {cs:List A} {o:Nat} {U:List Nat} (h:Cells L d cs o U) {a:Act} {w:World} (s:St c f L a w) {x:Value} (r:RD (bF c L) w d x):∃ b off,∃ vs:List Value,x=.pointer (some ⟨b,off + o,none⟩)∧(∀ w',rD L U w w'→w'.rangeAt b off vs)∧RC (bF c L) w cs vs:=by
 cases h with
 | @box i b t _ _ hi =>
  obtain ⟨vs,h1,h2⟩:=s.res _ (List.mem_of_getElem? hi);unfold RD RA at r;exact ⟨b,0,vs,by rw [r.1,Nat.zero_add],fun w' ⟨T,k1,k2,k3⟩=>DP h1.range k1 fun hm=>k3 b hm i (by simp) _ hi (by simp [an.bT]),h2⟩
 | el=>unfold RD at r;obtain ⟨g,off,vs,h1,h2,h3,h4,h5⟩:=r;exact ⟨g,off,vs,h1,fun w' ⟨T,k1,k2,k3⟩=>DP h4 k1 fun hm=>h2.2 (k2 g hm),h5⟩
 | @ow i v e sz l k _ _ hi hl =>
  obtain ⟨xs,h1,h2⟩:=s.res _ (List.mem_of_getElem? hi);unfold RD at r;obtain ⟨g,off,n,cap,rfl,hx⟩:=r;obtain ⟨vs,g1,g2,g3⟩:=h2.get k hl;have hk:k < l.length:=(List.getElem?_eq_some_iff.1 hl).1;obtain ⟨g',xV,h5,h6,h7,h8,h9⟩:=h1.cells (by omega);obtain ⟨rfl,rfl⟩:=by simpa using h5
  have PV:g∈dx (.slice (some ⟨g,off,none⟩) n cap):=by simp [dx]
  refine ⟨g,off + k * sz,vs,hx,fun w' ⟨T,k1,k2,k3⟩=>DP (fun j v hj=>?_) k1 fun hm=>k3 g hm i (by simp) _ hi PV,g3⟩;have PW:j < sz:=by rw [← g1];exact (List.getElem?_eq_some_iff.1 hj).1
  have hlen:=RX.len h2;have hb:k * sz + j < xs.length:=by
   rw [hlen]
   calc k * sz + j < k * sz + sz:=by omega
    _=(k + 1) * sz:=by rw [Nat.add_mul];omega
    _≤l.length * sz:=Nat.mul_le_mul_right _ hk
  rw [Nat.add_assoc,h8 _ hb,g2 j PW,hj]
theorem Qt.wu {x:Operand} {X o:Nat} {d:D} {cs:List A} {e:A} {U:List Nat} [i:gS P X] (h:bg f x=some d) (hc:Cells L d cs o U) (he:cs[o]?=some e):Qt P c U ⟨t,.load X x,T,ps,af,gd⟩ f L (.c e):=⟨fun a w s=>by
 obtain ⟨b,off,vs,hx,h1,h2⟩:=hc.rep s (s.ev h);obtain ⟨y,hy,hr⟩:=h2.get o he;refine ⟨y,by unfold RD;exact hr,fun w' k=>?_⟩;have rz:=h1 w' k o y hy;have hl:(load ⟨b,off + o,none⟩).run P w'=.ok y w':=by simp [load,Sem.run,rz]
 simp only [execOp,hx,Instr.loadAt,Instr.sureAddr,loadVar,Sem.run_bind,Sem.run_pure,Result.andThen_ok,mG.DO i.h,Bool.false_eq_true,↓reduceIte,hl]⟩
theorem PX {w:World} {b off:Nat} {vs:List Value} (h:w.rangeAt b off vs) (o n:Nat):w.rangeAt b (off + o) ((vs.drop o).take n):=fun j v hj=>by
 rw [List.getElem?_take] at hj
 split at hj
 ·rw [List.getElem?_drop] at hj;rw [Nat.add_assoc];exact h (o + j) v hj
 ·cases hj
theorem Qt.uH {x:Operand} {X o n:Nat} {d:D} {cs es:List A} {U:List Nat} [i:j6 P X n] (h:bg f x=some d) (hc:Cells L d cs o U) (he:(cs.drop o).take n=es) (hn:es.length=n):Qt P c U ⟨t,.load X x,T,ps,af,gd⟩ f L (.agg es):=⟨fun a w s=>by
 obtain ⟨b,off,vs,hx,h1,h2⟩:=hc.rep s (s.ev h);have h4:=(h2.drop o).take n;rw [he] at h4;refine ⟨.agg ((vs.drop o).take n).toArray,by unfold RD;exact ⟨_,rfl,h4⟩,fun w' k=>?_⟩;have hr:=PX (h1 w' k) o n;have jZ:=i.s;have hl:((vs.drop o).take n).length=n:=by rw [h4.len,hn]
 have yf:(loadCells ⟨b,off + o,none⟩ ((vs.drop o).take n).length).run P w'=.ok ((vs.drop o).take n).toArray w' :=
  run_loadCells_list (P:=P) w' ⟨b,off + o,none⟩ _ (fun j v hv=>by rw [Addr.add_mid];exact hr j v hv)
 rw [hl] at yf;simp only [execOp,hx,Instr.loadAt,Instr.sureAddr,loadVar,Sem.run_bind,Sem.run_pure,Result.andThen_ok,mG.runT i.h,↓reduceIte,jK.run i.s,yf]⟩
theorem Qt.wv {x:Operand} {X n:Nat} {d:D} {cs:List A} {U:List Nat} [i:j6 P X n] (h:bg f x=some d) (hc:Cells L d cs 0 U) (hn:cs.length=n):Qt P c U ⟨t,.load X x,T,ps,af,gd⟩ f L (.agg cs) :=
 Qt.uH h hc (by subst hn;simp) hn
theorem Qt.lf {x:Operand} {X b o B j:Nat} {cs:List A} {e:A} [i:gS P X] [bx:lY L b B cs j] (h:bg f x=some (.c (.v (.pointer (some ⟨b,o,none⟩))))) (he:cs[o]?=some e):Qt P c [j] ⟨t,.load X x,T,ps,af,gd⟩ f L (.c e):=Qt.wu h (.box j bx.h) he
theorem Qt.Be {x:Operand} {X b B j n:Nat} {cs:List A} [i:j6 P X n] [bx:lY L b B cs j] (h:bg f x=some (.c (.v (.pointer (some ⟨b,0,none⟩))))) (hn:cs.length=n):Qt P c [j] ⟨t,.load X x,T,ps,af,gd⟩ f L (.agg cs):=Qt.wv h (.box j bx.h) hn
theorem Qt.Bf {x:Operand} {X b o B j n:Nat} {cs es:List A} [i:j6 P X n] [bx:lY L b B cs j] (h:bg f x=some (.c (.v (.pointer (some ⟨b,o,none⟩))))) (he:(cs.drop o).take n=es) (hn:es.length=n):Qt P c [j] ⟨t,.load X x,T,ps,af,gd⟩ f L (.agg es):=Qt.uH h (.box j bx.h) he hn
theorem Qt.bM {x:Operand} {X sz q o e j:Nat} {v:Value} {l:List (List A)} {cs:List A} {u:A} [i:gS P X] [bx:gU L v e sz l j] (h:bg f x=some (.ow v sz q o)) (hq:l[q]?=some cs) (he:cs[o]?=some u):Qt P c [j] ⟨t,.load X x,T,ps,af,gd⟩ f L (.c u):=Qt.wu h (.ow j bx.h hq) he
theorem Qt.IC {x:Operand} {X sz q e j n:Nat} {v:Value} {l:List (List A)} {cs:List A} [i:j6 P X n] [bx:gU L v e sz l j] (h:bg f x=some (.ow v sz q 0)) (hq:l[q]?=some cs) (hn:cs.length=n):Qt P c [j] ⟨t,.load X x,T,ps,af,gd⟩ f L (.agg cs):=Qt.wv h (.ow j bx.h hq) hn
theorem Qt.dc {x y:Operand} {X e sz:Nat} {kd:IntKind} {n:Int} {l:List (List A)} {cs:List A} [i:fM P X e sz] (h:bg f x=some (.c (.r sz l))) (hy:bg f y=some (.c (.v (.int kd n)))) (hn:0≤n) (hk:l[n.toNat]?=some cs):Qt P c [] ⟨t,.indexAddr X x y,T,ps,af,gd⟩ f L (.el cs 0):=⟨fun a w s=>by
 have r:=s.ev h;have ry:=s.val hy;unfold RD RA at r;obtain ⟨ao,cap,hx,h1,h2,h3⟩:=r;have cJ:=(List.getElem?_eq_some_iff.1 hk).1;rcases h3 with rfl | ⟨g,off,rfl,j7,hg,hl⟩
 ·simp at cJ
 obtain ⟨vs,g1,g2,g3⟩:=hl.get _ hk;refine ⟨.pointer (some ⟨g,off + n.toNat * sz,none⟩),by unfold RD;exact ⟨g,_,vs,by rw [Nat.add_zero],j7,hg,g2,g3⟩,fun w' k=>?_⟩;have hb:0≤n∧n < (l.length:Int):=by omega
 simp only [execOp,hx,ry,Instr.indexAt,asIntOf,Sem.run_bind,Sem.run_pure,Result.andThen_ok,run_underlying (lW.kE i.h),hb,and_self,↓reduceIte,jK.run i.s,Addr.add_mid]⟩
theorem Qt.aV {x y:Operand} {X e sz j:Nat} {kd:IntKind} {n:Int} {v:Value} {l:List (List A)} [i:fM P X e sz] [bx:gU L v e sz l j] (h:bg f x=some (.c (.v v))) (hy:bg f y=some (.c (.v (.int kd n)))) (hn:0≤n) (hk:n < l.length):Qt P c [] ⟨t,.indexAddr X x y,T,ps,af,gd⟩ f L (.ow v sz n.toNat 0):=⟨fun a w s=>by
 have rx:=s.val h;have ry:=s.val hy;obtain ⟨xs,h1,h2⟩:=s.res _ (List.mem_of_getElem? bx.h);obtain ⟨ao,cap,rfl⟩:=h1.shape;obtain ⟨g,off,rfl,_⟩:=h1.cells (by omega);refine ⟨.pointer (some ⟨g,off + n.toNat * sz,none⟩),by unfold RD;exact ⟨g,off,_,cap,rfl,by rw [Nat.add_zero]⟩,fun w' k=>?_⟩;simp only [execOp,rx,ry,Instr.indexAt,asIntOf,Sem.run_bind,Sem.run_pure,Result.andThen_ok,run_underlying (lW.kE i.h),hn,hk,and_self,↓reduceIte,jK.run i.s,Addr.add_mid]⟩
def yg:BinOp→Int→Int→Option Bool
 | .eql,a,b=>some (a == b)
 | .neq,a,b=>some (a != b)
 | .lss,a,b=>some (decide (a < b))
 | .leq,a,b=>some (decide (a≤b))
 | .gtr,a,b=>some (decide (a > b))
 | .geq,a,b=>some (decide (a ≥ b))
 | _,_,_=>none
theorem Qt.cmp {op:BinOp} {x y:Operand} {X Y:Nat} {kd:IntKind} {m n:Int} {b:Bool} (h:bg f x=some (.c (.v (.int kd m)))) (hy:bg f y=some (.c (.v (.int kd n)))) (hb:yg op m n=some b):Qt P c [] ⟨t,.binOp op X x y Y,T,ps,af,gd⟩ f L (.c (.v (.bool b))):=⟨fun a w s=>by
 have rx:=s.val h;have ry:=s.val hy;refine ⟨.bool b,by unfold RD RA;exact ⟨rfl,rfl⟩,fun w' k=>?_⟩
 cases op <;> simp only [yg,Option.some.injEq,reduceCtorEq] at hb <;> subst hb <;> simp [execOp,rx,ry,eqGuard_at_int,binOp,Op.intCmp,Sem.run_bind]⟩
theorem Qt.Bi {x y:Operand} {X Y:Nat} {m n:Bool} [i:Bb P X] (h:bg f x=some (.c (.v (.bool m)))) (hy:bg f y=some (.c (.v (.bool n)))):Qt P c [] ⟨t,.binOp .eql X x y Y,T,ps,af,gd⟩ f L (.c (.v (.bool (m == n)))):=⟨fun a w s=>by
 have rx:=s.val h;have ry:=s.val hy;refine ⟨.bool (m == n),by unfold RD RA;exact ⟨rfl,rfl⟩,fun w' k=>?_⟩;have hu:=IA (wq.kE i.h) w' m n;simp [execOp,rx,ry,eqGuard_at_bool,binOp,Sem.run_bind,hu,bne]⟩
theorem Qt.yh {x y:Operand} {X Y:Nat} {m n:Bool} [i:Bb P X] (h:bg f x=some (.c (.v (.bool m)))) (hy:bg f y=some (.c (.v (.bool n)))):Qt P c [] ⟨t,.binOp .neq X x y Y,T,ps,af,gd⟩ f L (.c (.v (.bool (m != n)))):=⟨fun a w s=>by
 have rx:=s.val h;have ry:=s.val hy;refine ⟨.bool (m != n),by unfold RD RA;exact ⟨rfl,rfl⟩,fun w' k=>?_⟩;have hu:=IA (wq.kE i.h) w' m n;simp [execOp,rx,ry,eqGuard_at_bool,binOp,Sem.run_bind,hu,bne]⟩
def ID:BinOp→Int→Int→Option Int
 | .add,a,b=>some (a + b)
 | .sub,a,b=>some (a - b)
 | .mul,a,b=>some (a * b)
 | _,_,_=>none
theorem Qt.cI {op:BinOp} {x y:Operand} {X Y:Nat} {kd:IntKind} {m n r r':Int} (h:bg f x=some (.c (.v (.int kd m)))) (hy:bg f y=some (.c (.v (.int kd n)))) (hr:ID op m n=some r) (hf:kd.wrap r=r'):Qt P c [] ⟨t,.binOp op X x y Y,T,ps,af,gd⟩ f L (.c (.v (.int kd r'))):=⟨fun a w s=>by
 have rx:=s.val h;have ry:=s.val hy;subst hf;refine ⟨.int kd (kd.wrap r),by unfold RD RA;exact ⟨rfl,rfl⟩,fun w' k=>?_⟩
 cases op <;> simp only [ID,Option.some.injEq,reduceCtorEq] at hr <;> subst hr <;> simp [execOp,rx,ry,eqGuard_at_int,binOp,Op.intArith,Sem.run_bind]⟩
theorem Qt.rem {x y:Operand} {X Y:Nat} {kd:IntKind} {m n r:Int} (h:bg f x=some (.c (.v (.int kd m)))) (hy:bg f y=some (.c (.v (.int kd n)))) (hn:n≠0) (hr:m.tmod n=r):Qt P c [] ⟨t,.binOp .rem X x y Y,T,ps,af,gd⟩ f L (.c (.v (.int kd r))):=⟨fun a w s=>by
 have rx:=s.val h;have ry:=s.val hy;subst hr;refine ⟨.int kd (m.tmod n),by unfold RD RA;exact ⟨rfl,rfl⟩,fun w' k=>?_⟩;simp [execOp,rx,ry,eqGuard_at_int,binOp,Op.intDiv,Sem.run_bind,hn]⟩
theorem Qt.quo {x y:Operand} {X Y:Nat} {kd:IntKind} {m n r:Int} (h:bg f x=some (.c (.v (.int kd m)))) (hy:bg f y=some (.c (.v (.int kd n)))) (hn:n≠0) (hr:kd.wrap (m.tdiv n)=r):Qt P c [] ⟨t,.binOp .quo X x y Y,T,ps,af,gd⟩ f L (.c (.v (.int kd r))):=⟨fun a w s=>by
 have rx:=s.val h;have ry:=s.val hy;subst hr;refine ⟨.int kd (kd.wrap (m.tdiv n)),by unfold RD RA;exact ⟨rfl,rfl⟩,fun w' k=>?_⟩;simp [execOp,rx,ry,eqGuard_at_int,binOp,Op.intDiv,Sem.run_bind,hn]⟩
theorem Qt.not {x:Operand} {X:Nat} {b:Bool} (h:bg f x=some (.c (.v (.bool b)))):Qt P c [] ⟨t,.unOp .not X x,T,ps,af,gd⟩ f L (.c (.v (.bool (!b)))):=⟨fun a w s=>by
 have rx:=s.val h;refine ⟨.bool (!b),by unfold RD RA;exact ⟨rfl,rfl⟩,fun w' k=>?_⟩;simp [execOp,rx,Op.unary,Sem.run_bind]⟩
theorem Qt.extract {x:Operand} {n:Nat} {l:List D} {d:D} (h:bg f x=some (.aZ l)) (hn:l[n]?=some d):Qt P c [] ⟨t,.extract x n,T,ps,af,gd⟩ f L d:=⟨fun a w s=>by
 have r:=s.ev h;unfold RD at r;obtain ⟨vs,hx,hr⟩:=r;obtain ⟨y,hy,h2⟩:=hr.get n hn;refine ⟨y,h2,fun w' k=>?_⟩;simp [execOp,hx,Instr.extract,Sem.run_bind,hy]⟩
theorem Qt.wz {x:Operand} {X sz:Nat} {l:List (List A)} {e rE:Nat} [i:fM P X e rE] (h:bg f x=some (.c (.r sz l))):Qt P c [] ⟨t,.call ⟨.builtin .len,#[x],#[X]⟩,T,ps,af,gd⟩ f L (.c (.v (.int .i64 l.length))):=⟨fun a w s=>by
 have r:=s.ev h;unfold RD RA at r;obtain ⟨ao,cap,hx,_⟩:=r;refine ⟨.int .i64 l.length,by unfold RD RA;exact ⟨rfl,rfl⟩,fun w' k=>?_⟩;simp [execOp,resolve,invoke,builtin,hx,Sem.run_bind,Builtin.len_,run_underlying (lW.kE i.h),goInt]⟩
theorem Qt.wA {x:Operand} {X sz:Nat} {α:Type} {g:α→List A} {l:List α} {e rE:Nat} [i:fM P X e rE] (h:bg f x=some (.c (.r sz (l.map g)))):Qt P c [] ⟨t,.call ⟨.builtin .len,#[x],#[X]⟩,T,ps,af,gd⟩ f L (.c (.v (.int .i64 l.length))):=by
 have:=Qt.wz (P:=P) (c:=c) (t:=t) (T:=T) (ps:=ps) (af:=af) (gd:=gd) (L:=L) (X:=X) h;rw [List.length_map] at this;exact this
theorem Qt.yj {x:Operand} {X sz j:Nat} {v:Value} {l:List (List A)} {e e' rE:Nat} [i:fM P X e' rE] [bx:gU L v e sz l j] (h:bg f x=some (.c (.v v))):Qt P c [] ⟨t,.call ⟨.builtin .len,#[x],#[X]⟩,T,ps,af,gd⟩ f L (.c (.v (.int .i64 l.length))):=⟨fun a w s=>by
 have rx:=s.val h;obtain ⟨xs,h1,h2⟩:=s.res _ (List.mem_of_getElem? bx.h);obtain ⟨ao,cap,rfl⟩:=h1.shape;refine ⟨.int .i64 l.length,by unfold RD RA;exact ⟨rfl,rfl⟩,fun w' k=>?_⟩;simp [execOp,resolve,invoke,builtin,rx,Sem.run_bind,Builtin.len_,run_underlying (lW.kE i.h),goInt]⟩
theorem Qt.Bj {x:Operand} {X:Nat} {ao:Option Addr} {n m:Nat} {e' rE:Nat} [i:fM P X e' rE] (h:bg f x=some (.c (.v (.slice ao n m)))):Qt P c [] ⟨t,.call ⟨.builtin .len,#[x],#[X]⟩,T,ps,af,gd⟩ f L (.c (.v (.int .i64 n))):=⟨fun a w s=>by
 have rx:=s.val h;refine ⟨.int .i64 n,by unfold RD RA;exact ⟨rfl,rfl⟩,fun w' k=>?_⟩;simp [execOp,resolve,invoke,builtin,rx,Sem.run_bind,Builtin.len_,run_underlying (lW.kE i.h),goInt]⟩
theorem Qt.pick {x y z:Operand} {b:Bool} {d:D} (h:bg f x=some (.c (.v (.bool b)))) (hd:bg f (cond b y z)=some d):Qt P c [] ⟨t,.pick x y z,T,ps,af,gd⟩ f L d:=⟨fun a w s=>by
 have rx:=s.val h;refine ⟨_,s.ev hd,fun w' k=>?_⟩
 cases b <;> simp [execOp,rx,asBool,Sem.run_bind]⟩
theorem Qt.conv {x:Operand} {X Y:Nat} {kd yl:IntKind} {m r:Int} [i:kD P X kd] [j:kD P Y yl] (h:bg f x=some (.c (.v (.int kd m)))) (hr:yl.wrap m=r):Qt P c [] ⟨t,.convert X Y x,T,ps,af,gd⟩ f L (.c (.v (.int yl r))):=⟨fun a w s=>by
 have rx:=s.val h;subst hr;refine ⟨.int yl (yl.wrap m),by unfold RD RA;exact ⟨rfl,rfl⟩,fun w' k=>?_⟩;simp [execOp,rx,convert,Sem.run_bind,run_underlying (wm.kE i.h),run_underlying (wm.kE j.h),Conv.intToInt]⟩
end
end Fl
open Go.RowKit
section
variable {P:Program} {fn:Func} {tmps:Array Value} {w:World}
end
section
variable {α:Type} {E:World→List Value→α→List Nat→Prop} {sz:Nat} {w:World} {v:Value} {e:TypeId} {l:List α} {T S S2:List Nat}
theorem IV.none (w:World) (ao:Option Addr):IV w (.slice ao 0 0) [] []:=⟨by simp,ao,0,rfl,Nat.le_refl _,by simp [maxLen],.inl ⟨rfl,rfl⟩⟩
end
end Go.Proofs.YtdjhhbpedllnhaaGreat
