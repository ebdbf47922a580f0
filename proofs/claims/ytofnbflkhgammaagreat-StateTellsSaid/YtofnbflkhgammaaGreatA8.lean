/-
  What the laws need, part A8.
  Conditions: none.
-/
import Derived.Test.YtofnbflkhgammaaGreatA7
import Derived.Deep.DrawnRows
set_option linter.unusedVariables false
set_option linter.unusedSimpArgs false
set_option linter.unnecessarySimpa false
set_option maxHeartbeats 2000000
namespace Go.Proofs.YtofnbflkhgammaaGreat
namespace Qu
def eJ:List Int→Int→Int
 | [],_=>-1
 | a :: l,x=>if a=x then l.headD (-1) else eJ l x
def js:Int→List Int→Int→Int
 | _,[],_=>-1
 | p,a :: l,x=>if a=x then p else js a l x
def fP (l:List Int) (x:Int):Int:=js (-1) l x
def loc:List (List Int)→Int→Option Nat
 | [],_=>none
 | l :: r,x=>if x∈l then some 0 else (loc r x).map (· + 1)
def tc (R:List (List Int)) (x:Int):Int × Int × Int :=
 match loc R x with
 | some k=>(k,eJ (R.getD k []) x,fP (R.getD k []) x)
 | none=>(-1,-1,-1)
def th (n:Nat) (R:List (List Int)):List (Int × Int × Int):=(List.range n).map fun (x:Nat)=>tc R (x:Int)
def lc (l:List Int):Int × Int × Int:=(l.headD (-1),l.getLastD (-1),(l.length:Int))
def ln (R:List (List Int)):List (Int × Int × Int):=R.map lc
structure Inv (n:Nat) (R:List (List Int)):Prop where
 tW:n≤64
 tX:R.length≤64
 one:∀ a,R.flatten.count a≤1
 bound:∀ a,a∈R.flatten→0≤a∧a < n
theorem xG {a b:List Int} {y:Int} (h:y∈a) (hd:a.count y≤1):eJ (a ++ b) y=if a.getLastD (-1)=y then b.headD (-1) else eJ a y:=by
 induction a with
 | nil=>simp at h
 | cons z r ih =>
  by_cases e:z=y
  ·subst e;rw [List.count_cons_self] at hd;have hr:z∉r:=fun hm=>by have:=List.count_pos_iff.2 hm;omega
   cases r with
   | nil=>simp [eJ]
   | cons u s =>
    have hl:(z :: u :: s).getLastD (-1)≠z:=by
     rw [List.getLastD_eq_getLast?,List.getLast?_cons_cons];intro hc;apply hr;rw [← hc,List.getLast?_eq_some_getLast (by simp)];exact List.getLast_mem _
    rw [if_neg hl];simp [eJ]
  ·have hm:y∈r:=by
    rcases List.mem_cons.1 h with h | h
    ·exact absurd h.symm e
    ·exact h
   rw [List.count_cons_of_ne (by simpa using e)] at hd;have:=ih hm hd
   cases r with
   | nil=>simp at hm
   | cons u s =>
    rw [List.cons_append,eJ,if_neg e,this];rw [show (z :: u :: s).getLastD (-1)=(u :: s).getLastD (-1) by simp [List.getLastD_eq_getLast?]];rw [show eJ (z :: u :: s) y=eJ (u :: s) y by rw [eJ,if_neg e]]
theorem vn {a b:List Int} {y:Int} (h:y∉a):eJ (a ++ b) y=eJ b y:=by
 induction a with
 | nil=>rfl
 | cons z r ih =>
  simp only [List.mem_cons,not_or] at h;rw [List.cons_append,eJ,if_neg (fun e=>h.1 e.symm),ih h.2]
theorem PO {a b:List Int} {y:Int} (h:y∈a):∀ p,js p (a ++ b) y=js p a y:=by
 induction a with
 | nil=>simp at h
 | cons z r ih =>
  intro p;rw [List.cons_append,js,js]
  by_cases e:z=y
  ·rw [if_pos e,if_pos e]
  ·rw [if_neg e,if_neg e];rcases List.mem_cons.1 h with h | h
   ·exact absurd h.symm e
   ·exact ih h z
theorem vq {a b:List Int} {y:Int} (h:y∈a):fP (a ++ b) y=fP a y:=PO h (-1)
theorem xH {a b:List Int} {y:Int} (h:y∉a):∀ p,js p (a ++ b) y=js (a.getLastD p) b y:=by
 induction a with
 | nil=>intro p;rfl
 | cons z r ih =>
  intro p;simp only [List.mem_cons,not_or] at h;rw [List.cons_append,js,if_neg (fun e=>h.1 e.symm),ih h.2,List.getLastD_cons]
theorem H8 {b:List Int} {y p q:Int} (h:y∈b):js p b y=if b.headD (-1)=y then p else js q b y:=by
 cases b with
 | nil=>simp at h
 | cons z r =>
  show js p (z :: r) y=if z=y then p else js q (z :: r) y
  rw [js,js]
  by_cases e:z=y
  ·rw [if_pos e,if_pos e]
  ·rw [if_neg e,if_neg e,if_neg e]
theorem xI {R:List (List Int)} {x:Int} {k:Nat} (h:loc R x=some k):k < R.length∧x∈R.getD k []:=by
 induction R generalizing k with
 | nil=>simp [loc] at h
 | cons l r ih =>
  rw [loc] at h
  split at h
  ·rename_i hm;obtain rfl:=Option.some.inj h;exact ⟨by simp,by simpa using hm⟩
  ·obtain ⟨j,hj,rfl⟩:=Option.map_eq_some_iff.1 h;have:=ih hj;exact ⟨by simp;omega,by simpa using this.2⟩
theorem qR {R:List (List Int)} {x:Int}:loc R x=none↔x∉R.flatten:=by
 induction R with
 | nil=>simp [loc]
 | cons l r ih =>
  rw [loc]
  by_cases h:x∈l
  ·rw [if_pos h];simp [h]
  ·rw [if_neg h];simp only [Option.map_eq_none_iff,List.flatten_cons,List.mem_append,h,false_or];exact ih
theorem Al {R:List (List Int)} {x:Int} (h1:R.flatten.count x≤1) {k:Nat} (hk:k < R.length) (hx:x∈R.getD k []):loc R x=some k:=by
 induction R generalizing k with
 | nil=>simp at hk
 | cons l r ih =>
  rw [loc];rw [List.flatten_cons,List.count_append] at h1
  cases k with
  | zero=>rw [if_pos (by simpa using hx)]
  | succ k =>
   have fC:x∈r.getD k []:=by simpa using hx
   have DK:k < r.length:=by simpa using hk
   have hf:x∈r.flatten:=by
    rw [List.getD_eq_getElem?_getD,List.getElem?_eq_getElem DK] at fC;exact List.mem_flatten.2 ⟨r[k],List.getElem_mem DK,by simpa using fC⟩
   have h2:=List.count_pos_iff.2 hf;have hl:x∉l:=fun h=>by have:=List.count_pos_iff.2 h;omega
   rw [if_neg hl,ih (by omega) DK fC];rfl
theorem count_set (a:Int):∀ (C:List (List Int)) (g:Nat) (c c':List Int),C[g]?=some c→(C.set g c').flatten.count a + c.count a=C.flatten.count a + c'.count a
 | [],g,c,c',h=>by simp at h
 | y :: r,0,c,c',h=>by
  simp at h;subst h;simp [List.count_append];omega
 | y :: r,g + 1,c,c',h=>by
  have:=count_set a r g c c' (by simpa using h);simp [List.count_append];omega
theorem getD_some {R:List (List Int)} {k:Nat} (h:k < R.length):R[k]?=some (R.getD k []):=by
 rw [List.getD_eq_getElem?_getD,List.getElem?_eq_getElem h];rfl
theorem count_le {R:List (List Int)} {k:Nat} (h:k < R.length) (a:Int):(R.getD k []).count a≤R.flatten.count a:=by
 have:=count_set a R k _ [] (getD_some h);simp at this ⊢;omega
theorem lQ {R:List (List Int)} {k j:Nat} {l:List Int} (h:k < R.length):(R.set k l).getD j []=if k=j then l else R.getD j []:=by
 by_cases e:k=j
 ·subst e;simp [h]
 ·simp [List.getD,e]
theorem H9 {n:Nat} {R:List (List Int)} {k:Nat} {l':List Int} (v:Inv n R) (v':Inv n (R.set k l')) (hk:k < R.length) (y:Int) :
  loc (R.set k l') y=if y∈l' then some k else if loc R y=some k then none else loc R y:=by
 by_cases h:y∈l'
 ·rw [if_pos h];exact Al (v'.one y) (by simpa using hk) (by rw [lQ hk,if_pos rfl];exact h)
 ·rw [if_neg h]
  cases hl:loc (R.set k l') y with
  | none =>
   split
   ·rfl
   ·rename_i h2;have hf:=qR.1 hl
    cases hr:loc R y with
    | none=>rfl
    | some j =>
     obtain ⟨hj,mj⟩:=xI hr;have DL:k≠j:=fun e=>h2 (by rw [hr,e])
     exact absurd (List.mem_flatten.2 ⟨R.getD j [],List.mem_of_getElem? (i:=j) (by rw [List.getElem?_set_ne DL];exact getD_some hj),mj⟩) hf
  | some j =>
   obtain ⟨hj,mj⟩:=xI hl;rw [lQ hk] at mj
   split at mj
   ·exact absurd mj h
   ·rename_i DL;have eW:j < R.length:=by simpa using hj
    have:=Al (v.one y) eW mj;rw [this,if_neg (by simpa using fun e=>DL e.symm)]
theorem iG (n:Nat) (R:List (List Int)):(th n R).length=n:=by simp [th]
theorem nE {n:Nat} {R:List (List Int)} {x:Nat} (h:x < n):(th n R)[x]?=some (tc R (x:Int)):=by simp [th,h]
theorem Am {n:Nat} {R:List (List Int)} {l:List (Int × Int × Int)} (hl:l.length=n) (h:∀ x:Nat,x < n→l[x]?=some (tc R (x:Int))):l=th n R:=by
 apply List.ext_getElem?;intro i
 by_cases hi:i < n
 ·rw [h i hi,nE hi]
 ·rw [List.getElem?_eq_none (by omega),List.getElem?_eq_none (by rw [iG];omega)]
theorem Ia (R:List (List Int)) (k:Nat) (l:List Int):ln (R.set k l)=(ln R).set k (lc l):=by simp [ln,List.map_set]
theorem DM {R:List (List Int)} {k:Nat} (h:k < R.length):(ln R)[k]?=some (lc (R.getD k [])):=by
 simp only [ln,List.getElem?_map,getD_some h,Option.map_some]
theorem vr {n:Nat} {R:List (List Int)} (v:Inv n R) {k:Nat} (hk:k < R.length) {y:Int} (hy:y∈R.getD k []):tc R y=((k:Int),eJ (R.getD k []) y,fP (R.getD k []) y):=by
 unfold tc;rw [Al (v.one y) hk hy]
theorem An {R:List (List Int)} {y:Int} (h:loc R y=none):tc R y=(-1,-1,-1):=by unfold tc;rw [h]
theorem Ib {n:Nat} {R:List (List Int)} {k:Nat} {l':List Int} (v:Inv n R) (v':Inv n (R.set k l')) (hk:k < R.length) {y:Int} (h1:y∉l') (h2:y∉R.getD k []):tc (R.set k l') y=tc R y:=by
 have h:=H9 v v' hk y;rw [if_neg h1] at h;have h3:loc R y≠some k:=fun e=>h2 (xI e).2
 rw [if_neg h3] at h;unfold tc;rw [h]
 cases hl:loc R y with
 | none=>rfl
 | some j =>
  have hj:k≠j:=fun e=>h3 (by rw [hl,e])
  simp only [lQ hk,if_neg hj]
theorem Ic {n:Nat} {R:List (List Int)} {k:Nat} {l':List Int} (v:Inv n R) (v':Inv n (R.set k l')) (hk:k < R.length) {y:Int} (h1:y∈l'):tc (R.set k l') y=((k:Int),eJ l' y,fP l' y):=by
 have:=vr v' (k:=k) (by simpa using hk) (y:=y) (by rw [lQ hk,if_pos rfl];exact h1)
 rwa [lQ hk,if_pos rfl] at this
theorem PR {n:Nat} {R:List (List Int)} {k:Nat} {l':List Int} (v:Inv n R) (v':Inv n (R.set k l')) (hk:k < R.length) {y:Int} (h1:y∉l') (h2:y∈R.getD k []):tc (R.set k l') y=(-1,-1,-1):=by
 have h:=H9 v v' hk y;rw [if_neg h1,if_pos (Al (v.one y) hk h2)] at h;exact An h
theorem pR {R:List (List Int)} {k:Nat} (hk:k < R.length) {y:Int} (hy:y∈R.getD k []):y∈R.flatten :=
 List.mem_flatten.2 ⟨_,List.mem_of_getElem? (getD_some hk),hy⟩
theorem Ie {n:Nat} {R:List (List Int)} {k:Nat} {x:Int} (v:Inv n R) (hk:k < R.length) (h0:0≤x) (h1:x < n) (hx:loc R x=none):Inv n (R.set k (R.getD k [] ++ [x])):=by
 have hf:=qR.1 hx;refine ⟨v.tW,by simpa using v.tX,fun a=>?_,fun a ha=>?_⟩
 ·have h:=count_set a R k _ (R.getD k [] ++ [x]) (getD_some hk);have h2:=v.one a;rw [List.count_append,List.count_singleton] at h
  by_cases e:x=a
  ·subst e;have:R.flatten.count x=0:=List.count_eq_zero.2 hf;simp at h;simp;omega
  ·simp [e] at h;simp;omega
 ·have h:=count_set a R k _ (R.getD k [] ++ [x]) (getD_some hk);have h2:=List.count_pos_iff.2 ha;rw [List.count_append,List.count_singleton] at h
  by_cases e:x=a
  ·subst e;exact ⟨h0,h1⟩
  ·have e2:(x == a)=false:=by simpa using e
   rw [e2] at h;apply v.bound;apply List.count_pos_iff.1;simp only [Bool.false_eq_true,if_false] at h;omega
theorem PT {n:Nat} {R:List (List Int)} {k:Nat} {x:Int} (v:Inv n R) (hk:k < R.length) (h0:0≤x) (h1:x < n) (hx:loc R x=none) :
  th n (R.set k (R.getD k [] ++ [x]))=if R.getD k []=[] then (th n R).set x.toNat ((k:Int),-1,-1)
   else ((th n R).set x.toNat ((k:Int),-1,(R.getD k []).getLastD (-1))).set ((R.getD k []).getLastD (-1)).toNat ((k:Int),x,fP (R.getD k []) ((R.getD k []).getLastD (-1))):=by
 have v':=Ie v hk h0 h1 hx;have hf:=qR.1 hx;have jS:x∉R.getD k []:=fun h=>hf (pR hk h)
 have ho:=v.one;have hb:=v.bound;have bQ:=fun a=>count_le hk (R:=R) a
 have PU:=fun a=>pR hk (R:=R) (y:=a)
 have jm:=fun y=>Ic v v' hk (y:=y)
 have xJ:=fun y=>Ib v v' hk (y:=y)
 have lT:=fun y=>vr v hk (y:=y)
 generalize R.getD k []=l at *
 symm
 have xK:tc (R.set k (l ++ [x])) x=((k:Int),-1,l.getLastD (-1)):=by
  rw [jm x (by simp),vn jS,fP,xH jS];simp [eJ,js]
 split
 ·rename_i hl;subst hl;refine Am (by simp [iG]) (fun y hy=>?_)
  by_cases e:x.toNat=y
  ·have:(y:Int)=x:=by omega
   rw [e,List.getElem?_set_self (by rw [iG];exact hy),this,xK];rfl
  ·rw [List.getElem?_set_ne e,nE hy];rw [xJ (y:Int) (by simp;omega) (by simp)]
 ·rename_i hl;have pS:l.getLastD (-1)∈l:=by
   rw [List.getLastD_eq_getLast?,List.getLast?_eq_some_getLast hl];exact List.getLast_mem hl
  have DN:=hb _ (PU _ pS);have ZA:l.getLastD (-1)≠x:=fun e=>jS (e ▸ pS)
  refine Am (by simp [iG]) (fun y hy=>?_)
  by_cases e1:(l.getLastD (-1)).toNat=y
  ·have ey:(y:Int)=l.getLastD (-1):=by omega
   rw [e1,List.getElem?_set_self (by simp [iG];exact hy),ey,jm _ (List.mem_append_left _ pS)];rw [xG pS (by have:=bQ (l.getLastD (-1));have:=ho (l.getLastD (-1));omega),if_pos rfl,vq pS];rfl
  ·rw [List.getElem?_set_ne e1]
   by_cases e:x.toNat=y
   ·have:(y:Int)=x:=by omega
    rw [e,List.getElem?_set_self (by rw [iG];exact hy),this,xK]
   ·rw [List.getElem?_set_ne e,nE hy]
    by_cases hm:(y:Int)∈l
    ·rw [jm _ (by simp [hm]),lT _ hm,xG hm (by have:=bQ (y:Int);have:=ho (y:Int);omega),ax,vq hm]
    ·rw [xJ (y:Int) (by simp [hm];omega) hm]
theorem PV {l:List Int} {x:Int} (h:x∈l):∃ a b,l=a ++ x :: b∧x∉a:=by
 induction l with
 | nil=>simp at h
 | cons z r ih =>
  by_cases e:z=x
  ·exact ⟨[],r,by simp [e],by simp⟩
  ·rcases List.mem_cons.1 h with h | h
   ·exact absurd h.symm e
   ·obtain ⟨a,b,rfl,hn⟩:=ih h;exact ⟨z :: a,b,rfl,by simp [hn];exact fun h=>e h.symm⟩
theorem Ig {n:Nat} {R:List (List Int)} {k:Nat} {x:Int} {a b:List Int} (v:Inv n R) (hk:k < R.length) (hl:R.getD k []=a ++ x :: b):Inv n (R.set k (a ++ b)):=by
 refine ⟨v.tW,by simpa using v.tX,fun y=>?_,fun y hy=>?_⟩
 ·have h:=count_set y R k _ (a ++ b) (getD_some hk);have:=v.one y;rw [hl,List.count_append,List.count_append,List.count_cons] at h;omega
 ·have h:=count_set y R k _ (a ++ b) (getD_some hk);have h2:=List.count_pos_iff.2 hy;rw [hl,List.count_append,List.count_append,List.count_cons] at h;exact v.bound y (List.count_pos_iff.1 (by omega))
theorem PW {n:Nat} {R:List (List Int)} {k:Nat} {x:Int} {a b:List Int} (v:Inv n R) (hk:k < R.length) (hl:R.getD k []=a ++ x :: b) :
  th n (R.set k (a ++ b)) =
   ((if b=[] then (if a=[] then th n R else (th n R).set (a.getLastD (-1)).toNat ((k:Int),b.headD (-1),fP a (a.getLastD (-1))))
    else (if a=[] then th n R else (th n R).set (a.getLastD (-1)).toNat ((k:Int),b.headD (-1),fP a (a.getLastD (-1)))).set (b.headD (-1)).toNat ((k:Int),eJ b (b.headD (-1)),a.getLastD (-1))).set x.toNat (-1,-1,-1)):=by
 have v':=Ig v hk hl;have ho:∀ y,(a ++ x :: b).count y≤1:=fun y=>by rw [← hl];exact Nat.le_trans (count_le hk y) (v.one y)
 have hb:∀ y,y∈a ++ x :: b→0≤y∧y < n:=fun y hy=>v.bound y (pR hk (by rw [hl];exact hy))
 have jm:=fun y=>Ic v v' hk (y:=y)
 have xJ:=fun y=>Ib v v' hk (y:=y)
 have sF:=fun y=>PR v v' hk (y:=y)
 have lT:=fun y=>vr v hk (y:=y)
 rw [hl] at xJ sF lT;have dN:∀ y,a.count y + ((if x=y then 1 else 0) + b.count y)≤1:=fun y=>by
  have:=ho y;rw [List.count_append,List.count_cons] at this
  by_cases e:x=y
  ·subst e;simp at this ⊢;omega
  ·have e2:(x == y)=false:=by simpa using e
   rw [e2] at this;rw [if_neg e];simp at this;omega
 have tY:x∉a:=fun h=>by have:=List.count_pos_iff.2 h;have:=dN x;rw [if_pos rfl] at this;omega
 have xM:x∉b:=fun h=>by have:=List.count_pos_iff.2 h;have:=dN x;rw [if_pos rfl] at this;omega
 have qS:∀ y,y∈a→y∉b:=fun y h1 h2=>by
  have:=List.count_pos_iff.2 h1;have:=List.count_pos_iff.2 h2;have:=dN y;omega
 have ca:∀ y,a.count y≤1:=fun y=>by have:=dN y;omega
 have iw:a≠[]→a.getLastD (-1)∈a:=fun h=>by
  rw [List.getLastD_eq_getLast?,List.getLast?_eq_some_getLast h];exact List.getLast_mem h
 have pU:b≠[]→b.headD (-1)∈b:=fun h=>by cases b with
  | nil=>exact absurd rfl h
  | cons z r=>simp
 have ZB:=hb x (by simp)
 symm
 refine Am (by split <;> split <;> simp [iG]) (fun y hy=>?_)
 by_cases ex:x.toNat=y
 ·have PX:(y:Int)=x:=by omega
  rw [ex,List.getElem?_set_self (by split <;> split <;> (simp [iG];exact hy)),PX,sF x (by simp [tY,xM]) (by simp)]
 ·rw [List.getElem?_set_ne ex];have tZ:x≠(y:Int):=by omega
  have key:∀ T:List (Int × Int × Int),T.length=n→(∀ z:Nat,z < n→T[z]?=if a≠[]∧a.getLastD (-1)=(z:Int) then some ((k:Int),b.headD (-1),fP a (a.getLastD (-1))) else some (tc R (z:Int))) →
    (if b=[] then T else T.set (b.headD (-1)).toNat ((k:Int),eJ b (b.headD (-1)),a.getLastD (-1)))[y]?=some (tc (R.set k (a ++ b)) (y:Int)):=by
   intro T hT Ih
   by_cases ke:(y:Int)∈a
   ·have pV:=qS _ ke;have e1:∀ h:b≠[],(b.headD (-1)).toNat≠y:=fun h e=>by
     have:=hb _ (List.mem_append_right _ (List.mem_cons_of_mem _ (pU h)):b.headD (-1)∈a ++ x :: b);exact pV (by have:=pU h;rwa [show b.headD (-1)=(y:Int) by omega] at this)
    have e2:(if b=[] then T else T.set (b.headD (-1)).toNat ((k:Int),eJ b (b.headD (-1)),a.getLastD (-1)))[y]?=T[y]?:=by
     split
     ·rfl
     ·rename_i h;rw [List.getElem?_set_ne (e1 h)]
    rw [e2,Ih y hy,jm _ (by simp [ke]),xG ke (ca _)];have PY:a≠[]:=fun h=>by rw [h] at ke;simp at ke
    by_cases e3:a.getLastD (-1)=(y:Int)
    ·rw [if_pos ⟨PY,e3⟩,if_pos e3,vq ke,e3]
    ·rw [if_neg (fun h=>e3 h.2),if_neg e3,lT _ (by simp [ke]),xG ke (ca _),if_neg e3,vq ke,vq ke]
   ·have e0:T[y]?=some (tc R (y:Int)):=by
     rw [Ih y hy,if_neg]
     rintro ⟨h1,h2⟩
     exact ke (by have:=iw h1;rwa [h2] at this)
    by_cases pV:(y:Int)∈b
    ·have Ii:b≠[]:=fun h=>by rw [h] at pV;simp at pV
     rw [if_neg Ii,jm _ (by simp [pV]),vn ke,fP,xH ke,H8 (q:=x) pV];have Ij:=lT (y:Int) (by simp [pV]);rw [vn ke,fP,xH ke,js,if_neg tZ,eJ,if_neg tZ] at Ij
     by_cases e3:b.headD (-1)=(y:Int)
     ·rw [if_pos e3,show (b.headD (-1)).toNat=y by omega,List.getElem?_set_self (by rw [hT];exact hy),e3]
     ·rw [if_neg e3,List.getElem?_set_ne (by have:=hb _ (List.mem_append_right _ (List.mem_cons_of_mem _ (pU Ii)):b.headD (-1)∈a ++ x :: b);omega),e0,Ij]
    ·have e1:(if b=[] then T else T.set (b.headD (-1)).toNat ((k:Int),eJ b (b.headD (-1)),a.getLastD (-1)))[y]?=T[y]?:=by
      split
      ·rfl
      ·rename_i h;have:=hb _ (List.mem_append_right _ (List.mem_cons_of_mem _ (pU h)):b.headD (-1)∈a ++ x :: b);rw [List.getElem?_set_ne (fun e=>pV (by have:=pU h;rwa [show b.headD (-1)=(y:Int) by omega] at this))]
     rw [e1,e0,xJ _ (by simp [ke,pV]) (by simp [ke,pV];exact fun e=>tZ e.symm)]
  apply key
  ·split <;> simp [iG]
  ·intro z hz
   by_cases xN:a=[]
   ·rw [if_pos xN,if_neg (fun h=>h.1 xN),nE hz]
   ·rw [if_neg xN];have:=hb _ (List.mem_append_left _ (iw xN):a.getLastD (-1)∈a ++ x :: b)
    by_cases e3:a.getLastD (-1)=(z:Int)
    ·rw [if_pos ⟨xN,e3⟩,show (a.getLastD (-1)).toNat=z by omega,List.getElem?_set_self (by rw [iG];exact hz)]
    ·rw [if_neg (fun h=>e3 h.2),List.getElem?_set_ne (by omega),nE hz]
theorem PZ (c:Int) (l:List Int):l.length=(l.filter (fun a=>a≠c)).length + l.count c:=by
 induction l with
 | nil=>rfl
 | cons x r ih =>
  rw [List.count_cons,List.filter_cons]
  by_cases e:x=c
  ·subst e;simp at ih ⊢;omega
  ·have e2:(x == c)=false:=by simpa using e
   simp [e,e2] at ih ⊢;omega
theorem Ao {l:List Int} {n:Nat} (h1:∀ a,l.count a≤1) (h2:∀ a∈l,0≤a∧a < (n:Int)):l.length≤n:=by
 induction n generalizing l with
 | zero =>
  cases l with
  | nil=>simp
  | cons x r=>have:=h2 x (by simp);omega
 | succ n ih =>
  have h3:=ih (l:=l.filter (fun a=>a≠(n:Int))) (fun a=>Nat.le_trans (List.Sublist.count_le a List.filter_sublist) (h1 a)) (fun a ha=>by
   simp only [List.mem_filter,decide_eq_true_eq] at ha;have:=h2 a ha.1;omega)
  have h4:=PZ (n:Int) l;have:=h1 (n:Int);omega
end Qu
open Go.RowKit
def t3 (t:Int × Int × Int):List Value:=[.int .i64 t.1,.int .i64 t.2.1,.int .i64 t.2.2]
theorem pW (t:Int × Int × Int):(t3 t).length=3:=rfl
def cV (w:World) (b g1 o1 c1 g2 o2 c2:Nat) (A B:List (Int × Int × Int)):Prop :=
 cI w b [.slice (some ⟨g1,o1,none⟩) A.length c1,.slice (some ⟨g2,o2,none⟩) B.length c2] 149 ∧
  ER t3 3 w (.slice (some ⟨g1,o1,none⟩) A.length c1) 151 A [g1]∧ER t3 3 w (.slice (some ⟨g2,o2,none⟩) B.length c2) 153 B [g2]∧b≠g1∧b≠g2∧g1≠g2
def Qq (w:World) (p:Value) (n:Nat) (R:List (List Int)) (S:List Nat):Prop :=
 ∃ b v1 v2 T1 T2,p=.pointer (some ⟨b,0,none⟩)∧cI w b [v1,v2] 149∧ER t3 3 w v1 151 (Qu.th n R) T1∧ER t3 3 w v2 153 (Qu.ln R) T2 ∧
  b∉T1∧b∉T2∧(∀ x∈T1,x∉T2)∧S=b :: (T1 ++ T2)∧Qu.Inv n R
section
variable {w w':World} {p:Value} {n:Nat} {R:List (List Int)} {S T:List Nat}
theorem Qq.aT (h:Qq w p n R S) (k:aj T w w') (hn:∀ x∈S,x∉T):Qq w' p n R S:=by
 obtain ⟨b,v1,v2,T1,T2,rfl,hb,h1,h2,d1,d2,d3,rfl,hv⟩:=h;exact ⟨b,v1,v2,T1,T2,rfl,hb.aT k (hn b (by simp)),h1.aT k (fun x hx=>hn x (by simp [hx])),h2.aT k (fun x hx=>hn x (by simp [hx])),d1,d2,d3,rfl,hv⟩
theorem Qq.then (h:Qq w p n R S) (k:aj [] w w'):Qq w' p n R S:=h.aT k (by simp)
theorem Qq.lt (h:Qq w p n R S):∀ k∈S,k < w.heap.size:=by
 obtain ⟨b,v1,v2,T1,T2,rfl,hb,h1,h2,d1,d2,d3,rfl,hv⟩:=h;intro k hk;simp only [List.mem_cons,List.mem_append] at hk;rcases hk with rfl | hk | hk
 ·exact hb.lt
 ·exact h1.lt k hk
 ·exact h2.lt k hk
theorem Qq.shape (h:Qq w p n R S):∃ b,p=.pointer (some ⟨b,0,none⟩):=by
 obtain ⟨b,v1,v2,T1,T2,rfl,_⟩:=h;exact ⟨b,rfl⟩
theorem Qq.inv (h:Qq w p n R S):Qu.Inv n R:=by
 obtain ⟨b,v1,v2,T1,T2,rfl,hb,h1,h2,d1,d2,d3,rfl,hv⟩:=h;exact hv
theorem Qq.raw {b:Nat} (h:Qq w (.pointer (some ⟨b,0,none⟩)) n R S) (h0:0 < n) (h1:0 < R.length):∃ g1 o1 c1 g2 o2 c2,S=[b,g1,g2]∧cV w b g1 o1 c1 g2 o2 c2 (Qu.th n R) (Qu.ln R):=by
 obtain ⟨b',v1,v2,T1,T2,e,hb,e1,e2,d1,d2,d3,rfl,hv⟩:=h;obtain rfl:b=b':=by simpa using e
 obtain ⟨a1,c1,rfl⟩:=e1.shape;obtain ⟨a2,c2,rfl⟩:=e2.shape;obtain ⟨g1,o1,rfl,rfl,_⟩:=e1.cells pW (by rw [Qu.iG];exact h0);obtain ⟨g2,o2,rfl,rfl,_⟩:=e2.cells pW (by simp [Qu.ln];omega);exact ⟨g1,o1,c1,g2,o2,c2,rfl,hb,e1,e2,by simpa using d1,by simpa using d2,by simpa using d3⟩
end
section
variable {w w':World} {b g1 o1 c1 g2 o2 c2 n:Nat} {A B:List (Int × Int × Int)}
theorem cV.q {R:List (List Int)} (h:cV w b g1 o1 c1 g2 o2 c2 A B) (hA:A=Qu.th n R) (hB:B=Qu.ln R) (hv:Qu.Inv n R):Qq w (.pointer (some ⟨b,0,none⟩)) n R [b,g1,g2]:=by
 subst hA hB;obtain ⟨h1,h2,h3,d1,d2,d3⟩:=h;exact ⟨b,_,_,[g1],[g2],rfl,h1,h2,h3,by simpa using d1,by simpa using d2,by simpa using d3,rfl,hv⟩
theorem cV.drew (h:cV w b g1 o1 c1 g2 o2 c2 A B):cV w.drew b g1 o1 c1 g2 o2 c2 A B:=h
theorem cV.aI (h:cV w b g1 o1 c1 g2 o2 c2 A B) {x:Nat} {t:Int × Int × Int} (hx:A[x]?=some t) :
  (w.cell? ⟨g1,o1 + x * 3,none⟩=some (.int .i64 t.1)∧w.cell? ⟨g1,o1 + x * 3 + 1,none⟩=some (.int .i64 t.2.1)∧w.cell? ⟨g1,o1 + x * 3 + 2,none⟩=some (.int .i64 t.2.2)) ∧
   w.frozen? ⟨g1,o1 + x * 3,none⟩=false∧w.frozen? ⟨g1,o1 + x * 3 + 1,none⟩=false∧w.frozen? ⟨g1,o1 + x * 3 + 2,none⟩=false:=by
 obtain ⟨_,h2,_,_⟩:=h;obtain ⟨g',o',e,_,_,hc,hf⟩:=h2.cells pW (by have:=(List.getElem?_eq_some_iff.1 hx).1;omega);obtain ⟨rfl,rfl⟩:=by simpa using e
 refine ⟨⟨hc x t 0 hx (by omega),?_,?_⟩,hf _,?_,?_⟩
 ·rw [Nat.add_assoc];exact hc x t 1 hx (by omega)
 ·rw [Nat.add_assoc];exact hc x t 2 hx (by omega)
 ·rw [Nat.add_assoc];exact hf _
 ·rw [Nat.add_assoc];exact hf _
theorem cV.line (h:cV w b g1 o1 c1 g2 o2 c2 A B) {x:Nat} {t:Int × Int × Int} (hx:B[x]?=some t) :
  (w.cell? ⟨g2,o2 + x * 3,none⟩=some (.int .i64 t.1)∧w.cell? ⟨g2,o2 + x * 3 + 1,none⟩=some (.int .i64 t.2.1)∧w.cell? ⟨g2,o2 + x * 3 + 2,none⟩=some (.int .i64 t.2.2)) ∧
   w.frozen? ⟨g2,o2 + x * 3,none⟩=false∧w.frozen? ⟨g2,o2 + x * 3 + 1,none⟩=false∧w.frozen? ⟨g2,o2 + x * 3 + 2,none⟩=false:=by
 obtain ⟨_,_,h2,_⟩:=h;obtain ⟨g',o',e,_,_,hc,hf⟩:=h2.cells pW (by have:=(List.getElem?_eq_some_iff.1 hx).1;omega);obtain ⟨rfl,rfl⟩:=by simpa using e
 refine ⟨⟨hc x t 0 hx (by omega),?_,?_⟩,hf _,?_,?_⟩
 ·rw [Nat.add_assoc];exact hc x t 1 hx (by omega)
 ·rw [Nat.add_assoc];exact hc x t 2 hx (by omega)
 ·rw [Nat.add_assoc];exact hf _
 ·rw [Nat.add_assoc];exact hf _
theorem cV.head (h:cV w b g1 o1 c1 g2 o2 c2 A B):w.cell? ⟨b,0,none⟩=some (.slice (some ⟨g1,o1,none⟩) A.length c1)∧w.cell? ⟨b,1,none⟩=some (.slice (some ⟨g2,o2,none⟩) B.length c2):=⟨h.1.cell 0,h.1.cell 1⟩
theorem cV.DO (h:cV w b g1 o1 c1 g2 o2 c2 A B) {x j:Nat} {t t':Int × Int × Int} {u:Value} (hx:A[x]?=some t) (hj:j < 3) (ht:t3 t'=(t3 t).set j u) :
  cV (w.setCell ⟨g1,o1 + (x * 3 + j),none⟩ u) b g1 o1 c1 g2 o2 c2 (A.set x t') B:=by
 obtain ⟨h1,h2,h3,d1,d2,d3⟩:=h;refine ⟨?_,?_,?_,d1,d2,d3⟩
 ·rw [List.length_set];exact h1.other d1 _
 ·rw [List.length_set];exact (h2.stored pW hx hj ht).1
 ·exact h3.aT ((aj.refl [g1] w).setCell (by simp) _) (by simpa using fun e=>d3 e.symm)
theorem cV.kI (h:cV w b g1 o1 c1 g2 o2 c2 A B) {x j:Nat} {t t':Int × Int × Int} {u:Value} (hx:B[x]?=some t) (hj:j < 3) (ht:t3 t'=(t3 t).set j u) :
  cV (w.setCell ⟨g2,o2 + (x * 3 + j),none⟩ u) b g1 o1 c1 g2 o2 c2 A (B.set x t'):=by
 obtain ⟨h1,h2,h3,d1,d2,d3⟩:=h;refine ⟨?_,?_,?_,d1,d2,d3⟩
 ·rw [List.length_set];exact h1.other d2 _
 ·exact h2.aT ((aj.refl [g2] w).setCell (by simp) _) (by simpa using d3)
 ·rw [List.length_set];exact (h3.stored pW hx hj ht).1
theorem cV.t1 (h:cV w b g1 o1 c1 g2 o2 c2 A B) {x:Nat} {t:Int × Int × Int} (hx:A[x]?=some t) (v:Int):cV (w.setCell ⟨g1,o1 + x * 3 + 1,none⟩ (.int .i64 v)) b g1 o1 c1 g2 o2 c2 (A.set x (t.1,v,t.2.2)) B:=by
 rw [Nat.add_assoc];exact h.DO hx (by omega) rfl
theorem cV.t2 (h:cV w b g1 o1 c1 g2 o2 c2 A B) {x:Nat} {t:Int × Int × Int} (hx:A[x]?=some t) (v:Int):cV (w.setCell ⟨g1,o1 + x * 3 + 2,none⟩ (.int .i64 v)) b g1 o1 c1 g2 o2 c2 (A.set x (t.1,t.2.1,v)) B:=by
 rw [Nat.add_assoc];exact h.DO hx (by omega) rfl
theorem cV.t0 (h:cV w b g1 o1 c1 g2 o2 c2 A B) {x:Nat} {t:Int × Int × Int} (hx:A[x]?=some t) (v:Int):cV (w.setCell ⟨g1,o1 + x * 3,none⟩ (.int .i64 v)) b g1 o1 c1 g2 o2 c2 (A.set x (v,t.2)) B:=by
 have:=h.DO (t':=(v,t.2)) (u:=.int .i64 v) hx (show 0 < 3 by omega) rfl;exact this
theorem cV.l1 (h:cV w b g1 o1 c1 g2 o2 c2 A B) {x:Nat} {t:Int × Int × Int} (hx:B[x]?=some t) (v:Int):cV (w.setCell ⟨g2,o2 + x * 3 + 1,none⟩ (.int .i64 v)) b g1 o1 c1 g2 o2 c2 A (B.set x (t.1,v,t.2.2)):=by
 rw [Nat.add_assoc];exact h.kI hx (by omega) rfl
theorem cV.l2 (h:cV w b g1 o1 c1 g2 o2 c2 A B) {x:Nat} {t:Int × Int × Int} (hx:B[x]?=some t) (v:Int):cV (w.setCell ⟨g2,o2 + x * 3 + 2,none⟩ (.int .i64 v)) b g1 o1 c1 g2 o2 c2 A (B.set x (t.1,t.2.1,v)):=by
 rw [Nat.add_assoc];exact h.kI hx (by omega) rfl
theorem cV.l0 (h:cV w b g1 o1 c1 g2 o2 c2 A B) {x:Nat} {t:Int × Int × Int} (hx:B[x]?=some t) (v:Int):cV (w.setCell ⟨g2,o2 + x * 3,none⟩ (.int .i64 v)) b g1 o1 c1 g2 o2 c2 A (B.set x (v,t.2)):=by
 have:=h.kI (t':=(v,t.2)) (u:=.int .i64 v) hx (show 0 < 3 by omega) rfl;exact this
theorem cV.DP (h:cV w b g1 o1 c1 g2 o2 c2 A B) {x:Nat} (hx:x < A.length) (a c d:Int) :
  cV (((w.setCell ⟨g1,o1 + x * 3,none⟩ (.int .i64 a)).setCell ⟨g1,o1 + x * 3 + 1,none⟩ (.int .i64 c)).setCell ⟨g1,o1 + x * 3 + 2,none⟩ (.int .i64 d)) b g1 o1 c1 g2 o2 c2 (A.set x (a,c,d)) B:=by
 have e:=List.getElem?_eq_getElem hx;have h1:=h.t0 e a;have h2:=h1.t1 (x:=x) (t:=(a,A[x].2)) (by simp [hx]) c;have h3:=h2.t2 (x:=x) (t:=(a,c,A[x].2.2)) (by simp [hx]) d;simpa using h3
end
namespace Qu
def line (R:List (List Int)) (k:Int):Bool:=decide (0≤k) && decide (k < R.length)
def nF (R:List (List Int)) (x:Int):Int × Bool:=match loc R x with
 | some k=>(k,true)
 | none=>(0,false)
def row (R:List (List Int)) (k:Int):List Int:=if line R k then R.getD k.toNat [] else []
def first (R:List (List Int)) (k:Int):Int × Bool:=if row R k=[] then (0,false) else ((row R k).headD (-1),true)
theorem DQ {R:List (List Int)} {k:Int} (h:line R k=true):∃ j:Nat,k=j∧j < R.length:=by
 simp only [line,Bool.and_eq_true,decide_eq_true_eq] at h;obtain ⟨j,rfl⟩:=Int.eq_ofNat_of_zero_le h.1;exact ⟨j,rfl,by omega⟩
theorem Ap {R:List (List Int)} {j:Nat} (h:j < R.length):row R j=R.getD j []:=by simp [row,line,h]
end Qu
theorem pX (w:World) (p:Value) (n:Nat) (R:List (List Int)) (S:List Nat) (k:Int) (h:Qq w p n R S) :
  Calls Tryz.prog 133 #[p,.int .i64 k] w fun e w'=>e=.returned (.bool (Qu.line R k))∧w=w':=by
 obtain ⟨b,v1,v2,T1,T2,rfl,hb,h1,h2,d1,d2,d3,rfl,hv⟩:=h;obtain ⟨ao,cap,rfl⟩:=h2.shape;have hl:(Qu.ln R).length=R.length:=by simp [Qu.ln]
 have hr:=hv.tX;rw [hl] at hb;have c1:w.cell? ⟨b,1,none⟩=some (.slice ao R.length cap):=hb.cell 1;clear hb h1 h2 hv hl
 cases h1:decide (0≤k) with
 | true =>
  go_enter Tryz.func133,Tryz.ntmps133
  go_wp2
  go_ret
  exact ⟨cS (by simp [Qu.line,h1]),rfl⟩
 | false =>
  go_enter Tryz.func133,Tryz.ntmps133
  go_wp2
  go_ret
  exact ⟨cS (by simp [Qu.line,h1]),rfl⟩
theorem Qq.Ik {w:World} {b n:Nat} {R:List (List Int)} {S:List Nat} (h:Qq w (.pointer (some ⟨b,0,none⟩)) n R S) {j:Nat} (hj:j < R.length):∃ g2 o2 c2,w.cell? ⟨b,1,none⟩=some (.slice (some ⟨g2,o2,none⟩) R.length c2) ∧
  w.cell? ⟨g2,o2 + j * 3,none⟩=some (.int .i64 ((R.getD j []).headD (-1)))∧w.cell? ⟨g2,o2 + j * 3 + 2,none⟩=some (.int .i64 (R.getD j []).length):=by
 obtain ⟨b',v1,v2,T1,T2,e,hb,e1,e2,d1,d2,d3,rfl,hv⟩:=h;obtain rfl:b=b':=by simpa using e
 obtain ⟨a2,c2,rfl⟩:=e2.shape;have hl:(Qu.ln R).length=R.length:=by simp [Qu.ln]
 obtain ⟨g2,o2,rfl,rfl,_,hc,_⟩:=e2.cells pW (by omega);have hx:=Qu.DM hj;refine ⟨g2,o2,c2,by rw [← hl];exact hb.cell 1,hc j _ 0 hx (by omega),?_⟩;rw [Nat.add_assoc];exact hc j _ 2 hx (by omega)
theorem P0 (w:World) (p:Value) (n:Nat) (R:List (List Int)) (S:List Nat) (k:Int) (h:Qq w p n R S) :
  Calls Tryz.prog 110 #[p,.int .i64 k] w fun e w'=>e=.returned (.tuple #[.int .i64 (Qu.first R k).1,.bool (Qu.first R k).2])∧w=w':=by
 obtain ⟨b,rfl⟩:=h.shape;have H:=Lib.hid h
 cases hk:Qu.line R k with
 | true =>
  obtain ⟨j,rfl,hj⟩:=Qu.DQ hk;obtain ⟨g2,o2,c2,c1,d0,d2⟩:=h.Ik hj;have hr:=h.inv.tX
  cases hq:(((R.getD j []).length:Int) == 0) with
  | true =>
   have HF:Hid (Qu.first R j=(0,false)):=Lib.hid (by unfold Qu.first;rw [Qu.Ap hj,if_pos (by simpa using hq)]);generalize (R.getD j []).length=m at *;clear h d0
   go_enter Tryz.func110,Tryz.ntmps110
   go_wp2_with fail
   refine (pX _ _ _ _ _ _ H.out).mono ?_
   rintro e w1 ⟨rfl,rfl⟩
   rw [hk]
   go_wp2_with fail
   go_ret2
   exact ⟨by rw [HF.out];rfl,rfl⟩
  | false =>
   have HF:Hid (Qu.first R j=((R.getD j []).headD (-1),true)):=Lib.hid (by unfold Qu.first;rw [Qu.Ap hj,if_neg (by simpa using hq)]);generalize (R.getD j []).headD (-1)=hd at *;generalize (R.getD j []).length=m at *;clear h
   go_enter Tryz.func110,Tryz.ntmps110
   go_wp2_with fail
   refine (pX _ _ _ _ _ _ H.out).mono ?_
   rintro e w1 ⟨rfl,rfl⟩
   rw [hk]
   go_wp2_with fail
   go_ret2
   exact ⟨by rw [HF.out];rfl,rfl⟩
 | false =>
  have HF:Hid (Qu.first R k=(0,false)):=Lib.hid (by simp [Qu.first,Qu.row,hk]);clear h
  go_enter Tryz.func110,Tryz.ntmps110
  go_wp2_with fail
  refine (pX _ _ _ _ _ _ H.out).mono ?_
  rintro e w1 ⟨rfl,rfl⟩
  rw [hk]
  go_wp2_with fail
  go_ret2
  exact ⟨by rw [HF.out];rfl,rfl⟩
theorem Qq.DR {w:World} {b n:Nat} {R:List (List Int)} {S:List Nat} (h:Qq w (.pointer (some ⟨b,0,none⟩)) n R S) {x:Nat} (hx:x < n):∃ g1 o1 c1,w.cell? ⟨b,0,none⟩=some (.slice (some ⟨g1,o1,none⟩) n c1)∧g1∈S ∧
  w.cell? ⟨g1,o1 + x * 3,none⟩=some (.int .i64 (Qu.tc R x).1)∧w.cell? ⟨g1,o1 + x * 3 + 1,none⟩=some (.int .i64 (Qu.tc R x).2.1):=by
 obtain ⟨b',v1,v2,T1,T2,e,hb,e1,e2,d1,d2,d3,rfl,hv⟩:=h;obtain rfl:b=b':=by simpa using e
 obtain ⟨a1,c1,rfl⟩:=e1.shape;have hl:=Qu.iG n R;obtain ⟨g1,o1,rfl,rfl,_,hc,_⟩:=e1.cells pW (by omega);have hg:=Qu.nE (R:=R) hx;refine ⟨g1,o1,c1,by have:=hb.cell 0;rw [hl] at this;exact this,by simp,hc x _ 0 hg (by omega),?_⟩;rw [Nat.add_assoc];exact hc x _ 1 hg (by omega)
theorem Qq.Il {w:World} {b n:Nat} {R:List (List Int)} {S:List Nat} (h:Qq w (.pointer (some ⟨b,0,none⟩)) n R S):∃ ao c1,w.cell? ⟨b,0,none⟩=some (.slice ao n c1):=by
 obtain ⟨b',v1,v2,T1,T2,e,hb,e1,e2,d1,d2,d3,rfl,hv⟩:=h;obtain rfl:b=b':=by simpa using e
 obtain ⟨a1,c1,rfl⟩:=e1.shape;exact ⟨a1,c1,by have:=hb.cell 0;rw [Qu.iG] at this;exact this⟩
theorem Im (w:World) (p:Value) (n:Nat) (R:List (List Int)) (S:List Nat) (x:Int) (h:Qq w p n R S) :
  Calls Tryz.prog 162 #[p,.int .i64 x] w fun e w'=>e=.returned (.tuple #[.int .i64 (Qu.nF R x).1,.bool (Qu.nF R x).2])∧w=w':=by
 obtain ⟨b,rfl⟩:=h.shape;have hv:=h.inv;have hn:=hv.tW;obtain ⟨ao,cap,ch⟩:=h.Il;have vt:(x < 0∨(n:Int)≤x)→Qu.nF R x=(0,false):=fun hx=>by
  have:Qu.loc R x=none:=Qu.qR.2 (fun hm=>by have:=hv.bound x hm;omega);unfold Qu.nF;rw [this]
 by_cases h0:x < 0
 ·have HF:=Lib.hid (vt (.inl h0));clear vt h hv
  go_enter Tryz.func162,Tryz.ntmps162
  go_wp2_with fail
  go_ret2
  exact ⟨by rw [HF.out];rfl,rfl⟩
 ·obtain ⟨y,rfl⟩:=Int.eq_ofNat_of_zero_le (show 0≤x by omega)
  by_cases h1:y < n
  ·obtain ⟨g1,o1,c1,e0,_,e1,_⟩:=h.DR h1
   cases hl:Qu.loc R (y:Int) with
   | none =>
    have ht:(Qu.tc R (y:Int)).1=-1:=by rw [Qu.An hl]
    have HF:Hid (Qu.nF R (y:Int)=(0,false)):=Lib.hid (by unfold Qu.nF;rw [hl]);rw [ht] at e1;clear vt h hv hl ht ch
    go_enter Tryz.func162,Tryz.ntmps162
    go_wp2_with fail
    go_ret2
    exact ⟨by rw [HF.out];rfl,rfl⟩
   | some k =>
    have ht:(Qu.tc R (y:Int)).1=(k:Int):=by unfold Qu.tc;rw [hl]
    have HF:Hid (Qu.nF R (y:Int)=((k:Int),true)):=Lib.hid (by unfold Qu.nF;rw [hl]);rw [ht] at e1;have aS:((k:Int) == -1)=false:=by simp
    clear vt h hv hl ht ch
    go_enter Tryz.func162,Tryz.ntmps162
    go_wp2_with fail
    go_ret2
    exact ⟨by rw [HF.out];rfl,rfl⟩
  ·have HF:=Lib.hid (vt (.inr (by omega)));clear vt h hv
   go_enter Tryz.func162,Tryz.ntmps162
   go_wp2_with fail
   go_ret2
   exact ⟨by rw [HF.out];rfl,rfl⟩
open Go.RowKit
attribute [local go_sem ↓] Go.wp_at_zero Go.wp_at_succ
theorem List.Io {α:Type} {l:List α} {k:Nat} {x:α} (h:l[k]?=some x):l.set k x=l:=by
 obtain ⟨hk,rfl⟩:=List.getElem?_eq_some_iff.1 h;simp
namespace Qu
theorem P4 {l m:List Int} {d:Int} (h:l≠[]):(l ++ m).headD d=l.headD d:=by
 cases l with
 | nil=>exact absurd rfl h
 | cons a r=>rfl
def push (n:Nat) (R:List (List Int)) (k x:Int):List (List Int) × Bool :=
 if line R k && decide (0≤x) && decide (x < n) && (loc R x).isNone then (R.set k.toNat (row R k ++ [x]),true) else (R,false)
end Qu
def qT (r:List (List Int) × Bool) (p:Value) (n:Nat) (S:List Nat) (w:World) (e:Ending) (w':World):Prop :=
 e=.returned (.bool r.2)∧aj S w w'∧Qq w' p n r.1 S
set_option maxRecDepth 100000 in
set_option maxHeartbeats 1600000 in
theorem Qa (w:World) (p:Value) (n:Nat) (R:List (List Int)) (S:List Nat) (k x:Int) (h:Qq w p n R S) :
  Calls Tryz.prog 107 #[p,.int .i64 k,.int .i64 x] w (qT (Qu.push n R k x) p n S w):=by
 obtain ⟨b,rfl⟩:=h.shape;have H:=Lib.hid h;have hv:=h.inv;have HV:=Lib.hid hv;have hn:=hv.tW;obtain ⟨ao,cap,ch⟩:=h.Il
 cases hk:Qu.line R k with
 | false =>
  have HF:Hid (Qu.push n R k x=(R,false)):=Lib.hid (by simp [Qu.push,hk]);clear h hv ch
  go_enter Tryz.func107,Tryz.ntmps107
  go_wp2_with fail
  refine (pX _ _ _ _ _ _ H.out).mono ?_
  rintro e w1 ⟨rfl,rfl⟩
  rw [hk]
  go_wp2_with fail
  go_ret
  unfold qT;rw [HF.out];exact ⟨rfl,aj.refl _ _,H.out⟩
 | true =>
  obtain ⟨j,rfl,hj⟩:=Qu.DQ hk
  by_cases h0:x < 0
  ·have HF:Hid (Qu.push n R j x=(R,false)):=Lib.hid (by unfold Qu.push;rw [if_neg];simp;omega);clear h hv ch
   go_enter Tryz.func107,Tryz.ntmps107
   go_wp2_with fail
   refine (pX _ _ _ _ _ _ H.out).mono ?_
   rintro e w1 ⟨rfl,rfl⟩
   rw [hk]
   go_wp2_with fail
   go_ret
   unfold qT;rw [HF.out];exact ⟨rfl,aj.refl _ _,H.out⟩
  ·obtain ⟨y,rfl⟩:=Int.eq_ofNat_of_zero_le (show 0≤x by omega)
   by_cases h1:y < n
   ·cases hl:Qu.loc R (y:Int) with
    | some j2 =>
     have HF:Hid (Qu.push n R j y=(R,false)):=Lib.hid (by unfold Qu.push;rw [if_neg];simp [hl]);obtain ⟨g1,o1,c1,e0,_,e1,_⟩:=h.DR h1;have ht:(Qu.tc R (y:Int)).1=(j2:Int):=by unfold Qu.tc;rw [hl]
     rw [ht] at e1;have aS:((j2:Int) != -1)=true:=by simp
     clear h hv ch hl ht
     go_enter Tryz.func107,Tryz.ntmps107
     go_wp2_with fail
     refine (pX _ _ _ _ _ _ H.out).mono ?_
     rintro e w1 ⟨rfl,rfl⟩
     rw [hk]
     go_wp2_with fail
     go_ret
     unfold qT;rw [HF.out];exact ⟨rfl,aj.refl _ _,H.out⟩
    | none =>
     have HF:Hid (Qu.push n R j y=(R.set j (R.getD j [] ++ [(y:Int)]),true)):=Lib.hid (by unfold Qu.push;rw [if_pos (by simp [hk,hl,h1]),Qu.Ap hj];rfl);obtain ⟨g1,o1,c1,g2,o2,c2,rfl,cM⟩:=h.raw (by omega) (by omega);have DS:=Qu.Ie hv hj (show 0≤(y:Int) by omega) (by omega) hl;have Aq:=Qu.PT hv hj (show 0≤(y:Int) by omega) (by omega) hl;rw [Int.toNat_natCast] at Aq;have kf:=fun z hz=>hv.bound z (Qu.pR hj (y:=z) hz)
     have lT:=fun z hz=>Qu.vr hv hj (y:=z) hz
     have DT:(y:Int)∉R.getD j []:=fun hm=>Qu.qR.1 hl (Qu.pR hj hm)
     have hlen:(R.getD j []).length≤64:=by
      have h1:=fun a=>Qu.count_le hj (R:=R) a
      have h2:=hv.one;have:=Qu.Ao (l:=R.getD j []) (n:=n) (fun a=>Nat.le_trans (h1 a) (h2 a)) kf;omega
     have qU:=Qu.DM hj;have xO:(Qu.ln R).length=R.length:=by simp [Qu.ln]
     obtain ⟨l,iS⟩:∃ l,R.getD j []=l:=⟨_,rfl⟩
     rw [iS] at Aq DS kf lT DT hlen qU HF;have ht:=Qu.An hl;have ua:=Qu.nE (R:=R) h1;rw [ht] at ua;obtain ⟨⟨e0,e1,e2⟩,f0,f1,f2⟩:=cM.aI ua;obtain ⟨⟨d0,d1,d2⟩,q0,q1,q2⟩:=cM.line qU;obtain ⟨nG,nJ⟩:=cM.head;rw [Qu.iG] at nG;rw [xO] at nJ;have HR:=Lib.hid cM;have Qb:=Lib.hid DS;have Ip:=Lib.hid Aq;have xR:=Lib.hid qU;have DU:=Lib.hid kf;have Qc:=Lib.hid lT;have Qd:=Lib.hid DT;obtain ⟨n1,n2,n3⟩:=(⟨cM.2.2.2.1,cM.2.2.2.2.1,cM.2.2.2.2.2⟩:b≠g1∧b≠g2∧g1≠g2)
     have Qe:g2≠g1:=fun e=>n3 e.symm
     have Qf:=hv.tX;simp only [Qu.lc] at d0 d1 d2;have Qg:(j:Int) < (R.length:Int):=by omega
     have Iq:(y:Int) < (n:Int):=by omega
     obtain ⟨la,iw⟩:∃ la,l.getLastD (-1)=la:=⟨_,rfl⟩
     rw [iw] at d1;have xS:=Lib.hid iw;clear h hv ch hl cM DS Aq qU kf lT DT ht ua iS xO iw
     go_enter Tryz.func107,Tryz.ntmps107
     go_wp2_with fail
     refine (pX _ _ _ _ _ _ H.out).mono ?_
     rintro e w1 ⟨rfl,rfl⟩
     rw [hk]
     go_upto_region 5 with fail
     go_cut [42] (fun _ w'=>cV w' b g1 o1 c1 g2 o2 c2 ((Qu.th n R).set y ((j:Int),-1,la)) (Qu.ln R)∧aj [b,g1,g2] w w')
     case first =>
      go_wp2_with fail
      go_region
      go_wp2_with fail
      go_meet
      exact ⟨(HR.out.DP (x:=y) (by rw [Qu.iG];exact h1) (j:Int) (-1) la).drew,((((aj.refl _ w).setCell (by simp) _).setCell (by simp) _).setCell (by simp) _).drew⟩
     case rest =>
      obtain ⟨qV,aS⟩:=hcut;have mI:=Lib.hid qV;have qX:=Lib.hid aS;obtain ⟨⟨d0,d1,d2⟩,q0,q1,q2⟩:=qV.line xR.out;simp only [Qu.lc] at d0 d1 d2;rw [xS.out] at d1;obtain ⟨nG,nJ⟩:=qV.head;rw [List.length_set,Qu.iG] at nG;rw [show (Qu.ln R).length=R.length by simp [Qu.ln]] at nJ;clear qV aS e0 e1 e2 f0 f1 f2;obtain ⟨q5,Qh⟩:∃ q,(la == -1)=q:=⟨_,rfl⟩
      have Ir:=Lib.hid Qh
      go_upto_if 58 with fail
      go_cut [42] (fun _ w'=>cV w' b g1 o1 c1 g2 o2 c2 (Qu.th n (R.set j (l ++ [(y:Int)]))) ((Qu.ln R).set j ((l ++ [(y:Int)]).headD (-1),la,(l.length:Int)))∧aj [b,g1,g2] w w')
      case first =>
       by_cases uc:l=[]
       ·subst uc;have It:la=-1:=xS.out.symm;obtain rfl:q5=true:=by rw [← Ir.out,It];rfl
        subst It;have HA:Hid (Qu.th n (R.set j ([] ++ [(y:Int)]))=(Qu.th n R).set y ((j:Int),-1,-1)):=Lib.hid (by have:=Ip.out;rwa [if_pos rfl] at this)
        go_wp2_with fail
        go_meet
        refine ⟨?_,(qX.out.setCell (by simp) _)⟩;have:=mI.out.l0 xR.out (y:Int);rw [HA.out];exact this
       ·have pS:la∈l:=by
         rw [← xS.out,List.getLastD_eq_getLast?,List.getLast?_eq_some_getLast uc];exact List.getLast_mem uc
        have DN:=DU.out la pS;obtain ⟨z,rfl⟩:=Int.eq_ofNat_of_zero_le DN.1;have vu:z < n:=by omega
        have Qi:y≠z:=fun e=>Qd.out (by rw [e];exact pS)
        have HA:Hid (Qu.th n (R.set j (l ++ [(y:Int)]))=((Qu.th n R).set y ((j:Int),-1,(z:Int))).set z ((j:Int),(y:Int),Qu.fP l (z:Int))):=Lib.hid (by
         have:=Ip.out;rw [if_neg uc,xS.out,Int.toNat_natCast] at this;exact this)
        have nK:((Qu.th n R).set y ((j:Int),-1,(z:Int)))[z]?=some ((j:Int),Qu.eJ l (z:Int),Qu.fP l (z:Int)):=by
         rw [List.getElem?_set_ne Qi,Qu.nE vu,Qc.out _ pS]
        have HZ:=Lib.hid nK;obtain ⟨⟨z0,z1,z2⟩,Iu,Iv,Iw⟩:=mI.out.aI nK;have Ix:(z:Int) < (n:Int):=by omega
        obtain rfl:q5=false:=by rw [← Ir.out];simp
        have Qj:Hid ((l ++ [(y:Int)]).headD (-1)=l.headD (-1)):=Lib.hid (Qu.P4 uc);clear pS DN nK uc;generalize Qu.eJ l (z:Int)=nz at *
        go_wp2_with fail
        go_region
        go_wp2_with fail
        go_meet
        refine ⟨?_,((qX.out.setCell (by simp) _).drew)⟩;have:=mI.out.t1 HZ.out (y:Int);rw [HA.out,Qj.out,show ((l.headD (-1),(z:Int),(l.length:Int)):Int × Int × Int)=Qu.lc l by unfold Qu.lc;rw [xS.out],List.Io xR.out];exact this.drew
      case rest =>
       obtain ⟨fS,aR⟩:=hcut;have ud:=Lib.hid fS;have ue:=Lib.hid aR;have Cw:j < (Qu.ln R).length:=by simp [Qu.ln];exact hj
       have gI:((Qu.ln R).set j ((l ++ [(y:Int)]).headD (-1),la,(l.length:Int)))[j]?=some ((l ++ [(y:Int)]).headD (-1),la,(l.length:Int)):=by simp [Cw]
       have Ar:=Lib.hid gI;obtain ⟨⟨d0,d1,d2⟩,q0,q1,q2⟩:=fS.line gI;have DV:Hid (Qu.ln (R.set j (l ++ [(y:Int)]))=(Qu.ln R).set j ((l ++ [(y:Int)]).headD (-1),(y:Int),(l.length:Int) + 1)):=Lib.hid (by
        rw [Qu.Ia];unfold Qu.lc;simp)
       clear fS aR gI Cw;generalize (l ++ [(y:Int)]).headD (-1)=hd at *
       go_wp2_with fail
       go_ret
       unfold qT;rw [HF.out];refine ⟨rfl,((ue.out.setCell (by simp) _).setCell (by simp) _),?_⟩;have r1:=ud.out.l1 Ar.out (y:Int);have r2:=r1.l2 (x:=j) (t:=(hd,(y:Int),(l.length:Int))) (by simp [Qu.ln,hj]) ((l.length:Int) + 1);simp only [List.set_set] at r2;exact r2.q rfl DV.out.symm Qb.out
   ·have HF:Hid (Qu.push n R j y=(R,false)):=Lib.hid (by unfold Qu.push;rw [if_neg];simp [h1]);clear h hv
    go_enter Tryz.func107,Tryz.ntmps107
    go_wp2_with fail
    refine (pX _ _ _ _ _ _ H.out).mono ?_
    rintro e w1 ⟨rfl,rfl⟩
    rw [hk]
    go_wp2_with fail
    go_ret
    unfold qT;rw [HF.out];exact ⟨rfl,aj.refl _ _,H.out⟩
open Go.RowKit
attribute [local go_sem ↓] Go.wp_at_zero Go.wp_at_succ
namespace Qu
theorem Iy {a:List Int} (h:a≠[]):a.getLastD (-1)∈a:=by
 rw [List.getLastD_eq_getLast?,List.getLast?_eq_some_getLast h];exact List.getLast_mem h
theorem Iz {b:List Int} (h:b≠[]):b.headD (-1)∈b:=by
 cases b with
 | nil=>exact absurd rfl h
 | cons z r=>simp
structure Qk (n:Nat) (R:List (List Int)) (k:Nat) (x:Int) (a b:List Int):Prop where
 x0:0≤x∧x < n
 tx:tc R x=((k:Int),b.headD (-1),a.getLastD (-1))
 pa:a≠[]→0≤a.getLastD (-1)∧a.getLastD (-1) < n∧a.getLastD (-1)≠x∧tc R (a.getLastD (-1))=((k:Int),x,fP a (a.getLastD (-1)))
 hb:b≠[]→0≤b.headD (-1)∧b.headD (-1) < n∧b.headD (-1)≠x∧tc R (b.headD (-1))=((k:Int),eJ b (b.headD (-1)),x)
 ab:a≠[]→b≠[]→a.getLastD (-1)≠b.headD (-1)
 len:(a ++ x :: b).length≤64
theorem Ql {n:Nat} {R:List (List Int)} {k:Nat} {x:Int} {a b:List Int} (v:Inv n R) (hk:k < R.length) (hl:R.getD k []=a ++ x :: b):Qk n R k x a b:=by
 have ho:∀ y,(a ++ x :: b).count y≤1:=fun y=>by rw [← hl];exact Nat.le_trans (count_le hk y) (v.one y)
 have kf:∀ y,y∈a ++ x :: b→0≤y∧y < n:=fun y hy=>v.bound y (pR hk (by rw [hl];exact hy))
 have lT:=fun y=>vr v hk (y:=y)
 rw [hl] at lT;have dN:∀ y,a.count y + ((if x=y then 1 else 0) + b.count y)≤1:=fun y=>by
  have:=ho y;rw [List.count_append,List.count_cons] at this
  by_cases e:x=y
  ·subst e;simp at this ⊢;omega
  ·have e2:(x == y)=false:=by simpa using e
   rw [e2] at this;rw [if_neg e];simp at this;omega
 have tY:x∉a:=fun h=>by have:=List.count_pos_iff.2 h;have:=dN x;rw [if_pos rfl] at this;omega
 have xM:x∉b:=fun h=>by have:=List.count_pos_iff.2 h;have:=dN x;rw [if_pos rfl] at this;omega
 have qS:∀ y,y∈a→y∉b:=fun y h1 h2=>by
  have:=List.count_pos_iff.2 h1;have:=List.count_pos_iff.2 h2;have:=dN y;omega
 have ca:∀ y,a.count y≤1:=fun y=>by have:=dN y;omega
 refine ⟨kf x (by simp),?_,fun h=>?_,fun h=>?_,fun h1 h2 e=>qS _ (Iy h1) (by rw [e];exact Iz h2),?_⟩
 ·rw [lT x (by simp),vn tY,fP,xH tY,eJ,if_pos rfl,js,if_pos rfl]
 ·have hm:=Iy h;have h2:=kf _ (List.mem_append_left _ hm);refine ⟨h2.1,h2.2,fun e=>tY (e ▸ hm),?_⟩;rw [lT _ (List.mem_append_left _ hm),xG hm (ca _),if_pos rfl,vq hm];rfl
 ·have hm:=Iz h;have h2:=kf _ (List.mem_append_right _ (List.mem_cons_of_mem _ hm));have br:b.headD (-1)≠x:=fun e=>xM (e ▸ hm)
  have IA:b.headD (-1)∉a:=fun e=>qS _ e hm
  refine ⟨h2.1,h2.2,br,?_⟩;rw [lT _ (List.mem_append_right _ (List.mem_cons_of_mem _ hm)),vn IA,fP,xH IA,eJ,if_neg (fun e=>br e.symm),js,if_neg (fun e=>br e.symm),H8 (q:=x) hm,if_pos rfl]
 ·have:=Ao ho kf;have:=v.tW;omega
def drop (R:List (List Int)) (x:Int):List (List Int) × Bool:=match loc R x with
 | some k=>(R.set k ((R.getD k []).filter (fun y=>y != x)),true)
 | none=>(R,false)
theorem Qm {x:Int} {a b:List Int} (h1:x∉a) (h2:x∉b):(a ++ x :: b).filter (fun y=>y != x)=a ++ b:=by
 rw [List.filter_append,List.filter_cons];have e1:a.filter (fun y=>y != x)=a:=List.filter_eq_self.2 (fun y hy=>by simp;exact fun e=>h1 (e ▸ hy));have e2:b.filter (fun y=>y != x)=b:=List.filter_eq_self.2 (fun y hy=>by simp;exact fun e=>h2 (e ▸ hy));rw [e1,e2];simp
theorem Qn {n:Nat} {R:List (List Int)} {x:Int} {k:Nat} (v:Inv n R) (h:loc R x=some k):∃ a b,k < R.length∧R.getD k []=a ++ x :: b∧drop R x=(R.set k (a ++ b),true):=by
 obtain ⟨hk,hm⟩:=xI h;obtain ⟨a,b,hl,tY⟩:=PV hm;have ho:(a ++ x :: b).count x≤1:=by rw [← hl];exact Nat.le_trans (count_le hk x) (v.one x)
 have xM:x∉b:=fun hb=>by
  have:=List.count_pos_iff.2 hb;rw [List.count_append,List.count_cons_self] at ho;omega
 refine ⟨a,b,hk,hl,?_⟩;unfold drop;rw [h];simp only [hl,Qm tY xM]
end Qu
theorem As (w:World) (cs:List Value) (e:TypeId) (b:Nat) (hb:b=w.heap.size):cI (w.alloc (.cells cs.toArray e)) b cs e:=by subst hb;exact cI.new w cs e
theorem Qo (w:World) (cs:List Value) (e:TypeId):cI (w.alloc (.cells cs.toArray e)) w.heap.size cs e:=cI.new w cs e
theorem cV.then {w w':World} {b g1 o1 c1 g2 o2 c2:Nat} {A B:List (Int × Int × Int)} (h:cV w b g1 o1 c1 g2 o2 c2 A B) (k:aj [] w w'):cV w' b g1 o1 c1 g2 o2 c2 A B :=
 ⟨h.1.aT k (by simp),h.2.1.then k,h.2.2.1.then k,h.2.2.2⟩
theorem Qu.Qp {a b:List Int} {y:Int} (h:a≠[]):(a ++ b).headD (-1)=(a ++ y :: b).headD (-1):=by
 cases a with
 | nil=>exact absurd rfl h
 | cons z r=>rfl
theorem Qu.IB {a b:List Int} (h:b≠[]):(a ++ b).getLastD (-1)=b.getLastD (-1):=by
 rw [List.getLastD_eq_getLast?,List.getLastD_eq_getLast?,List.getLast?_append,List.getLast?_eq_some_getLast h];rfl
theorem Qu.Qr {y:Int} {b:List Int} (h:b≠[]):(y :: b).getLastD (-1)=b.getLastD (-1):=by
 cases b with
 | nil=>exact absurd rfl h
 | cons z r=>simp [List.getLastD_eq_getLast?]
set_option maxRecDepth 100000 in
set_option maxHeartbeats 3200000 in
theorem Qv (w:World) (p:Value) (n:Nat) (R:List (List Int)) (S:List Nat) (x:Int) (h:Qq w p n R S) :
  Calls Tryz.prog 111 #[p,.int .i64 x] w (qT (Qu.drop R x) p n S w):=by
 obtain ⟨b,rfl⟩:=h.shape;have H:=Lib.hid h;have hv:=h.inv
 cases hl:Qu.loc R x with
 | none =>
  have HF:Hid (Qu.drop R x=(R,false)):=Lib.hid (by unfold Qu.drop;rw [hl]);have HI:Hid (Qu.nF R x=(0,false)):=Lib.hid (by unfold Qu.nF;rw [hl]);clear h hv hl
  go_enter Tryz.func111,Tryz.ntmps111
  go_wp2_with fail
  refine (Im _ _ _ _ _ _ H.out).mono ?_
  rintro e w1 ⟨rfl,rfl⟩
  rw [HI.out]
  go_wp2_with fail
  go_ret
  unfold qT;rw [HF.out];exact ⟨rfl,aj.refl _ _,H.out⟩
 | some k =>
  obtain ⟨a,bb,hk,iu,he⟩:=Qu.Qn hv hl;have F:=Qu.Ql hv hk iu;have HI:Hid (Qu.nF R x=((k:Int),true)):=Lib.hid (by unfold Qu.nF;rw [hl]);obtain ⟨y,rfl⟩:=Int.eq_ofNat_of_zero_le F.x0.1;have At:y < n:=by have:=F.x0.2;omega
  obtain ⟨g1,o1,c1,g2,o2,c2,rfl,cM⟩:=h.raw (by omega) (by omega);have uf:=Qu.PW hv hk iu;rw [Int.toNat_natCast] at uf;have Qw:=Lib.hid (Qu.Ig hv hk iu);have ua:=Qu.nE (R:=R) At;rw [F.tx] at ua;have qU:=Qu.DM hk;rw [iu] at qU;have xO:(Qu.ln R).length=R.length:=by simp [Qu.ln]
  obtain ⟨⟨e0,e1,e2⟩,f0,f1,f2⟩:=cM.aI ua;obtain ⟨⟨d0,d1,d2⟩,q0,q1,q2⟩:=cM.line qU;obtain ⟨nG,nJ⟩:=cM.head;rw [Qu.iG] at nG;rw [xO] at nJ;have cA:=h.lt;have HR:=Lib.hid cM;have Qx:=Lib.hid uf;have xR:=Lib.hid qU;have HF:=Lib.hid F;have HE:=Lib.hid he;obtain ⟨n1,n2,n3⟩:=(⟨cM.2.2.2.1,cM.2.2.2.2.1,cM.2.2.2.2.2⟩:b≠g1∧b≠g2∧g1≠g2)
  have Qe:g2≠g1:=fun e=>n3 e.symm
  have m1:b < w.heap.size:=cA b (by simp);have m2:g1 < w.heap.size:=cA g1 (by simp);have m3:g2 < w.heap.size:=cA g2 (by simp);have m4:w.heap.size≠b:=by omega
  have m5:w.heap.size≠g1:=by omega
  have m6:w.heap.size≠g2:=by omega
  have Qf:=hv.tX;have Qy:=hv.tW;have Qz:(k:Int) < (R.length:Int):=by omega
  have Iq:(y:Int) < (n:Int):=by omega
  have hlen:=F.len;obtain ⟨L,hL⟩:∃ L,(a ++ (y:Int) :: bb).length=L + 1:=⟨a.length + bb.length,by simp;omega⟩
  have HL:=Lib.hid hL;simp only [Qu.lc] at d0 d1 d2;rw [hL] at d2 hlen;obtain ⟨pa,Au⟩:∃ pa,a.getLastD (-1)=pa:=⟨_,rfl⟩
  obtain ⟨hb,pU⟩:∃ hb,bb.headD (-1)=hb:=⟨_,rfl⟩
  rw [Au] at e2;rw [pU] at e1;simp only at e0 e1 e2;have Av:=Lib.hid Au;have DW:=Lib.hid pU;obtain ⟨qa,QA⟩:∃ q,(pa == -1)=q:=⟨_,rfl⟩
  obtain ⟨qb,QB⟩:∃ q,(hb == -1)=q:=⟨_,rfl⟩
  have IC:Hid (qa=decide (a=[])):=Lib.hid (by
   rw [← QA,← Au,Bool.eq_iff_iff]
   by_cases ha:a=[]
   ·subst ha;simp
   ·have:=F.pa ha;simp only [beq_iff_eq,decide_eq_true_eq,ha,iff_false];omega)
  have ID:Hid (qb=decide (bb=[])):=Lib.hid (by
   rw [← QB,← pU,Bool.eq_iff_iff]
   by_cases ha:bb=[]
   ·subst ha;simp
   ·have:=F.hb ha;simp only [beq_iff_eq,decide_eq_true_eq,ha,iff_false];omega)
  clear h hv hl cM uf ua qU xO cA F he iu hL Au pU
  go_enter Tryz.func111,Tryz.ntmps111
  go_wp2_with fail
  refine (Im _ _ _ _ _ _ H.out).mono ?_
  rintro e w1 ⟨rfl,rfl⟩
  rw [HI.out]
  go_upto_if 32 with fail
  go_cut [40] (fun _ w'=>cV w' b g1 o1 c1 g2 o2 c2 (if a=[] then Qu.th n R else (Qu.th n R).set pa.toNat ((k:Int),hb,Qu.fP a pa)) ((Qu.ln R).set k ((a ++ bb).headD (-1),(a ++ (y:Int) :: bb).getLastD (-1),(L:Int) + 1))∧aj [b,g1,g2] w w'∧cI w' w.heap.size [.int .i64 k,.int .i64 hb,.int .i64 pa] 151)
  case first =>
   have xT:=HR.out.then ((aj.refl [] w).alloc (.cells #[.int .i64 k,.int .i64 hb,.int .i64 pa] 151));have QC:=Lib.hid xT;have jQ:=Qo w [.int .i64 k,.int .i64 hb,.int .i64 pa] 151;have QD:=Lib.hid jQ;have iS:(a ++ (y:Int) :: bb).length=L + 1:=HL.out;have DX:Hid ((Qu.ln R)[k]?=some ((a ++ (y:Int) :: bb).headD (-1),(a ++ (y:Int) :: bb).getLastD (-1),(L:Int) + 1)):=Lib.hid (by rw [xR.out];unfold Qu.lc;rw [iS];simp);obtain ⟨⟨a0,a1,a2⟩,p0,p1,p2⟩:=xT.line DX.out;obtain ⟨x0,x1⟩:=xT.head;rw [Qu.iG] at x0;rw [show (Qu.ln R).length=R.length by simp [Qu.ln]] at x1;have b1:(w.alloc (.cells #[.int .i64 k,.int .i64 hb,.int .i64 pa] 151)).cell? ⟨w.heap.size,1,none⟩=some (.int .i64 hb):=jQ.cell 1;have b2:(w.alloc (.cells #[.int .i64 k,.int .i64 hb,.int .i64 pa] 151)).cell? ⟨w.heap.size,2,none⟩=some (.int .i64 pa):=jQ.cell 2;clear xT jQ iS;generalize (a ++ (y:Int) :: bb).getLastD (-1)=ZC at *
   cases qa with
   | true =>
    have ha:a=[]:=by have:=IC.out;simpa using this
    subst ha;have DY:Hid (([] ++ bb).headD (-1)=hb):=Lib.hid (by rw [List.nil_append];exact DW.out)
    go_wp2_with fail
    go_meet
    refine ⟨?_,(((aj.refl _ w).setCell (by simp) _).alloc _),As _ _ _ _ (by simp)⟩;rw [if_pos trivial,DY.out];exact (HR.out.l0 DX.out hb).then ((aj.refl [] _).alloc _)
   | false =>
    have ha:a≠[]:=by have:=IC.out;simpa using this
    have hf:=HF.out.pa ha;rw [Av.out] at hf;obtain ⟨z,rfl⟩:=Int.eq_ofNat_of_zero_le hf.1;have vu:z < n:=by omega
    have nK:=Qu.nE (R:=R) vu;rw [hf.2.2.2] at nK;have HZ:=Lib.hid nK;obtain ⟨⟨z0,z1,z2⟩,Iu,Iv,Iw⟩:=QC.out.aI nK;have Ix:(z:Int) < (n:Int):=by omega
    have DY:Hid ((a ++ bb).headD (-1)=(a ++ (y:Int) :: bb).headD (-1)):=Lib.hid (Qu.Qp ha);have DZ:=Lib.hid ha;clear nK hf ha
    go_wp2_with fail
    go_region
    go_wp2_with fail
    go_meet
    refine ⟨?_,((((aj.refl _ w).setCell (by simp) _).alloc _).drew),(As _ _ _ _ (by simp)).drew⟩;rw [if_neg DZ.out,DY.out,Int.toNat_natCast,List.Io DX.out];exact ((HR.out.t1 HZ.out hb).then ((aj.refl [] _).alloc _)).drew
  case rest =>
   obtain ⟨qV,aS,jQ⟩:=hcut;have mI:=Lib.hid qV;have qX:=Lib.hid aS;have QD:=Lib.hid jQ;have fR:k < (Qu.ln R).length:=by simp [Qu.ln];omega
   have IE:Hid (((Qu.ln R).set k ((a ++ bb).headD (-1),(a ++ (y:Int) :: bb).getLastD (-1),(L:Int) + 1))[k]?=some ((a ++ bb).headD (-1),(a ++ (y:Int) :: bb).getLastD (-1),(L:Int) + 1)):=Lib.hid (by simp [fR]);obtain ⟨⟨a0,a1,a2⟩,p0,p1,p2⟩:=qV.line IE.out;obtain ⟨x0,x1⟩:=qV.head;rw [show (if a=[] then Qu.th n R else (Qu.th n R).set pa.toNat ((k:Int),hb,Qu.fP a pa)).length=n by split <;> simp [Qu.iG]] at x0;rw [List.length_set,show (Qu.ln R).length=R.length by simp [Qu.ln]] at x1;have b1:wc.cell? ⟨w.heap.size,1,none⟩=some (.int .i64 hb):=jQ.cell 1;have b2:wc.cell? ⟨w.heap.size,2,none⟩=some (.int .i64 pa):=jQ.cell 2;clear qV aS jQ e0 e1 e2 f0 f1 f2 d0 d1 d2 q0 q1 q2 nG nJ
   go_upto_if 50 with fail
   go_cut [60] (fun _ w'=>cV w' b g1 o1 c1 g2 o2 c2 (if bb=[] then (if a=[] then Qu.th n R else (Qu.th n R).set pa.toNat ((k:Int),hb,Qu.fP a pa)) else (if a=[] then Qu.th n R else (Qu.th n R).set pa.toNat ((k:Int),hb,Qu.fP a pa)).set hb.toNat ((k:Int),Qu.eJ bb hb,pa)) ((Qu.ln R).set k ((a ++ bb).headD (-1),(a ++ bb).getLastD (-1),(L:Int) + 1))∧aj [b,g1,g2] w w')
   case first =>
    generalize (a ++ bb).headD (-1)=hd at *
    cases qb with
    | true =>
     have ha:bb=[]:=by have:=ID.out;simpa using this
     subst ha;have iw:Hid ((a ++ []).getLastD (-1)=pa):=Lib.hid (by rw [List.append_nil];exact Av.out)
     go_wp2_with fail
     go_meet
     refine ⟨?_,(qX.out.setCell (by simp) _)⟩;rw [if_pos trivial,iw.out];have:=mI.out.l1 IE.out pa;simp only [List.set_set] at this;exact this
    | false =>
     have ha:bb≠[]:=by have:=ID.out;simpa using this
     have hf:=HF.out.hb ha;have qS:=HF.out.ab;have oE:=HF.out.pa;rw [DW.out] at hf qS;rw [Av.out] at qS oE;obtain ⟨z,rfl⟩:=Int.eq_ofNat_of_zero_le hf.1;have vu:z < n:=by omega
     have nK:(if a=[] then Qu.th n R else (Qu.th n R).set pa.toNat ((k:Int),(z:Int),Qu.fP a pa))[z]?=some ((k:Int),Qu.eJ bb (z:Int),(y:Int)):=by
      rw [← hf.2.2.2]
      split
      ·exact Qu.nE vu
      ·rename_i h1;have:=qS h1 ha;have:=oE h1;rw [List.getElem?_set_ne (by omega)];exact Qu.nE vu
     have HZ:=Lib.hid nK;obtain ⟨⟨z0,z1,z2⟩,Iu,Iv,Iw⟩:=mI.out.aI nK;have Ix:(z:Int) < (n:Int):=by omega
     have iw:Hid ((a ++ bb).getLastD (-1)=(a ++ (y:Int) :: bb).getLastD (-1)):=Lib.hid (by rw [Qu.IB ha,Qu.IB (by simp),Qu.Qr ha]);have DZ:=Lib.hid ha;clear nK hf ha qS oE;generalize Qu.eJ bb (z:Int)=nz at *
     go_wp2_with fail
     go_region
     go_wp2_with fail
     go_meet
     refine ⟨?_,((qX.out.setCell (by simp) _).drew)⟩;rw [if_neg DZ.out,iw.out,Int.toNat_natCast];exact (mI.out.t2 HZ.out pa).drew
   case rest =>
    obtain ⟨fS,aR⟩:=hcut;have ud:=Lib.hid fS;have ue:=Lib.hid aR;have Ar:Hid (((Qu.ln R).set k ((a ++ bb).headD (-1),(a ++ bb).getLastD (-1),(L:Int) + 1))[k]?=some ((a ++ bb).headD (-1),(a ++ bb).getLastD (-1),(L:Int) + 1)):=Lib.hid (by simp [fR]);obtain ⟨⟨a0,a1,a2⟩,p0,p1,p2⟩:=fS.line Ar.out;obtain ⟨x0,x1⟩:=fS.head;rw [show (if bb=[] then (if a=[] then Qu.th n R else (Qu.th n R).set pa.toNat ((k:Int),hb,Qu.fP a pa)) else (if a=[] then Qu.th n R else (Qu.th n R).set pa.toNat ((k:Int),hb,Qu.fP a pa)).set hb.toNat ((k:Int),Qu.eJ bb hb,pa)).length=n by split <;> split <;> simp [Qu.iG]] at x0;rw [List.length_set,show (Qu.ln R).length=R.length by simp [Qu.ln]] at x1;have IF:(a ++ bb).length=L:=by have:=HL.out;simp at this ⊢;omega
    have DV:Hid (Qu.ln (R.set k (a ++ bb))=(Qu.ln R).set k ((a ++ bb).headD (-1),(a ++ bb).getLastD (-1),(L:Int))):=Lib.hid (by
     rw [Qu.Ia];unfold Qu.lc;rw [IF])
    have D6:y < (if bb=[] then (if a=[] then Qu.th n R else (Qu.th n R).set pa.toNat ((k:Int),hb,Qu.fP a pa)) else (if a=[] then Qu.th n R else (Qu.th n R).set pa.toNat ((k:Int),hb,Qu.fP a pa)).set hb.toNat ((k:Int),Qu.eJ bb hb,pa)).length:=by split <;> split <;> (simp [Qu.iG];exact At)
    have QE:=Lib.hid D6;obtain ⟨tt,IG⟩:=(⟨_,List.getElem?_eq_getElem D6⟩:∃ tt,(if bb=[] then (if a=[] then Qu.th n R else (Qu.th n R).set pa.toNat ((k:Int),hb,Qu.fP a pa)) else (if a=[] then Qu.th n R else (Qu.th n R).set pa.toNat ((k:Int),hb,Qu.fP a pa)).set hb.toNat ((k:Int),Qu.eJ bb hb,pa))[y]?=some tt)
    obtain ⟨⟨t0,t1,t2⟩,ZD,ZE,ZF⟩:=fS.aI IG;clear fS aR IF D6 IG;have uf:=Qx.out;rw [Av.out,DW.out] at uf;have QF:=Lib.hid uf;clear uf;generalize (a ++ bb).headD (-1)=hd at *;generalize (a ++ bb).getLastD (-1)=la at *;generalize (if bb=[] then (if a=[] then Qu.th n R else (Qu.th n R).set pa.toNat ((k:Int),hb,Qu.fP a pa)) else (if a=[] then Qu.th n R else (Qu.th n R).set pa.toNat ((k:Int),hb,Qu.fP a pa)).set hb.toNat ((k:Int),Qu.eJ bb hb,pa))=A2 at *
    go_wp2_with fail
    go_ret
    unfold qT;rw [HE.out];refine ⟨rfl,((((ue.out.setCell (by simp) _).setCell (by simp) _).setCell (by simp) _).setCell (by simp) _),?_⟩;have r1:=ud.out.l2 Ar.out ((L:Int));have r2:=r1.DP (x:=y) QE.out (-1) (-1) (-1);simp only [List.set_set] at r2;exact r2.q QF.out.symm DV.out.symm Qw.out
end Go.Proofs.YtofnbflkhgammaaGreat
