/-
  What the laws need, part A8.
  Conditions: none.
-/
import Derived.Test.YtdjhhbpedllnhaaGreatA7
import Derived.Deep.DrawnRows
set_option linter.unusedVariables false
set_option linter.unusedSimpArgs false
set_option linter.unnecessarySimpa false
set_option maxHeartbeats 2000000
namespace Go.Proofs.YtdjhhbpedllnhaaGreat
namespace Qu
def fy:List Int→Int→Int
 | [],_=>-1
 | a :: l,x=>if a=x then l.headD (-1) else fy l x
def jQ:Int→List Int→Int→Int
 | _,[],_=>-1
 | p,a :: l,x=>if a=x then p else jQ a l x
def gq (l:List Int) (x:Int):Int:=jQ (-1) l x
def loc:List (List Int)→Int→Option Nat
 | [],_=>none
 | l :: r,x=>if x∈l then some 0 else (loc r x).map (· + 1)
def tc (R:List (List Int)) (x:Int):Int × Int × Int :=
 match loc R x with
 | some k=>(k,fy (R.getD k []) x,gq (R.getD k []) x)
 | none=>(-1,-1,-1)
def th (n:Nat) (R:List (List Int)):List (Int × Int × Int):=(List.range n).map fun (x:Nat)=>tc R (x:Int)
def lc (l:List Int):Int × Int × Int:=(l.headD (-1),l.getLastD (-1),(l.length:Int))
def ln (R:List (List Int)):List (Int × Int × Int):=R.map lc
structure Inv (n:Nat) (R:List (List Int)):Prop where
 uP:n≤64
 tD:R.length≤64
 one:∀ a,R.flatten.count a≤1
 bound:∀ a,a∈R.flatten→0≤a∧a < n
theorem yK {a b:List Int} {y:Int} (h:y∈a) (hd:a.count y≤1):fy (a ++ b) y=if a.getLastD (-1)=y then b.headD (-1) else fy a y:=by
 induction a with
 | nil=>simp at h
 | cons z r ih =>
  by_cases e:z=y
  ·subst e;rw [List.count_cons_self] at hd;have hr:z∉r:=fun hm=>by have:=List.count_pos_iff.2 hm;omega
   cases r with
   | nil=>simp [fy]
   | cons u s =>
    have hl:(z :: u :: s).getLastD (-1)≠z:=by
     rw [List.getLastD_eq_getLast?,List.getLast?_cons_cons];intro hc;apply hr;rw [← hc,List.getLast?_eq_some_getLast (by simp)];exact List.getLast_mem _
    rw [if_neg hl];simp [fy]
  ·have hm:y∈r:=by
    rcases List.mem_cons.1 h with h | h
    ·exact absurd h.symm e
    ·exact h
   rw [List.count_cons_of_ne (by simpa using e)] at hd;have:=ih hm hd
   cases r with
   | nil=>simp at hm
   | cons u s =>
    rw [List.cons_append,fy,if_neg e,this];rw [show (z :: u :: s).getLastD (-1)=(u :: s).getLastD (-1) by simp [List.getLastD_eq_getLast?]];rw [show fy (z :: u :: s) y=fy (u :: s) y by rw [fy,if_neg e]]
theorem wI {a b:List Int} {y:Int} (h:y∉a):fy (a ++ b) y=fy b y:=by
 induction a with
 | nil=>rfl
 | cons z r ih =>
  simp only [List.mem_cons,not_or] at h;rw [List.cons_append,fy,if_neg (fun e=>h.1 e.symm),ih h.2]
theorem Rj {a b:List Int} {y:Int} (h:y∈a):∀ p,jQ p (a ++ b) y=jQ p a y:=by
 induction a with
 | nil=>simp at h
 | cons z r ih =>
  intro p;rw [List.cons_append,jQ,jQ]
  by_cases e:z=y
  ·rw [if_pos e,if_pos e]
  ·rw [if_neg e,if_neg e];rcases List.mem_cons.1 h with h | h
   ·exact absurd h.symm e
   ·exact ih h z
theorem wJ {a b:List Int} {y:Int} (h:y∈a):gq (a ++ b) y=gq a y:=Rj h (-1)
theorem yL {a b:List Int} {y:Int} (h:y∉a):∀ p,jQ p (a ++ b) y=jQ (a.getLastD p) b y:=by
 induction a with
 | nil=>intro p;rfl
 | cons z r ih =>
  intro p;simp only [List.mem_cons,not_or] at h;rw [List.cons_append,jQ,if_neg (fun e=>h.1 e.symm),ih h.2,List.getLastD_cons]
theorem Jd {b:List Int} {y p q:Int} (h:y∈b):jQ p b y=if b.headD (-1)=y then p else jQ q b y:=by
 cases b with
 | nil=>simp at h
 | cons z r =>
  show jQ p (z :: r) y=if z=y then p else jQ q (z :: r) y
  rw [jQ,jQ]
  by_cases e:z=y
  ·rw [if_pos e,if_pos e]
  ·rw [if_neg e,if_neg e,if_neg e]
theorem yM {R:List (List Int)} {x:Int} {k:Nat} (h:loc R x=some k):k < R.length∧x∈R.getD k []:=by
 induction R generalizing k with
 | nil=>simp [loc] at h
 | cons l r ih =>
  rw [loc] at h
  split at h
  ·rename_i hm;obtain rfl:=Option.some.inj h;exact ⟨by simp,by simpa using hm⟩
  ·obtain ⟨j,hj,rfl⟩:=Option.map_eq_some_iff.1 h;have:=ih hj;exact ⟨by simp;omega,by simpa using this.2⟩
theorem qD {R:List (List Int)} {x:Int}:loc R x=none↔x∉R.flatten:=by
 induction R with
 | nil=>simp [loc]
 | cons l r ih =>
  rw [loc]
  by_cases h:x∈l
  ·rw [if_pos h];simp [h]
  ·rw [if_neg h];simp only [Option.map_eq_none_iff,List.flatten_cons,List.mem_append,h,false_or];exact ih
theorem Bu {R:List (List Int)} {x:Int} (h1:R.flatten.count x≤1) {k:Nat} (hk:k < R.length) (hx:x∈R.getD k []):loc R x=some k:=by
 induction R generalizing k with
 | nil=>simp at hk
 | cons l r ih =>
  rw [loc];rw [List.flatten_cons,List.count_append] at h1
  cases k with
  | zero=>rw [if_pos (by simpa using hx)]
  | succ k =>
   have fN:x∈r.getD k []:=by simpa using hx
   have Ey:k < r.length:=by simpa using hk
   have hf:x∈r.flatten:=by
    rw [List.getD_eq_getElem?_getD,List.getElem?_eq_getElem Ey] at fN;exact List.mem_flatten.2 ⟨r[k],List.getElem_mem Ey,by simpa using fN⟩
   have h2:=List.count_pos_iff.2 hf;have hl:x∉l:=fun h=>by have:=List.count_pos_iff.2 h;omega
   rw [if_neg hl,ih (by omega) Ey fN];rfl
theorem count_set (a:Int):∀ (C:List (List Int)) (g:Nat) (c c':List Int),C[g]?=some c→(C.set g c').flatten.count a + c.count a=C.flatten.count a + c'.count a
 | [],g,c,c',h=>by simp at h
 | y :: r,0,c,c',h=>by
  simp at h;subst h;simp [List.count_append];omega
 | y :: r,g + 1,c,c',h=>by
  have:=count_set a r g c c' (by simpa using h);simp [List.count_append];omega
theorem getD_some {R:List (List Int)} {k:Nat} (h:k < R.length):R[k]?=some (R.getD k []):=by
 rw [List.getD_eq_getElem?_getD,List.getElem?_eq_getElem h];rfl
theorem count_le {R:List (List Int)} {k:Nat} (h:k < R.length) (a:Int):(R.getD k []).count a≤R.flatten.count a:=by
 have:=count_set a R k _ [] (getD_some h);simp at this ⊢;omega
theorem mL {R:List (List Int)} {k j:Nat} {l:List Int} (h:k < R.length):(R.set k l).getD j []=if k=j then l else R.getD j []:=by
 by_cases e:k=j
 ·subst e;simp [h]
 ·simp [List.getD,e]
theorem Je {n:Nat} {R:List (List Int)} {k:Nat} {l':List Int} (v:Inv n R) (v':Inv n (R.set k l')) (hk:k < R.length) (y:Int) :
  loc (R.set k l') y=if y∈l' then some k else if loc R y=some k then none else loc R y:=by
 by_cases h:y∈l'
 ·rw [if_pos h];exact Bu (v'.one y) (by simpa using hk) (by rw [mL hk,if_pos rfl];exact h)
 ·rw [if_neg h]
  cases hl:loc (R.set k l') y with
  | none =>
   split
   ·rfl
   ·rename_i h2;have hf:=qD.1 hl
    cases hr:loc R y with
    | none=>rfl
    | some j =>
     obtain ⟨hj,nt⟩:=yM hr;have Ez:k≠j:=fun e=>h2 (by rw [hr,e])
     exact absurd (List.mem_flatten.2 ⟨R.getD j [],List.mem_of_getElem? (i:=j) (by rw [List.getElem?_set_ne Ez];exact getD_some hj),nt⟩) hf
  | some j =>
   obtain ⟨hj,nt⟩:=yM hl;rw [mL hk] at nt
   split at nt
   ·exact absurd nt h
   ·rename_i Ez;have eP:j < R.length:=by simpa using hj
    have:=Bu (v.one y) eP nt;rw [this,if_neg (by simpa using fun e=>Ez e.symm)]
theorem iZ (n:Nat) (R:List (List Int)):(th n R).length=n:=by simp [th]
theorem ou {n:Nat} {R:List (List Int)} {x:Nat} (h:x < n):(th n R)[x]?=some (tc R (x:Int)):=by simp [th,h]
theorem Bv {n:Nat} {R:List (List Int)} {l:List (Int × Int × Int)} (hl:l.length=n) (h:∀ x:Nat,x < n→l[x]?=some (tc R (x:Int))):l=th n R:=by
 apply List.ext_getElem?;intro i
 by_cases hi:i < n
 ·rw [h i hi,ou hi]
 ·rw [List.getElem?_eq_none (by omega),List.getElem?_eq_none (by rw [iZ];omega)]
theorem Jf (R:List (List Int)) (k:Nat) (l:List Int):ln (R.set k l)=(ln R).set k (lc l):=by simp [ln,List.map_set]
theorem EA {R:List (List Int)} {k:Nat} (h:k < R.length):(ln R)[k]?=some (lc (R.getD k [])):=by
 simp only [ln,List.getElem?_map,getD_some h,Option.map_some]
theorem wK {n:Nat} {R:List (List Int)} (v:Inv n R) {k:Nat} (hk:k < R.length) {y:Int} (hy:y∈R.getD k []):tc R y=((k:Int),fy (R.getD k []) y,gq (R.getD k []) y):=by
 unfold tc;rw [Bu (v.one y) hk hy]
theorem Bw {R:List (List Int)} {y:Int} (h:loc R y=none):tc R y=(-1,-1,-1):=by unfold tc;rw [h]
theorem Jg {n:Nat} {R:List (List Int)} {k:Nat} {l':List Int} (v:Inv n R) (v':Inv n (R.set k l')) (hk:k < R.length) {y:Int} (h1:y∉l') (h2:y∉R.getD k []):tc (R.set k l') y=tc R y:=by
 have h:=Je v v' hk y;rw [if_neg h1] at h;have h3:loc R y≠some k:=fun e=>h2 (yM e).2
 rw [if_neg h3] at h;unfold tc;rw [h]
 cases hl:loc R y with
 | none=>rfl
 | some j =>
  have hj:k≠j:=fun e=>h3 (by rw [hl,e])
  simp only [mL hk,if_neg hj]
theorem Jh {n:Nat} {R:List (List Int)} {k:Nat} {l':List Int} (v:Inv n R) (v':Inv n (R.set k l')) (hk:k < R.length) {y:Int} (h1:y∈l'):tc (R.set k l') y=((k:Int),fy l' y,gq l' y):=by
 have:=wK v' (k:=k) (by simpa using hk) (y:=y) (by rw [mL hk,if_pos rfl];exact h1)
 rwa [mL hk,if_pos rfl] at this
theorem Rk {n:Nat} {R:List (List Int)} {k:Nat} {l':List Int} (v:Inv n R) (v':Inv n (R.set k l')) (hk:k < R.length) {y:Int} (h1:y∉l') (h2:y∈R.getD k []):tc (R.set k l') y=(-1,-1,-1):=by
 have h:=Je v v' hk y;rw [if_neg h1,if_pos (Bu (v.one y) hk h2)] at h;exact Bw h
theorem qE {R:List (List Int)} {k:Nat} (hk:k < R.length) {y:Int} (hy:y∈R.getD k []):y∈R.flatten :=
 List.mem_flatten.2 ⟨_,List.mem_of_getElem? (getD_some hk),hy⟩
theorem Ji {n:Nat} {R:List (List Int)} {k:Nat} {x:Int} (v:Inv n R) (hk:k < R.length) (h0:0≤x) (h1:x < n) (hx:loc R x=none):Inv n (R.set k (R.getD k [] ++ [x])):=by
 have hf:=qD.1 hx;refine ⟨v.uP,by simpa using v.tD,fun a=>?_,fun a ha=>?_⟩
 ·have h:=count_set a R k _ (R.getD k [] ++ [x]) (getD_some hk);have h2:=v.one a;rw [List.count_append,List.count_singleton] at h
  by_cases e:x=a
  ·subst e;have:R.flatten.count x=0:=List.count_eq_zero.2 hf;simp at h;simp;omega
  ·simp [e] at h;simp;omega
 ·have h:=count_set a R k _ (R.getD k [] ++ [x]) (getD_some hk);have h2:=List.count_pos_iff.2 ha;rw [List.count_append,List.count_singleton] at h
  by_cases e:x=a
  ·subst e;exact ⟨h0,h1⟩
  ·have e2:(x == a)=false:=by simpa using e
   rw [e2] at h;apply v.bound;apply List.count_pos_iff.1;simp only [Bool.false_eq_true,if_false] at h;omega
theorem Rl {n:Nat} {R:List (List Int)} {k:Nat} {x:Int} (v:Inv n R) (hk:k < R.length) (h0:0≤x) (h1:x < n) (hx:loc R x=none) :
  th n (R.set k (R.getD k [] ++ [x]))=if R.getD k []=[] then (th n R).set x.toNat ((k:Int),-1,-1)
   else ((th n R).set x.toNat ((k:Int),-1,(R.getD k []).getLastD (-1))).set ((R.getD k []).getLastD (-1)).toNat ((k:Int),x,gq (R.getD k []) ((R.getD k []).getLastD (-1))):=by
 have v':=Ji v hk h0 h1 hx;have hf:=qD.1 hx;have kB:x∉R.getD k []:=fun h=>hf (qE hk h)
 have ho:=v.one;have hb:=v.bound;have bY:=fun a=>count_le hk (R:=R) a
 have Rm:=fun a=>qE hk (R:=R) (y:=a)
 have jL:=fun y=>Jh v v' hk (y:=y)
 have yN:=fun y=>Jg v v' hk (y:=y)
 have mO:=fun y=>wK v hk (y:=y)
 generalize R.getD k []=l at *
 symm
 have yP:tc (R.set k (l ++ [x])) x=((k:Int),-1,l.getLastD (-1)):=by
  rw [jL x (by simp),wI kB,gq,yL kB];simp [fy,jQ]
 split
 ·rename_i hl;subst hl;refine Bv (by simp [iZ]) (fun y hy=>?_)
  by_cases e:x.toNat=y
  ·have:(y:Int)=x:=by omega
   rw [e,List.getElem?_set_self (by rw [iZ];exact hy),this,yP];rfl
  ·rw [List.getElem?_set_ne e,ou hy];rw [yN (y:Int) (by simp;omega) (by simp)]
 ·rename_i hl;have qF:l.getLastD (-1)∈l:=by
   rw [List.getLastD_eq_getLast?,List.getLast?_eq_some_getLast hl];exact List.getLast_mem hl
  have EB:=hb _ (Rm _ qF);have hlx:l.getLastD (-1)≠x:=fun e=>kB (e ▸ qF)
  refine Bv (by simp [iZ]) (fun y hy=>?_)
  by_cases e1:(l.getLastD (-1)).toNat=y
  ·have ey:(y:Int)=l.getLastD (-1):=by omega
   rw [e1,List.getElem?_set_self (by simp [iZ];exact hy),ey,jL _ (List.mem_append_left _ qF)];rw [yK qF (by have:=bY (l.getLastD (-1));have:=ho (l.getLastD (-1));omega),if_pos rfl,wJ qF];rfl
  ·rw [List.getElem?_set_ne e1]
   by_cases e:x.toNat=y
   ·have:(y:Int)=x:=by omega
    rw [e,List.getElem?_set_self (by rw [iZ];exact hy),this,yP]
   ·rw [List.getElem?_set_ne e,ou hy]
    by_cases hm:(y:Int)∈l
    ·rw [jL _ (by simp [hm]),mO _ hm,yK hm (by have:=bY (y:Int);have:=ho (y:Int);omega),az,wJ hm]
    ·rw [yN (y:Int) (by simp [hm];omega) hm]
theorem Ro {l:List Int} {x:Int} (h:x∈l):∃ a b,l=a ++ x :: b∧x∉a:=by
 induction l with
 | nil=>simp at h
 | cons z r ih =>
  by_cases e:z=x
  ·exact ⟨[],r,by simp [e],by simp⟩
  ·rcases List.mem_cons.1 h with h | h
   ·exact absurd h.symm e
   ·obtain ⟨a,b,rfl,hn⟩:=ih h;exact ⟨z :: a,b,rfl,by simp [hn];exact fun h=>e h.symm⟩
theorem Jj {n:Nat} {R:List (List Int)} {k:Nat} {x:Int} {a b:List Int} (v:Inv n R) (hk:k < R.length) (hl:R.getD k []=a ++ x :: b):Inv n (R.set k (a ++ b)):=by
 refine ⟨v.uP,by simpa using v.tD,fun y=>?_,fun y hy=>?_⟩
 ·have h:=count_set y R k _ (a ++ b) (getD_some hk);have:=v.one y;rw [hl,List.count_append,List.count_append,List.count_cons] at h;omega
 ·have h:=count_set y R k _ (a ++ b) (getD_some hk);have h2:=List.count_pos_iff.2 hy;rw [hl,List.count_append,List.count_append,List.count_cons] at h;exact v.bound y (List.count_pos_iff.1 (by omega))
theorem Rp {n:Nat} {R:List (List Int)} {k:Nat} {x:Int} {a b:List Int} (v:Inv n R) (hk:k < R.length) (hl:R.getD k []=a ++ x :: b) :
  th n (R.set k (a ++ b)) =
   ((if b=[] then (if a=[] then th n R else (th n R).set (a.getLastD (-1)).toNat ((k:Int),b.headD (-1),gq a (a.getLastD (-1))))
    else (if a=[] then th n R else (th n R).set (a.getLastD (-1)).toNat ((k:Int),b.headD (-1),gq a (a.getLastD (-1)))).set (b.headD (-1)).toNat ((k:Int),fy b (b.headD (-1)),a.getLastD (-1))).set x.toNat (-1,-1,-1)):=by
 have v':=Jj v hk hl;have ho:∀ y,(a ++ x :: b).count y≤1:=fun y=>by rw [← hl];exact Nat.le_trans (count_le hk y) (v.one y)
 have hb:∀ y,y∈a ++ x :: b→0≤y∧y < n:=fun y hy=>v.bound y (qE hk (by rw [hl];exact hy))
 have jL:=fun y=>Jh v v' hk (y:=y)
 have yN:=fun y=>Jg v v' hk (y:=y)
 have tE:=fun y=>Rk v v' hk (y:=y)
 have mO:=fun y=>wK v hk (y:=y)
 rw [hl] at yN tE mO;have dZ:∀ y,a.count y + ((if x=y then 1 else 0) + b.count y)≤1:=fun y=>by
  have:=ho y;rw [List.count_append,List.count_cons] at this
  by_cases e:x=y
  ·subst e;simp at this ⊢;omega
  ·have e2:(x == y)=false:=by simpa using e
   rw [e2] at this;rw [if_neg e];simp at this;omega
 have uQ:x∉a:=fun h=>by have:=List.count_pos_iff.2 h;have:=dZ x;rw [if_pos rfl] at this;omega
 have tF:x∉b:=fun h=>by have:=List.count_pos_iff.2 h;have:=dZ x;rw [if_pos rfl] at this;omega
 have rT:∀ y,y∈a→y∉b:=fun y h1 h2=>by
  have:=List.count_pos_iff.2 h1;have:=List.count_pos_iff.2 h2;have:=dZ y;omega
 have ca:∀ y,a.count y≤1:=fun y=>by have:=dZ y;omega
 have ju:a≠[]→a.getLastD (-1)∈a:=fun h=>by
  rw [List.getLastD_eq_getLast?,List.getLast?_eq_some_getLast h];exact List.getLast_mem h
 have qG:b≠[]→b.headD (-1)∈b:=fun h=>by cases b with
  | nil=>exact absurd rfl h
  | cons z r=>simp
 have abb:=hb x (by simp)
 symm
 refine Bv (by split <;> split <;> simp [iZ]) (fun y hy=>?_)
 by_cases ex:x.toNat=y
 ·have Rq:(y:Int)=x:=by omega
  rw [ex,List.getElem?_set_self (by split <;> split <;> (simp [iZ];exact hy)),Rq,tE x (by simp [uQ,tF]) (by simp)]
 ·rw [List.getElem?_set_ne ex];have uR:x≠(y:Int):=by omega
  have key:∀ T:List (Int × Int × Int),T.length=n→(∀ z:Nat,z < n→T[z]?=if a≠[]∧a.getLastD (-1)=(z:Int) then some ((k:Int),b.headD (-1),gq a (a.getLastD (-1))) else some (tc R (z:Int))) →
    (if b=[] then T else T.set (b.headD (-1)).toNat ((k:Int),fy b (b.headD (-1)),a.getLastD (-1)))[y]?=some (tc (R.set k (a ++ b)) (y:Int)):=by
   intro T hT Jk
   by_cases kN:(y:Int)∈a
   ·have qH:=rT _ kN;have e1:∀ h:b≠[],(b.headD (-1)).toNat≠y:=fun h e=>by
     have:=hb _ (List.mem_append_right _ (List.mem_cons_of_mem _ (qG h)):b.headD (-1)∈a ++ x :: b);exact qH (by have:=qG h;rwa [show b.headD (-1)=(y:Int) by omega] at this)
    have e2:(if b=[] then T else T.set (b.headD (-1)).toNat ((k:Int),fy b (b.headD (-1)),a.getLastD (-1)))[y]?=T[y]?:=by
     split
     ·rfl
     ·rename_i h;rw [List.getElem?_set_ne (e1 h)]
    rw [e2,Jk y hy,jL _ (by simp [kN]),yK kN (ca _)];have Rr:a≠[]:=fun h=>by rw [h] at kN;simp at kN
    by_cases e3:a.getLastD (-1)=(y:Int)
    ·rw [if_pos ⟨Rr,e3⟩,if_pos e3,wJ kN,e3]
    ·rw [if_neg (fun h=>e3 h.2),if_neg e3,mO _ (by simp [kN]),yK kN (ca _),if_neg e3,wJ kN,wJ kN]
   ·have e0:T[y]?=some (tc R (y:Int)):=by
     rw [Jk y hy,if_neg]
     rintro ⟨h1,h2⟩
     exact kN (by have:=ju h1;rwa [h2] at this)
    by_cases qH:(y:Int)∈b
    ·have Jl:b≠[]:=fun h=>by rw [h] at qH;simp at qH
     rw [if_neg Jl,jL _ (by simp [qH]),wI kN,gq,yL kN,Jd (q:=x) qH];have Jm:=mO (y:Int) (by simp [qH]);rw [wI kN,gq,yL kN,jQ,if_neg uR,fy,if_neg uR] at Jm
     by_cases e3:b.headD (-1)=(y:Int)
     ·rw [if_pos e3,show (b.headD (-1)).toNat=y by omega,List.getElem?_set_self (by rw [hT];exact hy),e3]
     ·rw [if_neg e3,List.getElem?_set_ne (by have:=hb _ (List.mem_append_right _ (List.mem_cons_of_mem _ (qG Jl)):b.headD (-1)∈a ++ x :: b);omega),e0,Jm]
    ·have e1:(if b=[] then T else T.set (b.headD (-1)).toNat ((k:Int),fy b (b.headD (-1)),a.getLastD (-1)))[y]?=T[y]?:=by
      split
      ·rfl
      ·rename_i h;have:=hb _ (List.mem_append_right _ (List.mem_cons_of_mem _ (qG h)):b.headD (-1)∈a ++ x :: b);rw [List.getElem?_set_ne (fun e=>qH (by have:=qG h;rwa [show b.headD (-1)=(y:Int) by omega] at this))]
     rw [e1,e0,yN _ (by simp [kN,qH]) (by simp [kN,qH];exact fun e=>uR e.symm)]
  apply key
  ·split <;> simp [iZ]
  ·intro z hz
   by_cases yQ:a=[]
   ·rw [if_pos yQ,if_neg (fun h=>h.1 yQ),ou hz]
   ·rw [if_neg yQ];have:=hb _ (List.mem_append_left _ (ju yQ):a.getLastD (-1)∈a ++ x :: b)
    by_cases e3:a.getLastD (-1)=(z:Int)
    ·rw [if_pos ⟨yQ,e3⟩,show (a.getLastD (-1)).toNat=z by omega,List.getElem?_set_self (by rw [iZ];exact hz)]
    ·rw [if_neg (fun h=>e3 h.2),List.getElem?_set_ne (by omega),ou hz]
theorem Rs (c:Int) (l:List Int):l.length=(l.filter (fun a=>a≠c)).length + l.count c:=by
 induction l with
 | nil=>rfl
 | cons x r ih =>
  rw [List.count_cons,List.filter_cons]
  by_cases e:x=c
  ·subst e;simp at ih ⊢;omega
  ·have e2:(x == c)=false:=by simpa using e
   simp [e,e2] at ih ⊢;omega
theorem Bx {l:List Int} {n:Nat} (h1:∀ a,l.count a≤1) (h2:∀ a∈l,0≤a∧a < (n:Int)):l.length≤n:=by
 induction n generalizing l with
 | zero =>
  cases l with
  | nil=>simp
  | cons x r=>have:=h2 x (by simp);omega
 | succ n ih =>
  have h3:=ih (l:=l.filter (fun a=>a≠(n:Int))) (fun a=>Nat.le_trans (List.Sublist.count_le a List.filter_sublist) (h1 a)) (fun a ha=>by
   simp only [List.mem_filter,decide_eq_true_eq] at ha;have:=h2 a ha.1;omega)
  have h4:=Rs (n:Int) l;have:=h1 (n:Int);omega
end Qu
open Go.RowKit
def t3 (t:Int × Int × Int):List Value:=[.int .i64 t.1,.int .i64 t.2.1,.int .i64 t.2.2]
theorem qI (t:Int × Int × Int):(t3 t).length=3:=rfl
def dj (w:World) (b g1 o1 c1 g2 o2 c2:Nat) (A B:List (Int × Int × Int)):Prop :=
 cr w b [.slice (some ⟨g1,o1,none⟩) A.length c1,.slice (some ⟨g2,o2,none⟩) B.length c2] 134 ∧
  ER t3 3 w (.slice (some ⟨g1,o1,none⟩) A.length c1) 136 A [g1]∧ER t3 3 w (.slice (some ⟨g2,o2,none⟩) B.length c2) 138 B [g2]∧b≠g1∧b≠g2∧g1≠g2
def Qq (w:World) (p:Value) (n:Nat) (R:List (List Int)) (S:List Nat):Prop :=
 ∃ b v1 v2 T1 T2,p=.pointer (some ⟨b,0,none⟩)∧cr w b [v1,v2] 134∧ER t3 3 w v1 136 (Qu.th n R) T1∧ER t3 3 w v2 138 (Qu.ln R) T2 ∧
  b∉T1∧b∉T2∧(∀ x∈T1,x∉T2)∧S=b :: (T1 ++ T2)∧Qu.Inv n R
section
variable {w w':World} {p:Value} {n:Nat} {R:List (List Int)} {S T:List Nat}
theorem Qq.aY (h:Qq w p n R S) (k:aq T w w') (hn:∀ x∈S,x∉T):Qq w' p n R S:=by
 obtain ⟨b,v1,v2,T1,T2,rfl,hb,h1,h2,d1,d2,d3,rfl,hv⟩:=h;exact ⟨b,v1,v2,T1,T2,rfl,hb.aY k (hn b (by simp)),h1.aY k (fun x hx=>hn x (by simp [hx])),h2.aY k (fun x hx=>hn x (by simp [hx])),d1,d2,d3,rfl,hv⟩
theorem Qq.then (h:Qq w p n R S) (k:aq [] w w'):Qq w' p n R S:=h.aY k (by simp)
theorem Qq.lt (h:Qq w p n R S):∀ k∈S,k < w.heap.size:=by
 obtain ⟨b,v1,v2,T1,T2,rfl,hb,h1,h2,d1,d2,d3,rfl,hv⟩:=h;intro k hk;simp only [List.mem_cons,List.mem_append] at hk;rcases hk with rfl | hk | hk
 ·exact hb.lt
 ·exact h1.lt k hk
 ·exact h2.lt k hk
theorem Qq.shape (h:Qq w p n R S):∃ b,p=.pointer (some ⟨b,0,none⟩):=by
 obtain ⟨b,v1,v2,T1,T2,rfl,_⟩:=h;exact ⟨b,rfl⟩
theorem Qq.inv (h:Qq w p n R S):Qu.Inv n R:=by
 obtain ⟨b,v1,v2,T1,T2,rfl,hb,h1,h2,d1,d2,d3,rfl,hv⟩:=h;exact hv
theorem Qq.raw {b:Nat} (h:Qq w (.pointer (some ⟨b,0,none⟩)) n R S) (h0:0 < n) (h1:0 < R.length):∃ g1 o1 c1 g2 o2 c2,S=[b,g1,g2]∧dj w b g1 o1 c1 g2 o2 c2 (Qu.th n R) (Qu.ln R):=by
 obtain ⟨b',v1,v2,T1,T2,e,hb,e1,e2,d1,d2,d3,rfl,hv⟩:=h;obtain rfl:b=b':=by simpa using e
 obtain ⟨a1,c1,rfl⟩:=e1.shape;obtain ⟨a2,c2,rfl⟩:=e2.shape;obtain ⟨g1,o1,rfl,rfl,_⟩:=e1.cells qI (by rw [Qu.iZ];exact h0);obtain ⟨g2,o2,rfl,rfl,_⟩:=e2.cells qI (by simp [Qu.ln];omega);exact ⟨g1,o1,c1,g2,o2,c2,rfl,hb,e1,e2,by simpa using d1,by simpa using d2,by simpa using d3⟩
end
section
variable {w w':World} {b g1 o1 c1 g2 o2 c2 n:Nat} {A B:List (Int × Int × Int)}
theorem dj.q {R:List (List Int)} (h:dj w b g1 o1 c1 g2 o2 c2 A B) (hA:A=Qu.th n R) (hB:B=Qu.ln R) (hv:Qu.Inv n R):Qq w (.pointer (some ⟨b,0,none⟩)) n R [b,g1,g2]:=by
 subst hA hB;obtain ⟨h1,h2,h3,d1,d2,d3⟩:=h;exact ⟨b,_,_,[g1],[g2],rfl,h1,h2,h3,by simpa using d1,by simpa using d2,by simpa using d3,rfl,hv⟩
theorem dj.drew (h:dj w b g1 o1 c1 g2 o2 c2 A B):dj w.drew b g1 o1 c1 g2 o2 c2 A B:=h
theorem dj.aO (h:dj w b g1 o1 c1 g2 o2 c2 A B) {x:Nat} {t:Int × Int × Int} (hx:A[x]?=some t) :
  (w.cell? ⟨g1,o1 + x * 3,none⟩=some (.int .i64 t.1)∧w.cell? ⟨g1,o1 + x * 3 + 1,none⟩=some (.int .i64 t.2.1)∧w.cell? ⟨g1,o1 + x * 3 + 2,none⟩=some (.int .i64 t.2.2)) ∧
   w.frozen? ⟨g1,o1 + x * 3,none⟩=false∧w.frozen? ⟨g1,o1 + x * 3 + 1,none⟩=false∧w.frozen? ⟨g1,o1 + x * 3 + 2,none⟩=false:=by
 obtain ⟨_,h2,_,_⟩:=h;obtain ⟨g',o',e,_,_,hc,hf⟩:=h2.cells qI (by have:=(List.getElem?_eq_some_iff.1 hx).1;omega);obtain ⟨rfl,rfl⟩:=by simpa using e
 refine ⟨⟨hc x t 0 hx (by omega),?_,?_⟩,hf _,?_,?_⟩
 ·rw [Nat.add_assoc];exact hc x t 1 hx (by omega)
 ·rw [Nat.add_assoc];exact hc x t 2 hx (by omega)
 ·rw [Nat.add_assoc];exact hf _
 ·rw [Nat.add_assoc];exact hf _
theorem dj.line (h:dj w b g1 o1 c1 g2 o2 c2 A B) {x:Nat} {t:Int × Int × Int} (hx:B[x]?=some t) :
  (w.cell? ⟨g2,o2 + x * 3,none⟩=some (.int .i64 t.1)∧w.cell? ⟨g2,o2 + x * 3 + 1,none⟩=some (.int .i64 t.2.1)∧w.cell? ⟨g2,o2 + x * 3 + 2,none⟩=some (.int .i64 t.2.2)) ∧
   w.frozen? ⟨g2,o2 + x * 3,none⟩=false∧w.frozen? ⟨g2,o2 + x * 3 + 1,none⟩=false∧w.frozen? ⟨g2,o2 + x * 3 + 2,none⟩=false:=by
 obtain ⟨_,_,h2,_⟩:=h;obtain ⟨g',o',e,_,_,hc,hf⟩:=h2.cells qI (by have:=(List.getElem?_eq_some_iff.1 hx).1;omega);obtain ⟨rfl,rfl⟩:=by simpa using e
 refine ⟨⟨hc x t 0 hx (by omega),?_,?_⟩,hf _,?_,?_⟩
 ·rw [Nat.add_assoc];exact hc x t 1 hx (by omega)
 ·rw [Nat.add_assoc];exact hc x t 2 hx (by omega)
 ·rw [Nat.add_assoc];exact hf _
 ·rw [Nat.add_assoc];exact hf _
theorem dj.head (h:dj w b g1 o1 c1 g2 o2 c2 A B):w.cell? ⟨b,0,none⟩=some (.slice (some ⟨g1,o1,none⟩) A.length c1)∧w.cell? ⟨b,1,none⟩=some (.slice (some ⟨g2,o2,none⟩) B.length c2):=⟨h.1.cell 0,h.1.cell 1⟩
theorem dj.EC (h:dj w b g1 o1 c1 g2 o2 c2 A B) {x j:Nat} {t t':Int × Int × Int} {u:Value} (hx:A[x]?=some t) (hj:j < 3) (ht:t3 t'=(t3 t).set j u) :
  dj (w.setCell ⟨g1,o1 + (x * 3 + j),none⟩ u) b g1 o1 c1 g2 o2 c2 (A.set x t') B:=by
 obtain ⟨h1,h2,h3,d1,d2,d3⟩:=h;refine ⟨?_,?_,?_,d1,d2,d3⟩
 ·rw [List.length_set];exact h1.other d1 _
 ·rw [List.length_set];exact (h2.stored qI hx hj ht).1
 ·exact h3.aY ((aq.refl [g1] w).setCell (by simp) _) (by simpa using fun e=>d3 e.symm)
theorem dj.lE (h:dj w b g1 o1 c1 g2 o2 c2 A B) {x j:Nat} {t t':Int × Int × Int} {u:Value} (hx:B[x]?=some t) (hj:j < 3) (ht:t3 t'=(t3 t).set j u) :
  dj (w.setCell ⟨g2,o2 + (x * 3 + j),none⟩ u) b g1 o1 c1 g2 o2 c2 A (B.set x t'):=by
 obtain ⟨h1,h2,h3,d1,d2,d3⟩:=h;refine ⟨?_,?_,?_,d1,d2,d3⟩
 ·rw [List.length_set];exact h1.other d2 _
 ·exact h2.aY ((aq.refl [g2] w).setCell (by simp) _) (by simpa using d3)
 ·rw [List.length_set];exact (h3.stored qI hx hj ht).1
theorem dj.t1 (h:dj w b g1 o1 c1 g2 o2 c2 A B) {x:Nat} {t:Int × Int × Int} (hx:A[x]?=some t) (v:Int):dj (w.setCell ⟨g1,o1 + x * 3 + 1,none⟩ (.int .i64 v)) b g1 o1 c1 g2 o2 c2 (A.set x (t.1,v,t.2.2)) B:=by
 rw [Nat.add_assoc];exact h.EC hx (by omega) rfl
theorem dj.t2 (h:dj w b g1 o1 c1 g2 o2 c2 A B) {x:Nat} {t:Int × Int × Int} (hx:A[x]?=some t) (v:Int):dj (w.setCell ⟨g1,o1 + x * 3 + 2,none⟩ (.int .i64 v)) b g1 o1 c1 g2 o2 c2 (A.set x (t.1,t.2.1,v)) B:=by
 rw [Nat.add_assoc];exact h.EC hx (by omega) rfl
theorem dj.t0 (h:dj w b g1 o1 c1 g2 o2 c2 A B) {x:Nat} {t:Int × Int × Int} (hx:A[x]?=some t) (v:Int):dj (w.setCell ⟨g1,o1 + x * 3,none⟩ (.int .i64 v)) b g1 o1 c1 g2 o2 c2 (A.set x (v,t.2)) B:=by
 have:=h.EC (t':=(v,t.2)) (u:=.int .i64 v) hx (show 0 < 3 by omega) rfl;exact this
theorem dj.l1 (h:dj w b g1 o1 c1 g2 o2 c2 A B) {x:Nat} {t:Int × Int × Int} (hx:B[x]?=some t) (v:Int):dj (w.setCell ⟨g2,o2 + x * 3 + 1,none⟩ (.int .i64 v)) b g1 o1 c1 g2 o2 c2 A (B.set x (t.1,v,t.2.2)):=by
 rw [Nat.add_assoc];exact h.lE hx (by omega) rfl
theorem dj.l2 (h:dj w b g1 o1 c1 g2 o2 c2 A B) {x:Nat} {t:Int × Int × Int} (hx:B[x]?=some t) (v:Int):dj (w.setCell ⟨g2,o2 + x * 3 + 2,none⟩ (.int .i64 v)) b g1 o1 c1 g2 o2 c2 A (B.set x (t.1,t.2.1,v)):=by
 rw [Nat.add_assoc];exact h.lE hx (by omega) rfl
theorem dj.l0 (h:dj w b g1 o1 c1 g2 o2 c2 A B) {x:Nat} {t:Int × Int × Int} (hx:B[x]?=some t) (v:Int):dj (w.setCell ⟨g2,o2 + x * 3,none⟩ (.int .i64 v)) b g1 o1 c1 g2 o2 c2 A (B.set x (v,t.2)):=by
 have:=h.lE (t':=(v,t.2)) (u:=.int .i64 v) hx (show 0 < 3 by omega) rfl;exact this
theorem dj.ED (h:dj w b g1 o1 c1 g2 o2 c2 A B) {x:Nat} (hx:x < A.length) (a c d:Int) :
  dj (((w.setCell ⟨g1,o1 + x * 3,none⟩ (.int .i64 a)).setCell ⟨g1,o1 + x * 3 + 1,none⟩ (.int .i64 c)).setCell ⟨g1,o1 + x * 3 + 2,none⟩ (.int .i64 d)) b g1 o1 c1 g2 o2 c2 (A.set x (a,c,d)) B:=by
 have e:=List.getElem?_eq_getElem hx;have h1:=h.t0 e a;have h2:=h1.t1 (x:=x) (t:=(a,A[x].2)) (by simp [hx]) c;have h3:=h2.t2 (x:=x) (t:=(a,c,A[x].2.2)) (by simp [hx]) d;simpa using h3
end
namespace Qu
def line (R:List (List Int)) (k:Int):Bool:=decide (0≤k) && decide (k < R.length)
def ov (R:List (List Int)) (x:Int):Int × Bool:=match loc R x with
 | some k=>(k,true)
 | none=>(0,false)
def row (R:List (List Int)) (k:Int):List Int:=if line R k then R.getD k.toNat [] else []
def first (R:List (List Int)) (k:Int):Int × Bool:=if row R k=[] then (0,false) else ((row R k).headD (-1),true)
theorem By {R:List (List Int)} {k:Int} (h:line R k=true):∃ j:Nat,k=j∧j < R.length:=by
 simp only [line,Bool.and_eq_true,decide_eq_true_eq] at h;obtain ⟨j,rfl⟩:=Int.eq_ofNat_of_zero_le h.1;exact ⟨j,rfl,by omega⟩
theorem yR {R:List (List Int)} {j:Nat} (h:j < R.length):row R j=R.getD j []:=by simp [row,line,h]
end Qu
theorem oz (w:World) (p:Value) (n:Nat) (R:List (List Int)) (S:List Nat) (k:Int) (h:Qq w p n R S) :
  Calls Tryz.prog 112 #[p,.int .i64 k] w fun e w'=>e=.returned (.bool (Qu.line R k))∧w=w':=by
 obtain ⟨b,v1,v2,T1,T2,rfl,hb,h1,h2,d1,d2,d3,rfl,hv⟩:=h;obtain ⟨ao,cap,rfl⟩:=h2.shape;have hl:(Qu.ln R).length=R.length:=by simp [Qu.ln]
 have hr:=hv.tD;rw [hl] at hb;have c1:w.cell? ⟨b,1,none⟩=some (.slice ao R.length cap):=hb.cell 1;clear hb h1 h2 hv hl
 cases h1:decide (0≤k) with
 | true =>
  go_enter Tryz.func112,Tryz.ntmps112
  go_wp2
  go_ret
  exact ⟨eW (by simp [Qu.line,h1]),rfl⟩
 | false =>
  go_enter Tryz.func112,Tryz.ntmps112
  go_wp2
  go_ret
  exact ⟨eW (by simp [Qu.line,h1]),rfl⟩
theorem Qq.EE {w:World} {b n:Nat} {R:List (List Int)} {S:List Nat} (h:Qq w (.pointer (some ⟨b,0,none⟩)) n R S) {j:Nat} (hj:j < R.length):∃ g2 o2 c2,w.cell? ⟨b,1,none⟩=some (.slice (some ⟨g2,o2,none⟩) R.length c2) ∧
  w.cell? ⟨g2,o2 + j * 3,none⟩=some (.int .i64 ((R.getD j []).headD (-1)))∧w.cell? ⟨g2,o2 + j * 3 + 2,none⟩=some (.int .i64 (R.getD j []).length):=by
 obtain ⟨b',v1,v2,T1,T2,e,hb,e1,e2,d1,d2,d3,rfl,hv⟩:=h;obtain rfl:b=b':=by simpa using e
 obtain ⟨a2,c2,rfl⟩:=e2.shape;have hl:(Qu.ln R).length=R.length:=by simp [Qu.ln]
 obtain ⟨g2,o2,rfl,rfl,_,hc,_⟩:=e2.cells qI (by omega);have hx:=Qu.EA hj;refine ⟨g2,o2,c2,by rw [← hl];exact hb.cell 1,hc j _ 0 hx (by omega),?_⟩;rw [Nat.add_assoc];exact hc j _ 2 hx (by omega)
theorem Rt (w:World) (p:Value) (n:Nat) (R:List (List Int)) (S:List Nat) (k:Int) (h:Qq w p n R S) :
  Calls Tryz.prog 121 #[p,.int .i64 k] w fun e w'=>e=.returned (.tuple #[.int .i64 (Qu.first R k).1,.bool (Qu.first R k).2])∧w=w':=by
 obtain ⟨b,rfl⟩:=h.shape;have H:=Lib.hid h
 cases hk:Qu.line R k with
 | true =>
  obtain ⟨j,rfl,hj⟩:=Qu.By hk;obtain ⟨g2,o2,c2,c1,d0,d2⟩:=h.EE hj;have hr:=h.inv.tD
  cases hq:(((R.getD j []).length:Int) == 0) with
  | true =>
   have HF:Hid (Qu.first R j=(0,false)):=Lib.hid (by unfold Qu.first;rw [Qu.yR hj,if_pos (by simpa using hq)]);generalize (R.getD j []).length=m at *;clear h d0
   go_enter Tryz.func121,Tryz.ntmps121
   go_wp2_with fail
   refine (oz _ _ _ _ _ _ H.out).mono ?_
   rintro e w1 ⟨rfl,rfl⟩
   rw [hk]
   go_wp2_with fail
   go_ret2
   exact ⟨by rw [HF.out];rfl,rfl⟩
  | false =>
   have HF:Hid (Qu.first R j=((R.getD j []).headD (-1),true)):=Lib.hid (by unfold Qu.first;rw [Qu.yR hj,if_neg (by simpa using hq)]);generalize (R.getD j []).headD (-1)=hd at *;generalize (R.getD j []).length=m at *;clear h
   go_enter Tryz.func121,Tryz.ntmps121
   go_wp2_with fail
   refine (oz _ _ _ _ _ _ H.out).mono ?_
   rintro e w1 ⟨rfl,rfl⟩
   rw [hk]
   go_wp2_with fail
   go_ret2
   exact ⟨by rw [HF.out];rfl,rfl⟩
 | false =>
  have HF:Hid (Qu.first R k=(0,false)):=Lib.hid (by simp [Qu.first,Qu.row,hk]);clear h
  go_enter Tryz.func121,Tryz.ntmps121
  go_wp2_with fail
  refine (oz _ _ _ _ _ _ H.out).mono ?_
  rintro e w1 ⟨rfl,rfl⟩
  rw [hk]
  go_wp2_with fail
  go_ret2
  exact ⟨by rw [HF.out];rfl,rfl⟩
theorem Qq.EF {w:World} {b n:Nat} {R:List (List Int)} {S:List Nat} (h:Qq w (.pointer (some ⟨b,0,none⟩)) n R S) {x:Nat} (hx:x < n):∃ g1 o1 c1,w.cell? ⟨b,0,none⟩=some (.slice (some ⟨g1,o1,none⟩) n c1)∧g1∈S ∧
  w.cell? ⟨g1,o1 + x * 3,none⟩=some (.int .i64 (Qu.tc R x).1)∧w.cell? ⟨g1,o1 + x * 3 + 1,none⟩=some (.int .i64 (Qu.tc R x).2.1):=by
 obtain ⟨b',v1,v2,T1,T2,e,hb,e1,e2,d1,d2,d3,rfl,hv⟩:=h;obtain rfl:b=b':=by simpa using e
 obtain ⟨a1,c1,rfl⟩:=e1.shape;have hl:=Qu.iZ n R;obtain ⟨g1,o1,rfl,rfl,_,hc,_⟩:=e1.cells qI (by omega);have hg:=Qu.ou (R:=R) hx;refine ⟨g1,o1,c1,by have:=hb.cell 0;rw [hl] at this;exact this,by simp,hc x _ 0 hg (by omega),?_⟩;rw [Nat.add_assoc];exact hc x _ 1 hg (by omega)
theorem Qq.Jo {w:World} {b n:Nat} {R:List (List Int)} {S:List Nat} (h:Qq w (.pointer (some ⟨b,0,none⟩)) n R S):∃ ao c1,w.cell? ⟨b,0,none⟩=some (.slice ao n c1):=by
 obtain ⟨b',v1,v2,T1,T2,e,hb,e1,e2,d1,d2,d3,rfl,hv⟩:=h;obtain rfl:b=b':=by simpa using e
 obtain ⟨a1,c1,rfl⟩:=e1.shape;exact ⟨a1,c1,by have:=hb.cell 0;rw [Qu.iZ] at this;exact this⟩
theorem Jp (w:World) (p:Value) (n:Nat) (R:List (List Int)) (S:List Nat) (x:Int) (h:Qq w p n R S) :
  Calls Tryz.prog 186 #[p,.int .i64 x] w fun e w'=>e=.returned (.tuple #[.int .i64 (Qu.ov R x).1,.bool (Qu.ov R x).2])∧w=w':=by
 obtain ⟨b,rfl⟩:=h.shape;have hv:=h.inv;have hn:=hv.uP;obtain ⟨ao,cap,ch⟩:=h.Jo;have wL:(x < 0∨(n:Int)≤x)→Qu.ov R x=(0,false):=fun hx=>by
  have:Qu.loc R x=none:=Qu.qD.2 (fun hm=>by have:=hv.bound x hm;omega);unfold Qu.ov;rw [this]
 by_cases h0:x < 0
 ·have HF:=Lib.hid (wL (.inl h0));clear wL h hv
  go_enter Tryz.func186,Tryz.ntmps186
  go_wp2_with fail
  go_ret2
  exact ⟨by rw [HF.out];rfl,rfl⟩
 ·obtain ⟨y,rfl⟩:=Int.eq_ofNat_of_zero_le (show 0≤x by omega)
  by_cases h1:y < n
  ·obtain ⟨g1,o1,c1,e0,_,e1,_⟩:=h.EF h1
   cases hl:Qu.loc R (y:Int) with
   | none =>
    have ht:(Qu.tc R (y:Int)).1=-1:=by rw [Qu.Bw hl]
    have HF:Hid (Qu.ov R (y:Int)=(0,false)):=Lib.hid (by unfold Qu.ov;rw [hl]);rw [ht] at e1;clear wL h hv hl ht ch
    go_enter Tryz.func186,Tryz.ntmps186
    go_wp2_with fail
    go_ret2
    exact ⟨by rw [HF.out];rfl,rfl⟩
   | some k =>
    have ht:(Qu.tc R (y:Int)).1=(k:Int):=by unfold Qu.tc;rw [hl]
    have HF:Hid (Qu.ov R (y:Int)=((k:Int),true)):=Lib.hid (by unfold Qu.ov;rw [hl]);rw [ht] at e1;have bu:((k:Int) == -1)=false:=by simp
    clear wL h hv hl ht ch
    go_enter Tryz.func186,Tryz.ntmps186
    go_wp2_with fail
    go_ret2
    exact ⟨by rw [HF.out];rfl,rfl⟩
  ·have HF:=Lib.hid (wL (.inr (by omega)));clear wL h hv
   go_enter Tryz.func186,Tryz.ntmps186
   go_wp2_with fail
   go_ret2
   exact ⟨by rw [HF.out];rfl,rfl⟩
open Go.RowKit
attribute [local go_sem ↓] Go.wp_at_zero Go.wp_at_succ
theorem List.Jq {α:Type} {l:List α} {k:Nat} {x:α} (h:l[k]?=some x):l.set k x=l:=by
 obtain ⟨hk,rfl⟩:=List.getElem?_eq_some_iff.1 h;simp
namespace Qu
theorem Ru {l m:List Int} {d:Int} (h:l≠[]):(l ++ m).headD d=l.headD d:=by
 cases l with
 | nil=>exact absurd rfl h
 | cons a r=>rfl
def push (n:Nat) (R:List (List Int)) (k x:Int):List (List Int) × Bool :=
 if line R k && decide (0≤x) && decide (x < n) && (loc R x).isNone then (R.set k.toNat (row R k ++ [x]),true) else (R,false)
end Qu
def rU (r:List (List Int) × Bool) (p:Value) (n:Nat) (S:List Nat) (w:World) (e:Ending) (w':World):Prop :=
 e=.returned (.bool r.2)∧aq S w w'∧Qq w' p n r.1 S
set_option maxRecDepth 100000 in
set_option maxHeartbeats 1600000 in
theorem Rv (w:World) (p:Value) (n:Nat) (R:List (List Int)) (S:List Nat) (k x:Int) (h:Qq w p n R S) :
  Calls Tryz.prog 109 #[p,.int .i64 k,.int .i64 x] w (rU (Qu.push n R k x) p n S w):=by
 obtain ⟨b,rfl⟩:=h.shape;have H:=Lib.hid h;have hv:=h.inv;have HV:=Lib.hid hv;have hn:=hv.uP;obtain ⟨ao,cap,ch⟩:=h.Jo
 cases hk:Qu.line R k with
 | false =>
  have HF:Hid (Qu.push n R k x=(R,false)):=Lib.hid (by simp [Qu.push,hk]);clear h hv ch
  go_enter Tryz.func109,Tryz.ntmps109
  go_wp2_with fail
  refine (oz _ _ _ _ _ _ H.out).mono ?_
  rintro e w1 ⟨rfl,rfl⟩
  rw [hk]
  go_wp2_with fail
  go_ret
  unfold rU;rw [HF.out];exact ⟨rfl,aq.refl _ _,H.out⟩
 | true =>
  obtain ⟨j,rfl,hj⟩:=Qu.By hk
  by_cases h0:x < 0
  ·have HF:Hid (Qu.push n R j x=(R,false)):=Lib.hid (by unfold Qu.push;rw [if_neg];simp;omega);clear h hv ch
   go_enter Tryz.func109,Tryz.ntmps109
   go_wp2_with fail
   refine (oz _ _ _ _ _ _ H.out).mono ?_
   rintro e w1 ⟨rfl,rfl⟩
   rw [hk]
   go_wp2_with fail
   go_ret
   unfold rU;rw [HF.out];exact ⟨rfl,aq.refl _ _,H.out⟩
  ·obtain ⟨y,rfl⟩:=Int.eq_ofNat_of_zero_le (show 0≤x by omega)
   by_cases h1:y < n
   ·cases hl:Qu.loc R (y:Int) with
    | some j2 =>
     have HF:Hid (Qu.push n R j y=(R,false)):=Lib.hid (by unfold Qu.push;rw [if_neg];simp [hl]);obtain ⟨g1,o1,c1,e0,_,e1,_⟩:=h.EF h1;have ht:(Qu.tc R (y:Int)).1=(j2:Int):=by unfold Qu.tc;rw [hl]
     rw [ht] at e1;have bu:((j2:Int) != -1)=true:=by simp
     clear h hv ch hl ht
     go_enter Tryz.func109,Tryz.ntmps109
     go_wp2_with fail
     refine (oz _ _ _ _ _ _ H.out).mono ?_
     rintro e w1 ⟨rfl,rfl⟩
     rw [hk]
     go_wp2_with fail
     go_ret
     unfold rU;rw [HF.out];exact ⟨rfl,aq.refl _ _,H.out⟩
    | none =>
     have HF:Hid (Qu.push n R j y=(R.set j (R.getD j [] ++ [(y:Int)]),true)):=Lib.hid (by unfold Qu.push;rw [if_pos (by simp [hk,hl,h1]),Qu.yR hj];rfl);obtain ⟨g1,o1,c1,g2,o2,c2,rfl,cG⟩:=h.raw (by omega) (by omega);have EG:=Qu.Ji hv hj (show 0≤(y:Int) by omega) (by omega) hl;have Bz:=Qu.Rl hv hj (show 0≤(y:Int) by omega) (by omega) hl;rw [Int.toNat_natCast] at Bz;have kO:=fun z hz=>hv.bound z (Qu.qE hj (y:=z) hz)
     have mO:=fun z hz=>Qu.wK hv hj (y:=z) hz
     have EH:(y:Int)∉R.getD j []:=fun hm=>Qu.qD.1 hl (Qu.qE hj hm)
     have hlen:(R.getD j []).length≤64:=by
      have h1:=fun a=>Qu.count_le hj (R:=R) a
      have h2:=hv.one;have:=Qu.Bx (l:=R.getD j []) (n:=n) (fun a=>Nat.le_trans (h1 a) (h2 a)) kO;omega
     have rV:=Qu.EA hj;have yS:(Qu.ln R).length=R.length:=by simp [Qu.ln]
     obtain ⟨l,j8⟩:∃ l,R.getD j []=l:=⟨_,rfl⟩
     rw [j8] at Bz EG kO mO EH hlen rV HF;have ht:=Qu.Bw hl;have uS:=Qu.ou (R:=R) h1;rw [ht] at uS;obtain ⟨⟨e0,e1,e2⟩,f0,f1,f2⟩:=cG.aO uS;obtain ⟨⟨d0,d1,d2⟩,q0,q1,q2⟩:=cG.line rV;obtain ⟨oA,mP⟩:=cG.head;rw [Qu.iZ] at oA;rw [yS] at mP;have HR:=Lib.hid cG;have Rw:=Lib.hid EG;have Jr:=Lib.hid Bz;have yT:=Lib.hid rV;have EI:=Lib.hid kO;have Rx:=Lib.hid mO;have Ry:=Lib.hid EH;obtain ⟨n1,n2,n3⟩:=(⟨cG.2.2.2.1,cG.2.2.2.2.1,cG.2.2.2.2.2⟩:b≠g1∧b≠g2∧g1≠g2)
     have Rz:g2≠g1:=fun e=>n3 e.symm
     have RB:=hv.tD;simp only [Qu.lc] at d0 d1 d2;have RE:(j:Int) < (R.length:Int):=by omega
     have Js:(y:Int) < (n:Int):=by omega
     obtain ⟨la,ju⟩:∃ la,l.getLastD (-1)=la:=⟨_,rfl⟩
     rw [ju] at d1;have yU:=Lib.hid ju;clear h hv ch hl cG EG Bz rV kO mO EH ht uS j8 yS ju
     go_enter Tryz.func109,Tryz.ntmps109
     go_wp2_with fail
     refine (oz _ _ _ _ _ _ H.out).mono ?_
     rintro e w1 ⟨rfl,rfl⟩
     rw [hk]
     go_upto_region 5 with fail
     go_cut [42] (fun _ w'=>dj w' b g1 o1 c1 g2 o2 c2 ((Qu.th n R).set y ((j:Int),-1,la)) (Qu.ln R)∧aq [b,g1,g2] w w')
     case first =>
      go_wp2_with fail
      go_region
      go_wp2_with fail
      go_meet
      exact ⟨(HR.out.ED (x:=y) (by rw [Qu.iZ];exact h1) (j:Int) (-1) la).drew,((((aq.refl _ w).setCell (by simp) _).setCell (by simp) _).setCell (by simp) _).drew⟩
     case rest =>
      obtain ⟨rW,bu⟩:=hcut;have kP:=Lib.hid rW;have rX:=Lib.hid bu;obtain ⟨⟨d0,d1,d2⟩,q0,q1,q2⟩:=rW.line yT.out;simp only [Qu.lc] at d0 d1 d2;rw [yU.out] at d1;obtain ⟨oA,mP⟩:=rW.head;rw [List.length_set,Qu.iZ] at oA;rw [show (Qu.ln R).length=R.length by simp [Qu.ln]] at mP;clear rW bu e0 e1 e2 f0 f1 f2;obtain ⟨q5,RF⟩:∃ q,(la == -1)=q:=⟨_,rfl⟩
      have Jt:=Lib.hid RF
      go_upto_if 58 with fail
      go_cut [42] (fun _ w'=>dj w' b g1 o1 c1 g2 o2 c2 (Qu.th n (R.set j (l ++ [(y:Int)]))) ((Qu.ln R).set j ((l ++ [(y:Int)]).headD (-1),la,(l.length:Int)))∧aq [b,g1,g2] w w')
      case first =>
       by_cases ki:l=[]
       ·subst ki;have Ju:la=-1:=yU.out.symm;obtain rfl:q5=true:=by rw [← Jt.out,Ju];rfl
        subst Ju;have HA:Hid (Qu.th n (R.set j ([] ++ [(y:Int)]))=(Qu.th n R).set y ((j:Int),-1,-1)):=Lib.hid (by have:=Jr.out;rwa [if_pos rfl] at this)
        go_wp2_with fail
        go_meet
        refine ⟨?_,(rX.out.setCell (by simp) _)⟩;have:=kP.out.l0 yT.out (y:Int);rw [HA.out];exact this
       ·have qF:la∈l:=by
         rw [← yU.out,List.getLastD_eq_getLast?,List.getLast?_eq_some_getLast ki];exact List.getLast_mem ki
        have EB:=EI.out la qF;obtain ⟨z,rfl⟩:=Int.eq_ofNat_of_zero_le EB.1;have wM:z < n:=by omega
        have RG:y≠z:=fun e=>Ry.out (by rw [e];exact qF)
        have HA:Hid (Qu.th n (R.set j (l ++ [(y:Int)]))=((Qu.th n R).set y ((j:Int),-1,(z:Int))).set z ((j:Int),(y:Int),Qu.gq l (z:Int))):=Lib.hid (by
         have:=Jr.out;rw [if_neg ki,yU.out,Int.toNat_natCast] at this;exact this)
        have oB:((Qu.th n R).set y ((j:Int),-1,(z:Int)))[z]?=some ((j:Int),Qu.fy l (z:Int),Qu.gq l (z:Int)):=by
         rw [List.getElem?_set_ne RG,Qu.ou wM,Rx.out _ qF]
        have HZ:=Lib.hid oB;obtain ⟨⟨z0,z1,z2⟩,Jv,Jw,Jx⟩:=kP.out.aO oB;have Jy:(z:Int) < (n:Int):=by omega
        obtain rfl:q5=false:=by rw [← Jt.out];simp
        have RH:Hid ((l ++ [(y:Int)]).headD (-1)=l.headD (-1)):=Lib.hid (Qu.Ru ki);clear qF EB oB ki;generalize Qu.fy l (z:Int)=nz at *
        go_wp2_with fail
        go_region
        go_wp2_with fail
        go_meet
        refine ⟨?_,((rX.out.setCell (by simp) _).drew)⟩;have:=kP.out.t1 HZ.out (y:Int);rw [HA.out,RH.out,show ((l.headD (-1),(z:Int),(l.length:Int)):Int × Int × Int)=Qu.lc l by unfold Qu.lc;rw [yU.out],List.Jq yT.out];exact this.drew
      case rest =>
       obtain ⟨gB,bZ⟩:=hcut;have qJ:=Lib.hid gB;have uT:=Lib.hid bZ;have DD:j < (Qu.ln R).length:=by simp [Qu.ln];exact hj
       have fY:((Qu.ln R).set j ((l ++ [(y:Int)]).headD (-1),la,(l.length:Int)))[j]?=some ((l ++ [(y:Int)]).headD (-1),la,(l.length:Int)):=by simp [DD]
       have BA:=Lib.hid fY;obtain ⟨⟨d0,d1,d2⟩,q0,q1,q2⟩:=gB.line fY;have EJ:Hid (Qu.ln (R.set j (l ++ [(y:Int)]))=(Qu.ln R).set j ((l ++ [(y:Int)]).headD (-1),(y:Int),(l.length:Int) + 1)):=Lib.hid (by
        rw [Qu.Jf];unfold Qu.lc;simp)
       clear gB bZ fY DD;generalize (l ++ [(y:Int)]).headD (-1)=hd at *
       go_wp2_with fail
       go_ret
       unfold rU;rw [HF.out];refine ⟨rfl,((uT.out.setCell (by simp) _).setCell (by simp) _),?_⟩;have r1:=qJ.out.l1 BA.out (y:Int);have r2:=r1.l2 (x:=j) (t:=(hd,(y:Int),(l.length:Int))) (by simp [Qu.ln,hj]) ((l.length:Int) + 1);simp only [List.set_set] at r2;exact r2.q rfl EJ.out.symm Rw.out
   ·have HF:Hid (Qu.push n R j y=(R,false)):=Lib.hid (by unfold Qu.push;rw [if_neg];simp [h1]);clear h hv
    go_enter Tryz.func109,Tryz.ntmps109
    go_wp2_with fail
    refine (oz _ _ _ _ _ _ H.out).mono ?_
    rintro e w1 ⟨rfl,rfl⟩
    rw [hk]
    go_wp2_with fail
    go_ret
    unfold rU;rw [HF.out];exact ⟨rfl,aq.refl _ _,H.out⟩
end Go.Proofs.YtdjhhbpedllnhaaGreat
