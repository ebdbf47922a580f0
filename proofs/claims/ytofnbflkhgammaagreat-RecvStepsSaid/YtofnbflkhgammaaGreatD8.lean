/-
  What the laws need, part D8.
  Conditions: none.
-/
import Derived.Test.YtofnbflkhgammaaGreatD7
import Derived.Deep.DrawnRows
set_option linter.unusedVariables false
set_option linter.unusedSimpArgs false
set_option linter.unnecessarySimpa false
set_option maxHeartbeats 2000000
namespace Go.Proofs.YtofnbflkhgammaaGreat
namespace Qu
def eZ:List Int→Int→Int
 | [],_=>-1
 | a :: l,x=>if a=x then l.headD (-1) else eZ l x
def jJ:Int→List Int→Int→Int
 | _,[],_=>-1
 | p,a :: l,x=>if a=x then p else jJ a l x
def fS (l:List Int) (x:Int):Int:=jJ (-1) l x
def loc:List (List Int)→Int→Option Nat
 | [],_=>none
 | l :: r,x=>if x∈l then some 0 else (loc r x).map (· + 1)
def tc (R:List (List Int)) (x:Int):Int × Int × Int :=
 match loc R x with
 | some k=>(k,eZ (R.getD k []) x,fS (R.getD k []) x)
 | none=>(-1,-1,-1)
def th (n:Nat) (R:List (List Int)):List (Int × Int × Int):=(List.range n).map fun (x:Nat)=>tc R (x:Int)
def lc (l:List Int):Int × Int × Int:=(l.headD (-1),l.getLastD (-1),(l.length:Int))
def ln (R:List (List Int)):List (Int × Int × Int):=R.map lc
structure Inv (n:Nat) (R:List (List Int)):Prop where
 uN:n≤64
 tC:R.length≤64
 one:∀ a,R.flatten.count a≤1
 bound:∀ a,a∈R.flatten→0≤a∧a < n
theorem yN {a b:List Int} {y:Int} (h:y∈a) (hd:a.count y≤1):eZ (a ++ b) y=if a.getLastD (-1)=y then b.headD (-1) else eZ a y:=by
 induction a with
 | nil=>simp at h
 | cons z r ih =>
  by_cases e:z=y
  ·subst e;rw [List.count_cons_self] at hd;have hr:z∉r:=fun hm=>by have:=List.count_pos_iff.2 hm;omega
   cases r with
   | nil=>simp [eZ]
   | cons u s =>
    have hl:(z :: u :: s).getLastD (-1)≠z:=by
     rw [List.getLastD_eq_getLast?,List.getLast?_cons_cons];intro hc;apply hr;rw [← hc,List.getLast?_eq_some_getLast (by simp)];exact List.getLast_mem _
    rw [if_neg hl];simp [eZ]
  ·have hm:y∈r:=by
    rcases List.mem_cons.1 h with h | h
    ·exact absurd h.symm e
    ·exact h
   rw [List.count_cons_of_ne (by simpa using e)] at hd;have:=ih hm hd
   cases r with
   | nil=>simp at hm
   | cons u s =>
    rw [List.cons_append,eZ,if_neg e,this];rw [show (z :: u :: s).getLastD (-1)=(u :: s).getLastD (-1) by simp [List.getLastD_eq_getLast?]];rw [show eZ (z :: u :: s) y=eZ (u :: s) y by rw [eZ,if_neg e]]
theorem wF {a b:List Int} {y:Int} (h:y∉a):eZ (a ++ b) y=eZ b y:=by
 induction a with
 | nil=>rfl
 | cons z r ih =>
  simp only [List.mem_cons,not_or] at h;rw [List.cons_append,eZ,if_neg (fun e=>h.1 e.symm),ih h.2]
theorem Q5 {a b:List Int} {y:Int} (h:y∈a):∀ p,jJ p (a ++ b) y=jJ p a y:=by
 induction a with
 | nil=>simp at h
 | cons z r ih =>
  intro p;rw [List.cons_append,jJ,jJ]
  by_cases e:z=y
  ·rw [if_pos e,if_pos e]
  ·rw [if_neg e,if_neg e];rcases List.mem_cons.1 h with h | h
   ·exact absurd h.symm e
   ·exact ih h z
theorem wG {a b:List Int} {y:Int} (h:y∈a):fS (a ++ b) y=fS a y:=Q5 h (-1)
theorem yP {a b:List Int} {y:Int} (h:y∉a):∀ p,jJ p (a ++ b) y=jJ (a.getLastD p) b y:=by
 induction a with
 | nil=>intro p;rfl
 | cons z r ih =>
  intro p;simp only [List.mem_cons,not_or] at h;rw [List.cons_append,jJ,if_neg (fun e=>h.1 e.symm),ih h.2,List.getLastD_cons]
theorem JG {b:List Int} {y p q:Int} (h:y∈b):jJ p b y=if b.headD (-1)=y then p else jJ q b y:=by
 cases b with
 | nil=>simp at h
 | cons z r =>
  show jJ p (z :: r) y=if z=y then p else jJ q (z :: r) y
  rw [jJ,jJ]
  by_cases e:z=y
  ·rw [if_pos e,if_pos e]
  ·rw [if_neg e,if_neg e,if_neg e]
theorem yQ {R:List (List Int)} {x:Int} {k:Nat} (h:loc R x=some k):k < R.length∧x∈R.getD k []:=by
 induction R generalizing k with
 | nil=>simp [loc] at h
 | cons l r ih =>
  rw [loc] at h
  split at h
  ·rename_i hm;obtain rfl:=Option.some.inj h;exact ⟨by simp,by simpa using hm⟩
  ·obtain ⟨j,hj,rfl⟩:=Option.map_eq_some_iff.1 h;have:=ih hj;exact ⟨by simp;omega,by simpa using this.2⟩
theorem qG {R:List (List Int)} {x:Int}:loc R x=none↔x∉R.flatten:=by
 induction R with
 | nil=>simp [loc]
 | cons l r ih =>
  rw [loc]
  by_cases h:x∈l
  ·rw [if_pos h];simp [h]
  ·rw [if_neg h];simp only [Option.map_eq_none_iff,List.flatten_cons,List.mem_append,h,false_or];exact ih
theorem Bo {R:List (List Int)} {x:Int} (h1:R.flatten.count x≤1) {k:Nat} (hk:k < R.length) (hx:x∈R.getD k []):loc R x=some k:=by
 induction R generalizing k with
 | nil=>simp at hk
 | cons l r ih =>
  rw [loc];rw [List.flatten_cons,List.count_append] at h1
  cases k with
  | zero=>rw [if_pos (by simpa using hx)]
  | succ k =>
   have fI:x∈r.getD k []:=by simpa using hx
   have Et:k < r.length:=by simpa using hk
   have hf:x∈r.flatten:=by
    rw [List.getD_eq_getElem?_getD,List.getElem?_eq_getElem Et] at fI;exact List.mem_flatten.2 ⟨r[k],List.getElem_mem Et,by simpa using fI⟩
   have h2:=List.count_pos_iff.2 hf;have hl:x∉l:=fun h=>by have:=List.count_pos_iff.2 h;omega
   rw [if_neg hl,ih (by omega) Et fI];rfl
theorem count_set (a:Int):∀ (C:List (List Int)) (g:Nat) (c c':List Int),C[g]?=some c→(C.set g c').flatten.count a + c.count a=C.flatten.count a + c'.count a
 | [],g,c,c',h=>by simp at h
 | y :: r,0,c,c',h=>by
  simp at h;subst h;simp [List.count_append];omega
 | y :: r,g + 1,c,c',h=>by
  have:=count_set a r g c c' (by simpa using h);simp [List.count_append];omega
theorem getD_some {R:List (List Int)} {k:Nat} (h:k < R.length):R[k]?=some (R.getD k []):=by
 rw [List.getD_eq_getElem?_getD,List.getElem?_eq_getElem h];rfl
theorem count_le {R:List (List Int)} {k:Nat} (h:k < R.length) (a:Int):(R.getD k []).count a≤R.flatten.count a:=by
 have:=count_set a R k _ [] (getD_some h);simp at this ⊢;omega
theorem mD {R:List (List Int)} {k j:Nat} {l:List Int} (h:k < R.length):(R.set k l).getD j []=if k=j then l else R.getD j []:=by
 by_cases e:k=j
 ·subst e;simp [h]
 ·simp [List.getD,e]
theorem JH {n:Nat} {R:List (List Int)} {k:Nat} {l':List Int} (v:Inv n R) (v':Inv n (R.set k l')) (hk:k < R.length) (y:Int) :
  loc (R.set k l') y=if y∈l' then some k else if loc R y=some k then none else loc R y:=by
 by_cases h:y∈l'
 ·rw [if_pos h];exact Bo (v'.one y) (by simpa using hk) (by rw [mD hk,if_pos rfl];exact h)
 ·rw [if_neg h]
  cases hl:loc (R.set k l') y with
  | none =>
   split
   ·rfl
   ·rename_i h2;have hf:=qG.1 hl
    cases hr:loc R y with
    | none=>rfl
    | some j =>
     obtain ⟨hj,m8⟩:=yQ hr;have wH:k≠j:=fun e=>h2 (by rw [hr,e])
     exact absurd (List.mem_flatten.2 ⟨R.getD j [],List.mem_of_getElem? (i:=j) (by rw [List.getElem?_set_ne wH];exact getD_some hj),m8⟩) hf
  | some j =>
   obtain ⟨hj,m8⟩:=yQ hl;rw [mD hk] at m8
   split at m8
   ·exact absurd m8 h
   ·rename_i wH;have fy:j < R.length:=by simpa using hj
    have:=Bo (v.one y) fy m8;rw [this,if_neg (by simpa using fun e=>wH e.symm)]
theorem iV (n:Nat) (R:List (List Int)):(th n R).length=n:=by simp [th]
theorem oh {n:Nat} {R:List (List Int)} {x:Nat} (h:x < n):(th n R)[x]?=some (tc R (x:Int)):=by simp [th,h]
theorem Bp {n:Nat} {R:List (List Int)} {l:List (Int × Int × Int)} (hl:l.length=n) (h:∀ x:Nat,x < n→l[x]?=some (tc R (x:Int))):l=th n R:=by
 apply List.ext_getElem?;intro i
 by_cases hi:i < n
 ·rw [h i hi,oh hi]
 ·rw [List.getElem?_eq_none (by omega),List.getElem?_eq_none (by rw [iV];omega)]
theorem JI (R:List (List Int)) (k:Nat) (l:List Int):ln (R.set k l)=(ln R).set k (lc l):=by simp [ln,List.map_set]
theorem Eu {R:List (List Int)} {k:Nat} (h:k < R.length):(ln R)[k]?=some (lc (R.getD k [])):=by
 simp only [ln,List.getElem?_map,getD_some h,Option.map_some]
theorem wI {n:Nat} {R:List (List Int)} (v:Inv n R) {k:Nat} (hk:k < R.length) {y:Int} (hy:y∈R.getD k []):tc R y=((k:Int),eZ (R.getD k []) y,fS (R.getD k []) y):=by
 unfold tc;rw [Bo (v.one y) hk hy]
theorem Bq {R:List (List Int)} {y:Int} (h:loc R y=none):tc R y=(-1,-1,-1):=by unfold tc;rw [h]
theorem JJ {n:Nat} {R:List (List Int)} {k:Nat} {l':List Int} (v:Inv n R) (v':Inv n (R.set k l')) (hk:k < R.length) {y:Int} (h1:y∉l') (h2:y∉R.getD k []):tc (R.set k l') y=tc R y:=by
 have h:=JH v v' hk y;rw [if_neg h1] at h;have h3:loc R y≠some k:=fun e=>h2 (yQ e).2
 rw [if_neg h3] at h;unfold tc;rw [h]
 cases hl:loc R y with
 | none=>rfl
 | some j =>
  have hj:k≠j:=fun e=>h3 (by rw [hl,e])
  simp only [mD hk,if_neg hj]
theorem JK {n:Nat} {R:List (List Int)} {k:Nat} {l':List Int} (v:Inv n R) (v':Inv n (R.set k l')) (hk:k < R.length) {y:Int} (h1:y∈l'):tc (R.set k l') y=((k:Int),eZ l' y,fS l' y):=by
 have:=wI v' (k:=k) (by simpa using hk) (y:=y) (by rw [mD hk,if_pos rfl];exact h1)
 rwa [mD hk,if_pos rfl] at this
theorem Q6 {n:Nat} {R:List (List Int)} {k:Nat} {l':List Int} (v:Inv n R) (v':Inv n (R.set k l')) (hk:k < R.length) {y:Int} (h1:y∉l') (h2:y∈R.getD k []):tc (R.set k l') y=(-1,-1,-1):=by
 have h:=JH v v' hk y;rw [if_neg h1,if_pos (Bo (v.one y) hk h2)] at h;exact Bq h
theorem qH {R:List (List Int)} {k:Nat} (hk:k < R.length) {y:Int} (hy:y∈R.getD k []):y∈R.flatten :=
 List.mem_flatten.2 ⟨_,List.mem_of_getElem? (getD_some hk),hy⟩
theorem JL {n:Nat} {R:List (List Int)} {k:Nat} {x:Int} (v:Inv n R) (hk:k < R.length) (h0:0≤x) (h1:x < n) (hx:loc R x=none):Inv n (R.set k (R.getD k [] ++ [x])):=by
 have hf:=qG.1 hx;refine ⟨v.uN,by simpa using v.tC,fun a=>?_,fun a ha=>?_⟩
 ·have h:=count_set a R k _ (R.getD k [] ++ [x]) (getD_some hk);have h2:=v.one a;rw [List.count_append,List.count_singleton] at h
  by_cases e:x=a
  ·subst e;have:R.flatten.count x=0:=List.count_eq_zero.2 hf;simp at h;simp;omega
  ·simp [e] at h;simp;omega
 ·have h:=count_set a R k _ (R.getD k [] ++ [x]) (getD_some hk);have h2:=List.count_pos_iff.2 ha;rw [List.count_append,List.count_singleton] at h
  by_cases e:x=a
  ·subst e;exact ⟨h0,h1⟩
  ·have e2:(x == a)=false:=by simpa using e
   rw [e2] at h;apply v.bound;apply List.count_pos_iff.1;simp only [Bool.false_eq_true,if_false] at h;omega
theorem Q7 {n:Nat} {R:List (List Int)} {k:Nat} {x:Int} (v:Inv n R) (hk:k < R.length) (h0:0≤x) (h1:x < n) (hx:loc R x=none) :
  th n (R.set k (R.getD k [] ++ [x]))=if R.getD k []=[] then (th n R).set x.toNat ((k:Int),-1,-1)
   else ((th n R).set x.toNat ((k:Int),-1,(R.getD k []).getLastD (-1))).set ((R.getD k []).getLastD (-1)).toNat ((k:Int),x,fS (R.getD k []) ((R.getD k []).getLastD (-1))):=by
 have v':=JL v hk h0 h1 hx;have hf:=qG.1 hx;have ki:x∉R.getD k []:=fun h=>hf (qH hk h)
 have ho:=v.one;have hb:=v.bound;have bZ:=fun a=>count_le hk (R:=R) a
 have Q8:=fun a=>qH hk (R:=R) (y:=a)
 have hJ:=fun y=>JK v v' hk (y:=y)
 have yR:=fun y=>JJ v v' hk (y:=y)
 have mI:=fun y=>wI v hk (y:=y)
 generalize R.getD k []=l at *
 symm
 have yS:tc (R.set k (l ++ [x])) x=((k:Int),-1,l.getLastD (-1)):=by
  rw [hJ x (by simp),wF ki,fS,yP ki];simp [eZ,jJ]
 split
 ·rename_i hl;subst hl;refine Bp (by simp [iV]) (fun y hy=>?_)
  by_cases e:x.toNat=y
  ·have:(y:Int)=x:=by omega
   rw [e,List.getElem?_set_self (by rw [iV];exact hy),this,yS];rfl
  ·rw [List.getElem?_set_ne e,oh hy];rw [yR (y:Int) (by simp;omega) (by simp)]
 ·rename_i hl;have qI:l.getLastD (-1)∈l:=by
   rw [List.getLastD_eq_getLast?,List.getLast?_eq_some_getLast hl];exact List.getLast_mem hl
  have Ev:=hb _ (Q8 _ qI);have hlx:l.getLastD (-1)≠x:=fun e=>ki (e ▸ qI)
  refine Bp (by simp [iV]) (fun y hy=>?_)
  by_cases e1:(l.getLastD (-1)).toNat=y
  ·have ey:(y:Int)=l.getLastD (-1):=by omega
   rw [e1,List.getElem?_set_self (by simp [iV];exact hy),ey,hJ _ (List.mem_append_left _ qI)];rw [yN qI (by have:=bZ (l.getLastD (-1));have:=ho (l.getLastD (-1));omega),if_pos rfl,wG qI];rfl
  ·rw [List.getElem?_set_ne e1]
   by_cases e:x.toNat=y
   ·have:(y:Int)=x:=by omega
    rw [e,List.getElem?_set_self (by rw [iV];exact hy),this,yS]
   ·rw [List.getElem?_set_ne e,oh hy]
    by_cases hm:(y:Int)∈l
    ·rw [hJ _ (by simp [hm]),mI _ hm,yN hm (by have:=bZ (y:Int);have:=ho (y:Int);omega),aB,wG hm]
    ·rw [yR (y:Int) (by simp [hm];omega) hm]
theorem Q9 {l:List Int} {x:Int} (h:x∈l):∃ a b,l=a ++ x :: b∧x∉a:=by
 induction l with
 | nil=>simp at h
 | cons z r ih =>
  by_cases e:z=x
  ·exact ⟨[],r,by simp [e],by simp⟩
  ·rcases List.mem_cons.1 h with h | h
   ·exact absurd h.symm e
   ·obtain ⟨a,b,rfl,hn⟩:=ih h;exact ⟨z :: a,b,rfl,by simp [hn];exact fun h=>e h.symm⟩
theorem JM {n:Nat} {R:List (List Int)} {k:Nat} {x:Int} {a b:List Int} (v:Inv n R) (hk:k < R.length) (hl:R.getD k []=a ++ x :: b):Inv n (R.set k (a ++ b)):=by
 refine ⟨v.uN,by simpa using v.tC,fun y=>?_,fun y hy=>?_⟩
 ·have h:=count_set y R k _ (a ++ b) (getD_some hk);have:=v.one y;rw [hl,List.count_append,List.count_append,List.count_cons] at h;omega
 ·have h:=count_set y R k _ (a ++ b) (getD_some hk);have h2:=List.count_pos_iff.2 hy;rw [hl,List.count_append,List.count_append,List.count_cons] at h;exact v.bound y (List.count_pos_iff.1 (by omega))
theorem Ra {n:Nat} {R:List (List Int)} {k:Nat} {x:Int} {a b:List Int} (v:Inv n R) (hk:k < R.length) (hl:R.getD k []=a ++ x :: b) :
  th n (R.set k (a ++ b)) =
   ((if b=[] then (if a=[] then th n R else (th n R).set (a.getLastD (-1)).toNat ((k:Int),b.headD (-1),fS a (a.getLastD (-1))))
    else (if a=[] then th n R else (th n R).set (a.getLastD (-1)).toNat ((k:Int),b.headD (-1),fS a (a.getLastD (-1)))).set (b.headD (-1)).toNat ((k:Int),eZ b (b.headD (-1)),a.getLastD (-1))).set x.toNat (-1,-1,-1)):=by
 have v':=JM v hk hl;have ho:∀ y,(a ++ x :: b).count y≤1:=fun y=>by rw [← hl];exact Nat.le_trans (count_le hk y) (v.one y)
 have hb:∀ y,y∈a ++ x :: b→0≤y∧y < n:=fun y hy=>v.bound y (qH hk (by rw [hl];exact hy))
 have hJ:=fun y=>JK v v' hk (y:=y)
 have yR:=fun y=>JJ v v' hk (y:=y)
 have tD:=fun y=>Q6 v v' hk (y:=y)
 have mI:=fun y=>wI v hk (y:=y)
 rw [hl] at yR tD mI;have dZ:∀ y,a.count y + ((if x=y then 1 else 0) + b.count y)≤1:=fun y=>by
  have:=ho y;rw [List.count_append,List.count_cons] at this
  by_cases e:x=y
  ·subst e;simp at this ⊢;omega
  ·have e2:(x == y)=false:=by simpa using e
   rw [e2] at this;rw [if_neg e];simp at this;omega
 have uO:x∉a:=fun h=>by have:=List.count_pos_iff.2 h;have:=dZ x;rw [if_pos rfl] at this;omega
 have tE:x∉b:=fun h=>by have:=List.count_pos_iff.2 h;have:=dZ x;rw [if_pos rfl] at this;omega
 have rT:∀ y,y∈a→y∉b:=fun y h1 h2=>by
  have:=List.count_pos_iff.2 h1;have:=List.count_pos_iff.2 h2;have:=dZ y;omega
 have ca:∀ y,a.count y≤1:=fun y=>by have:=dZ y;omega
 have jm:a≠[]→a.getLastD (-1)∈a:=fun h=>by
  rw [List.getLastD_eq_getLast?,List.getLast?_eq_some_getLast h];exact List.getLast_mem h
 have qJ:b≠[]→b.headD (-1)∈b:=fun h=>by cases b with
  | nil=>exact absurd rfl h
  | cons z r=>simp
 have aaj:=hb x (by simp)
 symm
 refine Bp (by split <;> split <;> simp [iV]) (fun y hy=>?_)
 by_cases ex:x.toNat=y
 ·have Rb:(y:Int)=x:=by omega
  rw [ex,List.getElem?_set_self (by split <;> split <;> (simp [iV];exact hy)),Rb,tD x (by simp [uO,tE]) (by simp)]
 ·rw [List.getElem?_set_ne ex];have uP:x≠(y:Int):=by omega
  have key:∀ T:List (Int × Int × Int),T.length=n→(∀ z:Nat,z < n→T[z]?=if a≠[]∧a.getLastD (-1)=(z:Int) then some ((k:Int),b.headD (-1),fS a (a.getLastD (-1))) else some (tc R (z:Int))) →
    (if b=[] then T else T.set (b.headD (-1)).toNat ((k:Int),eZ b (b.headD (-1)),a.getLastD (-1)))[y]?=some (tc (R.set k (a ++ b)) (y:Int)):=by
   intro T hT JN
   by_cases kD:(y:Int)∈a
   ·have qL:=rT _ kD;have e1:∀ h:b≠[],(b.headD (-1)).toNat≠y:=fun h e=>by
     have:=hb _ (List.mem_append_right _ (List.mem_cons_of_mem _ (qJ h)):b.headD (-1)∈a ++ x :: b);exact qL (by have:=qJ h;rwa [show b.headD (-1)=(y:Int) by omega] at this)
    have e2:(if b=[] then T else T.set (b.headD (-1)).toNat ((k:Int),eZ b (b.headD (-1)),a.getLastD (-1)))[y]?=T[y]?:=by
     split
     ·rfl
     ·rename_i h;rw [List.getElem?_set_ne (e1 h)]
    rw [e2,JN y hy,hJ _ (by simp [kD]),yN kD (ca _)];have Rc:a≠[]:=fun h=>by rw [h] at kD;simp at kD
    by_cases e3:a.getLastD (-1)=(y:Int)
    ·rw [if_pos ⟨Rc,e3⟩,if_pos e3,wG kD,e3]
    ·rw [if_neg (fun h=>e3 h.2),if_neg e3,mI _ (by simp [kD]),yN kD (ca _),if_neg e3,wG kD,wG kD]
   ·have e0:T[y]?=some (tc R (y:Int)):=by
     rw [JN y hy,if_neg]
     rintro ⟨h1,h2⟩
     exact kD (by have:=jm h1;rwa [h2] at this)
    by_cases qL:(y:Int)∈b
    ·have JP:b≠[]:=fun h=>by rw [h] at qL;simp at qL
     rw [if_neg JP,hJ _ (by simp [qL]),wF kD,fS,yP kD,JG (q:=x) qL];have JQ:=mI (y:Int) (by simp [qL]);rw [wF kD,fS,yP kD,jJ,if_neg uP,eZ,if_neg uP] at JQ
     by_cases e3:b.headD (-1)=(y:Int)
     ·rw [if_pos e3,show (b.headD (-1)).toNat=y by omega,List.getElem?_set_self (by rw [hT];exact hy),e3]
     ·rw [if_neg e3,List.getElem?_set_ne (by have:=hb _ (List.mem_append_right _ (List.mem_cons_of_mem _ (qJ JP)):b.headD (-1)∈a ++ x :: b);omega),e0,JQ]
    ·have e1:(if b=[] then T else T.set (b.headD (-1)).toNat ((k:Int),eZ b (b.headD (-1)),a.getLastD (-1)))[y]?=T[y]?:=by
      split
      ·rfl
      ·rename_i h;have:=hb _ (List.mem_append_right _ (List.mem_cons_of_mem _ (qJ h)):b.headD (-1)∈a ++ x :: b);rw [List.getElem?_set_ne (fun e=>qL (by have:=qJ h;rwa [show b.headD (-1)=(y:Int) by omega] at this))]
     rw [e1,e0,yR _ (by simp [kD,qL]) (by simp [kD,qL];exact fun e=>uP e.symm)]
  apply key
  ·split <;> simp [iV]
  ·intro z hz
   by_cases yT:a=[]
   ·rw [if_pos yT,if_neg (fun h=>h.1 yT),oh hz]
   ·rw [if_neg yT];have:=hb _ (List.mem_append_left _ (jm yT):a.getLastD (-1)∈a ++ x :: b)
    by_cases e3:a.getLastD (-1)=(z:Int)
    ·rw [if_pos ⟨yT,e3⟩,show (a.getLastD (-1)).toNat=z by omega,List.getElem?_set_self (by rw [iV];exact hz)]
    ·rw [if_neg (fun h=>e3 h.2),List.getElem?_set_ne (by omega),oh hz]
theorem Rd (c:Int) (l:List Int):l.length=(l.filter (fun a=>a≠c)).length + l.count c:=by
 induction l with
 | nil=>rfl
 | cons x r ih =>
  rw [List.count_cons,List.filter_cons]
  by_cases e:x=c
  ·subst e;simp at ih ⊢;omega
  ·have e2:(x == c)=false:=by simpa using e
   simp [e,e2] at ih ⊢;omega
theorem Br {l:List Int} {n:Nat} (h1:∀ a,l.count a≤1) (h2:∀ a∈l,0≤a∧a < (n:Int)):l.length≤n:=by
 induction n generalizing l with
 | zero =>
  cases l with
  | nil=>simp
  | cons x r=>have:=h2 x (by simp);omega
 | succ n ih =>
  have h3:=ih (l:=l.filter (fun a=>a≠(n:Int))) (fun a=>Nat.le_trans (List.Sublist.count_le a List.filter_sublist) (h1 a)) (fun a ha=>by
   simp only [List.mem_filter,decide_eq_true_eq] at ha;have:=h2 a ha.1;omega)
  have h4:=Rd (n:Int) l;have:=h1 (n:Int);omega
end Qu
open Go.RowKit
def t3 (t:Int × Int × Int):List Value:=[.int .i64 t.1,.int .i64 t.2.1,.int .i64 t.2.2]
theorem qM (t:Int × Int × Int):(t3 t).length=3:=rfl
def c7 (w:World) (b g1 o1 c1 g2 o2 c2:Nat) (A B:List (Int × Int × Int)):Prop :=
 cJ w b [.slice (some ⟨g1,o1,none⟩) A.length c1,.slice (some ⟨g2,o2,none⟩) B.length c2] 149 ∧
  ER t3 3 w (.slice (some ⟨g1,o1,none⟩) A.length c1) 151 A [g1]∧ER t3 3 w (.slice (some ⟨g2,o2,none⟩) B.length c2) 153 B [g2]∧b≠g1∧b≠g2∧g1≠g2
def Qq (w:World) (p:Value) (n:Nat) (R:List (List Int)) (S:List Nat):Prop :=
 ∃ b v1 v2 T1 T2,p=.pointer (some ⟨b,0,none⟩)∧cJ w b [v1,v2] 149∧ER t3 3 w v1 151 (Qu.th n R) T1∧ER t3 3 w v2 153 (Qu.ln R) T2 ∧
  b∉T1∧b∉T2∧(∀ x∈T1,x∉T2)∧S=b :: (T1 ++ T2)∧Qu.Inv n R
section
variable {w w':World} {p:Value} {n:Nat} {R:List (List Int)} {S T:List Nat}
theorem Qq.aY (h:Qq w p n R S) (k:aq T w w') (hn:∀ x∈S,x∉T):Qq w' p n R S:=by
 obtain ⟨b,v1,v2,T1,T2,rfl,hb,h1,h2,d1,d2,d3,rfl,hv⟩:=h;exact ⟨b,v1,v2,T1,T2,rfl,hb.aY k (hn b (by simp)),h1.aY k (fun x hx=>hn x (by simp [hx])),h2.aY k (fun x hx=>hn x (by simp [hx])),d1,d2,d3,rfl,hv⟩
theorem Qq.then (h:Qq w p n R S) (k:aq [] w w'):Qq w' p n R S:=h.aY k (by simp)
theorem Qq.lt (h:Qq w p n R S):∀ k∈S,k < w.heap.size:=by
 obtain ⟨b,v1,v2,T1,T2,rfl,hb,h1,h2,d1,d2,d3,rfl,hv⟩:=h;intro k hk;simp only [List.mem_cons,List.mem_append] at hk;rcases hk with rfl | hk | hk
 ·exact hb.lt
 ·exact h1.lt k hk
 ·exact h2.lt k hk
theorem Qq.shape (h:Qq w p n R S):∃ b,p=.pointer (some ⟨b,0,none⟩):=by
 obtain ⟨b,v1,v2,T1,T2,rfl,_⟩:=h;exact ⟨b,rfl⟩
theorem Qq.inv (h:Qq w p n R S):Qu.Inv n R:=by
 obtain ⟨b,v1,v2,T1,T2,rfl,hb,h1,h2,d1,d2,d3,rfl,hv⟩:=h;exact hv
theorem Qq.raw {b:Nat} (h:Qq w (.pointer (some ⟨b,0,none⟩)) n R S) (h0:0 < n) (h1:0 < R.length):∃ g1 o1 c1 g2 o2 c2,S=[b,g1,g2]∧c7 w b g1 o1 c1 g2 o2 c2 (Qu.th n R) (Qu.ln R):=by
 obtain ⟨b',v1,v2,T1,T2,e,hb,e1,e2,d1,d2,d3,rfl,hv⟩:=h;obtain rfl:b=b':=by simpa using e
 obtain ⟨a1,c1,rfl⟩:=e1.shape;obtain ⟨a2,c2,rfl⟩:=e2.shape;obtain ⟨g1,o1,rfl,rfl,_⟩:=e1.cells qM (by rw [Qu.iV];exact h0);obtain ⟨g2,o2,rfl,rfl,_⟩:=e2.cells qM (by simp [Qu.ln];omega);exact ⟨g1,o1,c1,g2,o2,c2,rfl,hb,e1,e2,by simpa using d1,by simpa using d2,by simpa using d3⟩
end
section
variable {w w':World} {b g1 o1 c1 g2 o2 c2 n:Nat} {A B:List (Int × Int × Int)}
theorem c7.q {R:List (List Int)} (h:c7 w b g1 o1 c1 g2 o2 c2 A B) (hA:A=Qu.th n R) (hB:B=Qu.ln R) (hv:Qu.Inv n R):Qq w (.pointer (some ⟨b,0,none⟩)) n R [b,g1,g2]:=by
 subst hA hB;obtain ⟨h1,h2,h3,d1,d2,d3⟩:=h;exact ⟨b,_,_,[g1],[g2],rfl,h1,h2,h3,by simpa using d1,by simpa using d2,by simpa using d3,rfl,hv⟩
theorem c7.drew (h:c7 w b g1 o1 c1 g2 o2 c2 A B):c7 w.drew b g1 o1 c1 g2 o2 c2 A B:=h
theorem c7.aP (h:c7 w b g1 o1 c1 g2 o2 c2 A B) {x:Nat} {t:Int × Int × Int} (hx:A[x]?=some t) :
  (w.cell? ⟨g1,o1 + x * 3,none⟩=some (.int .i64 t.1)∧w.cell? ⟨g1,o1 + x * 3 + 1,none⟩=some (.int .i64 t.2.1)∧w.cell? ⟨g1,o1 + x * 3 + 2,none⟩=some (.int .i64 t.2.2)) ∧
   w.frozen? ⟨g1,o1 + x * 3,none⟩=false∧w.frozen? ⟨g1,o1 + x * 3 + 1,none⟩=false∧w.frozen? ⟨g1,o1 + x * 3 + 2,none⟩=false:=by
 obtain ⟨_,h2,_,_⟩:=h;obtain ⟨g',o',e,_,_,hc,hf⟩:=h2.cells qM (by have:=(List.getElem?_eq_some_iff.1 hx).1;omega);obtain ⟨rfl,rfl⟩:=by simpa using e
 refine ⟨⟨hc x t 0 hx (by omega),?_,?_⟩,hf _,?_,?_⟩
 ·rw [Nat.add_assoc];exact hc x t 1 hx (by omega)
 ·rw [Nat.add_assoc];exact hc x t 2 hx (by omega)
 ·rw [Nat.add_assoc];exact hf _
 ·rw [Nat.add_assoc];exact hf _
theorem c7.line (h:c7 w b g1 o1 c1 g2 o2 c2 A B) {x:Nat} {t:Int × Int × Int} (hx:B[x]?=some t) :
  (w.cell? ⟨g2,o2 + x * 3,none⟩=some (.int .i64 t.1)∧w.cell? ⟨g2,o2 + x * 3 + 1,none⟩=some (.int .i64 t.2.1)∧w.cell? ⟨g2,o2 + x * 3 + 2,none⟩=some (.int .i64 t.2.2)) ∧
   w.frozen? ⟨g2,o2 + x * 3,none⟩=false∧w.frozen? ⟨g2,o2 + x * 3 + 1,none⟩=false∧w.frozen? ⟨g2,o2 + x * 3 + 2,none⟩=false:=by
 obtain ⟨_,_,h2,_⟩:=h;obtain ⟨g',o',e,_,_,hc,hf⟩:=h2.cells qM (by have:=(List.getElem?_eq_some_iff.1 hx).1;omega);obtain ⟨rfl,rfl⟩:=by simpa using e
 refine ⟨⟨hc x t 0 hx (by omega),?_,?_⟩,hf _,?_,?_⟩
 ·rw [Nat.add_assoc];exact hc x t 1 hx (by omega)
 ·rw [Nat.add_assoc];exact hc x t 2 hx (by omega)
 ·rw [Nat.add_assoc];exact hf _
 ·rw [Nat.add_assoc];exact hf _
theorem c7.head (h:c7 w b g1 o1 c1 g2 o2 c2 A B):w.cell? ⟨b,0,none⟩=some (.slice (some ⟨g1,o1,none⟩) A.length c1)∧w.cell? ⟨b,1,none⟩=some (.slice (some ⟨g2,o2,none⟩) B.length c2):=⟨h.1.cell 0,h.1.cell 1⟩
theorem c7.Ew (h:c7 w b g1 o1 c1 g2 o2 c2 A B) {x j:Nat} {t t':Int × Int × Int} {u:Value} (hx:A[x]?=some t) (hj:j < 3) (ht:t3 t'=(t3 t).set j u) :
  c7 (w.setCell ⟨g1,o1 + (x * 3 + j),none⟩ u) b g1 o1 c1 g2 o2 c2 (A.set x t') B:=by
 obtain ⟨h1,h2,h3,d1,d2,d3⟩:=h;refine ⟨?_,?_,?_,d1,d2,d3⟩
 ·rw [List.length_set];exact h1.other d1 _
 ·rw [List.length_set];exact (h2.stored qM hx hj ht).1
 ·exact h3.aY ((aq.refl [g1] w).setCell (by simp) _) (by simpa using fun e=>d3 e.symm)
theorem c7.kY (h:c7 w b g1 o1 c1 g2 o2 c2 A B) {x j:Nat} {t t':Int × Int × Int} {u:Value} (hx:B[x]?=some t) (hj:j < 3) (ht:t3 t'=(t3 t).set j u) :
  c7 (w.setCell ⟨g2,o2 + (x * 3 + j),none⟩ u) b g1 o1 c1 g2 o2 c2 A (B.set x t'):=by
 obtain ⟨h1,h2,h3,d1,d2,d3⟩:=h;refine ⟨?_,?_,?_,d1,d2,d3⟩
 ·rw [List.length_set];exact h1.other d2 _
 ·exact h2.aY ((aq.refl [g2] w).setCell (by simp) _) (by simpa using d3)
 ·rw [List.length_set];exact (h3.stored qM hx hj ht).1
theorem c7.t1 (h:c7 w b g1 o1 c1 g2 o2 c2 A B) {x:Nat} {t:Int × Int × Int} (hx:A[x]?=some t) (v:Int):c7 (w.setCell ⟨g1,o1 + x * 3 + 1,none⟩ (.int .i64 v)) b g1 o1 c1 g2 o2 c2 (A.set x (t.1,v,t.2.2)) B:=by
 rw [Nat.add_assoc];exact h.Ew hx (by omega) rfl
theorem c7.t2 (h:c7 w b g1 o1 c1 g2 o2 c2 A B) {x:Nat} {t:Int × Int × Int} (hx:A[x]?=some t) (v:Int):c7 (w.setCell ⟨g1,o1 + x * 3 + 2,none⟩ (.int .i64 v)) b g1 o1 c1 g2 o2 c2 (A.set x (t.1,t.2.1,v)) B:=by
 rw [Nat.add_assoc];exact h.Ew hx (by omega) rfl
theorem c7.t0 (h:c7 w b g1 o1 c1 g2 o2 c2 A B) {x:Nat} {t:Int × Int × Int} (hx:A[x]?=some t) (v:Int):c7 (w.setCell ⟨g1,o1 + x * 3,none⟩ (.int .i64 v)) b g1 o1 c1 g2 o2 c2 (A.set x (v,t.2)) B:=by
 have:=h.Ew (t':=(v,t.2)) (u:=.int .i64 v) hx (show 0 < 3 by omega) rfl;exact this
theorem c7.l1 (h:c7 w b g1 o1 c1 g2 o2 c2 A B) {x:Nat} {t:Int × Int × Int} (hx:B[x]?=some t) (v:Int):c7 (w.setCell ⟨g2,o2 + x * 3 + 1,none⟩ (.int .i64 v)) b g1 o1 c1 g2 o2 c2 A (B.set x (t.1,v,t.2.2)):=by
 rw [Nat.add_assoc];exact h.kY hx (by omega) rfl
theorem c7.l2 (h:c7 w b g1 o1 c1 g2 o2 c2 A B) {x:Nat} {t:Int × Int × Int} (hx:B[x]?=some t) (v:Int):c7 (w.setCell ⟨g2,o2 + x * 3 + 2,none⟩ (.int .i64 v)) b g1 o1 c1 g2 o2 c2 A (B.set x (t.1,t.2.1,v)):=by
 rw [Nat.add_assoc];exact h.kY hx (by omega) rfl
theorem c7.l0 (h:c7 w b g1 o1 c1 g2 o2 c2 A B) {x:Nat} {t:Int × Int × Int} (hx:B[x]?=some t) (v:Int):c7 (w.setCell ⟨g2,o2 + x * 3,none⟩ (.int .i64 v)) b g1 o1 c1 g2 o2 c2 A (B.set x (v,t.2)):=by
 have:=h.kY (t':=(v,t.2)) (u:=.int .i64 v) hx (show 0 < 3 by omega) rfl;exact this
theorem c7.Ex (h:c7 w b g1 o1 c1 g2 o2 c2 A B) {x:Nat} (hx:x < A.length) (a c d:Int) :
  c7 (((w.setCell ⟨g1,o1 + x * 3,none⟩ (.int .i64 a)).setCell ⟨g1,o1 + x * 3 + 1,none⟩ (.int .i64 c)).setCell ⟨g1,o1 + x * 3 + 2,none⟩ (.int .i64 d)) b g1 o1 c1 g2 o2 c2 (A.set x (a,c,d)) B:=by
 have e:=List.getElem?_eq_getElem hx;have h1:=h.t0 e a;have h2:=h1.t1 (x:=x) (t:=(a,A[x].2)) (by simp [hx]) c;have h3:=h2.t2 (x:=x) (t:=(a,c,A[x].2.2)) (by simp [hx]) d;simpa using h3
end
namespace Qu
def line (R:List (List Int)) (k:Int):Bool:=decide (0≤k) && decide (k < R.length)
def oo (R:List (List Int)) (x:Int):Int × Bool:=match loc R x with
 | some k=>(k,true)
 | none=>(0,false)
def row (R:List (List Int)) (k:Int):List Int:=if line R k then R.getD k.toNat [] else []
def first (R:List (List Int)) (k:Int):Int × Bool:=if row R k=[] then (0,false) else ((row R k).headD (-1),true)
theorem Bs {R:List (List Int)} {k:Int} (h:line R k=true):∃ j:Nat,k=j∧j < R.length:=by
 simp only [line,Bool.and_eq_true,decide_eq_true_eq] at h;obtain ⟨j,rfl⟩:=Int.eq_ofNat_of_zero_le h.1;exact ⟨j,rfl,by omega⟩
theorem yU {R:List (List Int)} {j:Nat} (h:j < R.length):row R j=R.getD j []:=by simp [row,line,h]
end Qu
theorem oq (w:World) (p:Value) (n:Nat) (R:List (List Int)) (S:List Nat) (k:Int) (h:Qq w p n R S) :
  Calls Tryz.prog 133 #[p,.int .i64 k] w fun e w'=>e=.returned (.bool (Qu.line R k))∧w=w':=by
 obtain ⟨b,v1,v2,T1,T2,rfl,hb,h1,h2,d1,d2,d3,rfl,hv⟩:=h;obtain ⟨ao,cap,rfl⟩:=h2.shape;have hl:(Qu.ln R).length=R.length:=by simp [Qu.ln]
 have hr:=hv.tC;rw [hl] at hb;have c1:w.cell? ⟨b,1,none⟩=some (.slice ao R.length cap):=hb.cell 1;clear hb h1 h2 hv hl
 cases h1:decide (0≤k) with
 | true =>
  go_enter Tryz.func133,Tryz.ntmps133
  go_wp2
  go_ret
  exact ⟨eI (by simp [Qu.line,h1]),rfl⟩
 | false =>
  go_enter Tryz.func133,Tryz.ntmps133
  go_wp2
  go_ret
  exact ⟨eI (by simp [Qu.line,h1]),rfl⟩
theorem Qq.Ey {w:World} {b n:Nat} {R:List (List Int)} {S:List Nat} (h:Qq w (.pointer (some ⟨b,0,none⟩)) n R S) {j:Nat} (hj:j < R.length):∃ g2 o2 c2,w.cell? ⟨b,1,none⟩=some (.slice (some ⟨g2,o2,none⟩) R.length c2) ∧
  w.cell? ⟨g2,o2 + j * 3,none⟩=some (.int .i64 ((R.getD j []).headD (-1)))∧w.cell? ⟨g2,o2 + j * 3 + 2,none⟩=some (.int .i64 (R.getD j []).length):=by
 obtain ⟨b',v1,v2,T1,T2,e,hb,e1,e2,d1,d2,d3,rfl,hv⟩:=h;obtain rfl:b=b':=by simpa using e
 obtain ⟨a2,c2,rfl⟩:=e2.shape;have hl:(Qu.ln R).length=R.length:=by simp [Qu.ln]
 obtain ⟨g2,o2,rfl,rfl,_,hc,_⟩:=e2.cells qM (by omega);have hx:=Qu.Eu hj;refine ⟨g2,o2,c2,by rw [← hl];exact hb.cell 1,hc j _ 0 hx (by omega),?_⟩;rw [Nat.add_assoc];exact hc j _ 2 hx (by omega)
theorem Re (w:World) (p:Value) (n:Nat) (R:List (List Int)) (S:List Nat) (k:Int) (h:Qq w p n R S) :
  Calls Tryz.prog 190 #[p,.int .i64 k] w fun e w'=>e=.returned (.int .i64 ((Qu.row R k).length:Int))∧w=w':=by
 obtain ⟨b,rfl⟩:=h.shape;have H:=Lib.hid h
 cases hk:Qu.line R k with
 | true =>
  obtain ⟨j,rfl,hj⟩:=Qu.Bs hk;obtain ⟨g2,o2,c2,c1,d0,d2⟩:=h.Ey hj;have hr:=h.inv.tC;have HF:Hid ((Qu.row R j).length=(R.getD j []).length):=Lib.hid (by rw [Qu.yU hj]);generalize (R.getD j []).length=m at *;clear h d0
  go_enter Tryz.func190,Tryz.ntmps190
  go_wp2_with fail
  refine (oq _ _ _ _ _ _ H.out).mono ?_
  rintro e w1 ⟨rfl,rfl⟩
  rw [hk]
  go_wp2_with fail
  go_ret
  exact ⟨AY (by rw [HF.out]),rfl⟩
 | false =>
  have HF:Hid ((Qu.row R k).length=0):=Lib.hid (by simp [Qu.row,hk]);clear h
  go_enter Tryz.func190,Tryz.ntmps190
  go_wp2_with fail
  refine (oq _ _ _ _ _ _ H.out).mono ?_
  rintro e w1 ⟨rfl,rfl⟩
  rw [hk]
  go_wp2_with fail
  go_ret
  exact ⟨AY (by rw [HF.out];rfl),rfl⟩
theorem Rf (w:World) (p:Value) (n:Nat) (R:List (List Int)) (S:List Nat) (k:Int) (h:Qq w p n R S) :
  Calls Tryz.prog 110 #[p,.int .i64 k] w fun e w'=>e=.returned (.tuple #[.int .i64 (Qu.first R k).1,.bool (Qu.first R k).2])∧w=w':=by
 obtain ⟨b,rfl⟩:=h.shape;have H:=Lib.hid h
 cases hk:Qu.line R k with
 | true =>
  obtain ⟨j,rfl,hj⟩:=Qu.Bs hk;obtain ⟨g2,o2,c2,c1,d0,d2⟩:=h.Ey hj;have hr:=h.inv.tC
  cases hq:(((R.getD j []).length:Int) == 0) with
  | true =>
   have HF:Hid (Qu.first R j=(0,false)):=Lib.hid (by unfold Qu.first;rw [Qu.yU hj,if_pos (by simpa using hq)]);generalize (R.getD j []).length=m at *;clear h d0
   go_enter Tryz.func110,Tryz.ntmps110
   go_wp2_with fail
   refine (oq _ _ _ _ _ _ H.out).mono ?_
   rintro e w1 ⟨rfl,rfl⟩
   rw [hk]
   go_wp2_with fail
   go_ret2
   exact ⟨by rw [HF.out];rfl,rfl⟩
  | false =>
   have HF:Hid (Qu.first R j=((R.getD j []).headD (-1),true)):=Lib.hid (by unfold Qu.first;rw [Qu.yU hj,if_neg (by simpa using hq)]);generalize (R.getD j []).headD (-1)=hd at *;generalize (R.getD j []).length=m at *;clear h
   go_enter Tryz.func110,Tryz.ntmps110
   go_wp2_with fail
   refine (oq _ _ _ _ _ _ H.out).mono ?_
   rintro e w1 ⟨rfl,rfl⟩
   rw [hk]
   go_wp2_with fail
   go_ret2
   exact ⟨by rw [HF.out];rfl,rfl⟩
 | false =>
  have HF:Hid (Qu.first R k=(0,false)):=Lib.hid (by simp [Qu.first,Qu.row,hk]);clear h
  go_enter Tryz.func110,Tryz.ntmps110
  go_wp2_with fail
  refine (oq _ _ _ _ _ _ H.out).mono ?_
  rintro e w1 ⟨rfl,rfl⟩
  rw [hk]
  go_wp2_with fail
  go_ret2
  exact ⟨by rw [HF.out];rfl,rfl⟩
theorem Qq.Ez {w:World} {b n:Nat} {R:List (List Int)} {S:List Nat} (h:Qq w (.pointer (some ⟨b,0,none⟩)) n R S) {x:Nat} (hx:x < n):∃ g1 o1 c1,w.cell? ⟨b,0,none⟩=some (.slice (some ⟨g1,o1,none⟩) n c1)∧g1∈S ∧
  w.cell? ⟨g1,o1 + x * 3,none⟩=some (.int .i64 (Qu.tc R x).1)∧w.cell? ⟨g1,o1 + x * 3 + 1,none⟩=some (.int .i64 (Qu.tc R x).2.1):=by
 obtain ⟨b',v1,v2,T1,T2,e,hb,e1,e2,d1,d2,d3,rfl,hv⟩:=h;obtain rfl:b=b':=by simpa using e
 obtain ⟨a1,c1,rfl⟩:=e1.shape;have hl:=Qu.iV n R;obtain ⟨g1,o1,rfl,rfl,_,hc,_⟩:=e1.cells qM (by omega);have hg:=Qu.oh (R:=R) hx;refine ⟨g1,o1,c1,by have:=hb.cell 0;rw [hl] at this;exact this,by simp,hc x _ 0 hg (by omega),?_⟩;rw [Nat.add_assoc];exact hc x _ 1 hg (by omega)
theorem Qq.JR {w:World} {b n:Nat} {R:List (List Int)} {S:List Nat} (h:Qq w (.pointer (some ⟨b,0,none⟩)) n R S):∃ ao c1,w.cell? ⟨b,0,none⟩=some (.slice ao n c1):=by
 obtain ⟨b',v1,v2,T1,T2,e,hb,e1,e2,d1,d2,d3,rfl,hv⟩:=h;obtain rfl:b=b':=by simpa using e
 obtain ⟨a1,c1,rfl⟩:=e1.shape;exact ⟨a1,c1,by have:=hb.cell 0;rw [Qu.iV] at this;exact this⟩
theorem JU (w:World) (p:Value) (n:Nat) (R:List (List Int)) (S:List Nat) (x:Int) (h:Qq w p n R S) :
  Calls Tryz.prog 162 #[p,.int .i64 x] w fun e w'=>e=.returned (.tuple #[.int .i64 (Qu.oo R x).1,.bool (Qu.oo R x).2])∧w=w':=by
 obtain ⟨b,rfl⟩:=h.shape;have hv:=h.inv;have hn:=hv.uN;obtain ⟨ao,cap,ch⟩:=h.JR;have wJ:(x < 0∨(n:Int)≤x)→Qu.oo R x=(0,false):=fun hx=>by
  have:Qu.loc R x=none:=Qu.qG.2 (fun hm=>by have:=hv.bound x hm;omega);unfold Qu.oo;rw [this]
 by_cases h0:x < 0
 ·have HF:=Lib.hid (wJ (.inl h0));clear wJ h hv
  go_enter Tryz.func162,Tryz.ntmps162
  go_wp2_with fail
  go_ret2
  exact ⟨by rw [HF.out];rfl,rfl⟩
 ·obtain ⟨y,rfl⟩:=Int.eq_ofNat_of_zero_le (show 0≤x by omega)
  by_cases h1:y < n
  ·obtain ⟨g1,o1,c1,e0,_,e1,_⟩:=h.Ez h1
   cases hl:Qu.loc R (y:Int) with
   | none =>
    have ht:(Qu.tc R (y:Int)).1=-1:=by rw [Qu.Bq hl]
    have HF:Hid (Qu.oo R (y:Int)=(0,false)):=Lib.hid (by unfold Qu.oo;rw [hl]);rw [ht] at e1;clear wJ h hv hl ht ch
    go_enter Tryz.func162,Tryz.ntmps162
    go_wp2_with fail
    go_ret2
    exact ⟨by rw [HF.out];rfl,rfl⟩
   | some k =>
    have ht:(Qu.tc R (y:Int)).1=(k:Int):=by unfold Qu.tc;rw [hl]
    have HF:Hid (Qu.oo R (y:Int)=((k:Int),true)):=Lib.hid (by unfold Qu.oo;rw [hl]);rw [ht] at e1;have br:((k:Int) == -1)=false:=by simp
    clear wJ h hv hl ht ch
    go_enter Tryz.func162,Tryz.ntmps162
    go_wp2_with fail
    go_ret2
    exact ⟨by rw [HF.out];rfl,rfl⟩
  ·have HF:=Lib.hid (wJ (.inr (by omega)));clear wJ h hv
   go_enter Tryz.func162,Tryz.ntmps162
   go_wp2_with fail
   go_ret2
   exact ⟨by rw [HF.out];rfl,rfl⟩
open Go.RowKit
attribute [local go_sem ↓] Go.wp_at_zero Go.wp_at_succ
theorem List.JV {α:Type} {l:List α} {k:Nat} {x:α} (h:l[k]?=some x):l.set k x=l:=by
 obtain ⟨hk,rfl⟩:=List.getElem?_eq_some_iff.1 h;simp
namespace Qu
theorem Rh {l m:List Int} {d:Int} (h:l≠[]):(l ++ m).headD d=l.headD d:=by
 cases l with
 | nil=>exact absurd rfl h
 | cons a r=>rfl
def push (n:Nat) (R:List (List Int)) (k x:Int):List (List Int) × Bool :=
 if line R k && decide (0≤x) && decide (x < n) && (loc R x).isNone then (R.set k.toNat (row R k ++ [x]),true) else (R,false)
end Qu
def rU (r:List (List Int) × Bool) (p:Value) (n:Nat) (S:List Nat) (w:World) (e:Ending) (w':World):Prop :=
 e=.returned (.bool r.2)∧aq S w w'∧Qq w' p n r.1 S
set_option maxRecDepth 100000 in
set_option maxHeartbeats 1600000 in
theorem Ri (w:World) (p:Value) (n:Nat) (R:List (List Int)) (S:List Nat) (k x:Int) (h:Qq w p n R S) :
  Calls Tryz.prog 107 #[p,.int .i64 k,.int .i64 x] w (rU (Qu.push n R k x) p n S w):=by
 obtain ⟨b,rfl⟩:=h.shape;have H:=Lib.hid h;have hv:=h.inv;have HV:=Lib.hid hv;have hn:=hv.uN;obtain ⟨ao,cap,ch⟩:=h.JR
 cases hk:Qu.line R k with
 | false =>
  have HF:Hid (Qu.push n R k x=(R,false)):=Lib.hid (by simp [Qu.push,hk]);clear h hv ch
  go_enter Tryz.func107,Tryz.ntmps107
  go_wp2_with fail
  refine (oq _ _ _ _ _ _ H.out).mono ?_
  rintro e w1 ⟨rfl,rfl⟩
  rw [hk]
  go_wp2_with fail
  go_ret
  unfold rU;rw [HF.out];exact ⟨rfl,aq.refl _ _,H.out⟩
 | true =>
  obtain ⟨j,rfl,hj⟩:=Qu.Bs hk
  by_cases h0:x < 0
  ·have HF:Hid (Qu.push n R j x=(R,false)):=Lib.hid (by unfold Qu.push;rw [if_neg];simp;omega);clear h hv ch
   go_enter Tryz.func107,Tryz.ntmps107
   go_wp2_with fail
   refine (oq _ _ _ _ _ _ H.out).mono ?_
   rintro e w1 ⟨rfl,rfl⟩
   rw [hk]
   go_wp2_with fail
   go_ret
   unfold rU;rw [HF.out];exact ⟨rfl,aq.refl _ _,H.out⟩
  ·obtain ⟨y,rfl⟩:=Int.eq_ofNat_of_zero_le (show 0≤x by omega)
   by_cases h1:y < n
   ·cases hl:Qu.loc R (y:Int) with
    | some j2 =>
     have HF:Hid (Qu.push n R j y=(R,false)):=Lib.hid (by unfold Qu.push;rw [if_neg];simp [hl]);obtain ⟨g1,o1,c1,e0,_,e1,_⟩:=h.Ez h1;have ht:(Qu.tc R (y:Int)).1=(j2:Int):=by unfold Qu.tc;rw [hl]
     rw [ht] at e1;have br:((j2:Int) != -1)=true:=by simp
     clear h hv ch hl ht
     go_enter Tryz.func107,Tryz.ntmps107
     go_wp2_with fail
     refine (oq _ _ _ _ _ _ H.out).mono ?_
     rintro e w1 ⟨rfl,rfl⟩
     rw [hk]
     go_wp2_with fail
     go_ret
     unfold rU;rw [HF.out];exact ⟨rfl,aq.refl _ _,H.out⟩
    | none =>
     have HF:Hid (Qu.push n R j y=(R.set j (R.getD j [] ++ [(y:Int)]),true)):=Lib.hid (by unfold Qu.push;rw [if_pos (by simp [hk,hl,h1]),Qu.yU hj];rfl);obtain ⟨g1,o1,c1,g2,o2,c2,rfl,cK⟩:=h.raw (by omega) (by omega);have EA:=Qu.JL hv hj (show 0≤(y:Int) by omega) (by omega) hl;have Bt:=Qu.Q7 hv hj (show 0≤(y:Int) by omega) (by omega) hl;rw [Int.toNat_natCast] at Bt;have kE:=fun z hz=>hv.bound z (Qu.qH hj (y:=z) hz)
     have mI:=fun z hz=>Qu.wI hv hj (y:=z) hz
     have EB:(y:Int)∉R.getD j []:=fun hm=>Qu.qG.1 hl (Qu.qH hj hm)
     have hlen:(R.getD j []).length≤64:=by
      have h1:=fun a=>Qu.count_le hj (R:=R) a
      have h2:=hv.one;have:=Qu.Br (l:=R.getD j []) (n:=n) (fun a=>Nat.le_trans (h1 a) (h2 a)) kE;omega
     have rV:=Qu.Eu hj;have yV:(Qu.ln R).length=R.length:=by simp [Qu.ln]
     obtain ⟨l,jX⟩:∃ l,R.getD j []=l:=⟨_,rfl⟩
     rw [jX] at Bt EA kE mI EB hlen rV HF;have ht:=Qu.Bq hl;have uQ:=Qu.oh (R:=R) h1;rw [ht] at uQ;obtain ⟨⟨e0,e1,e2⟩,f0,f1,f2⟩:=cK.aP uQ;obtain ⟨⟨d0,d1,d2⟩,q0,q1,q2⟩:=cK.line rV;obtain ⟨ot,mJ⟩:=cK.head;rw [Qu.iV] at ot;rw [yV] at mJ;have HR:=Lib.hid cK;have Rj:=Lib.hid EA;have JX:=Lib.hid Bt;have yW:=Lib.hid rV;have EC:=Lib.hid kE;have Rk:=Lib.hid mI;have Rl:=Lib.hid EB;obtain ⟨n1,n2,n3⟩:=(⟨cK.2.2.2.1,cK.2.2.2.2.1,cK.2.2.2.2.2⟩:b≠g1∧b≠g2∧g1≠g2)
     have Rm:g2≠g1:=fun e=>n3 e.symm
     have Ro:=hv.tC;simp only [Qu.lc] at d0 d1 d2;have Rp:(j:Int) < (R.length:Int):=by omega
     have JY:(y:Int) < (n:Int):=by omega
     obtain ⟨la,jm⟩:∃ la,l.getLastD (-1)=la:=⟨_,rfl⟩
     rw [jm] at d1;have yX:=Lib.hid jm;clear h hv ch hl cK EA Bt rV kE mI EB ht uQ jX yV jm
     go_enter Tryz.func107,Tryz.ntmps107
     go_wp2_with fail
     refine (oq _ _ _ _ _ _ H.out).mono ?_
     rintro e w1 ⟨rfl,rfl⟩
     rw [hk]
     go_upto_region 5 with fail
     go_cut [42] (fun _ w'=>c7 w' b g1 o1 c1 g2 o2 c2 ((Qu.th n R).set y ((j:Int),-1,la)) (Qu.ln R)∧aq [b,g1,g2] w w')
     case first =>
      go_wp2_with fail
      go_region
      go_wp2_with fail
      go_meet
      exact ⟨(HR.out.Ex (x:=y) (by rw [Qu.iV];exact h1) (j:Int) (-1) la).drew,((((aq.refl _ w).setCell (by simp) _).setCell (by simp) _).setCell (by simp) _).drew⟩
     case rest =>
      obtain ⟨rW,br⟩:=hcut;have nv:=Lib.hid rW;have rX:=Lib.hid br;obtain ⟨⟨d0,d1,d2⟩,q0,q1,q2⟩:=rW.line yW.out;simp only [Qu.lc] at d0 d1 d2;rw [yX.out] at d1;obtain ⟨ot,mJ⟩:=rW.head;rw [List.length_set,Qu.iV] at ot;rw [show (Qu.ln R).length=R.length by simp [Qu.ln]] at mJ;clear rW br e0 e1 e2 f0 f1 f2;obtain ⟨q5,Rq⟩:∃ q,(la == -1)=q:=⟨_,rfl⟩
      have JZ:=Lib.hid Rq
      go_upto_if 58 with fail
      go_cut [42] (fun _ w'=>c7 w' b g1 o1 c1 g2 o2 c2 (Qu.th n (R.set j (l ++ [(y:Int)]))) ((Qu.ln R).set j ((l ++ [(y:Int)]).headD (-1),la,(l.length:Int)))∧aq [b,g1,g2] w w')
      case first =>
       by_cases uR:l=[]
       ·subst uR;have J0:la=-1:=yX.out.symm;obtain rfl:q5=true:=by rw [← JZ.out,J0];rfl
        subst J0;have HA:Hid (Qu.th n (R.set j ([] ++ [(y:Int)]))=(Qu.th n R).set y ((j:Int),-1,-1)):=Lib.hid (by have:=JX.out;rwa [if_pos rfl] at this)
        go_wp2_with fail
        go_meet
        refine ⟨?_,(rX.out.setCell (by simp) _)⟩;have:=nv.out.l0 yW.out (y:Int);rw [HA.out];exact this
       ·have qI:la∈l:=by
         rw [← yX.out,List.getLastD_eq_getLast?,List.getLast?_eq_some_getLast uR];exact List.getLast_mem uR
        have Ev:=EC.out la qI;obtain ⟨z,rfl⟩:=Int.eq_ofNat_of_zero_le Ev.1;have wK:z < n:=by omega
        have Rr:y≠z:=fun e=>Rl.out (by rw [e];exact qI)
        have HA:Hid (Qu.th n (R.set j (l ++ [(y:Int)]))=((Qu.th n R).set y ((j:Int),-1,(z:Int))).set z ((j:Int),(y:Int),Qu.fS l (z:Int))):=Lib.hid (by
         have:=JX.out;rw [if_neg uR,yX.out,Int.toNat_natCast] at this;exact this)
        have ou:((Qu.th n R).set y ((j:Int),-1,(z:Int)))[z]?=some ((j:Int),Qu.eZ l (z:Int),Qu.fS l (z:Int)):=by
         rw [List.getElem?_set_ne Rr,Qu.oh wK,Rk.out _ qI]
        have HZ:=Lib.hid ou;obtain ⟨⟨z0,z1,z2⟩,J3,J4,J5⟩:=nv.out.aP ou;have J6:(z:Int) < (n:Int):=by omega
        obtain rfl:q5=false:=by rw [← JZ.out];simp
        have Rs:Hid ((l ++ [(y:Int)]).headD (-1)=l.headD (-1)):=Lib.hid (Qu.Rh uR);clear qI Ev ou uR;generalize Qu.eZ l (z:Int)=nz at *
        go_wp2_with fail
        go_region
        go_wp2_with fail
        go_meet
        refine ⟨?_,((rX.out.setCell (by simp) _).drew)⟩;have:=nv.out.t1 HZ.out (y:Int);rw [HA.out,Rs.out,show ((l.headD (-1),(z:Int),(l.length:Int)):Int × Int × Int)=Qu.lc l by unfold Qu.lc;rw [yX.out],List.JV yW.out];exact this.drew
      case rest =>
       obtain ⟨gf,aQ⟩:=hcut;have uS:=Lib.hid gf;have uT:=Lib.hid aQ;have yf:j < (Qu.ln R).length:=by simp [Qu.ln];exact hj
       have gP:((Qu.ln R).set j ((l ++ [(y:Int)]).headD (-1),la,(l.length:Int)))[j]?=some ((l ++ [(y:Int)]).headD (-1),la,(l.length:Int)):=by simp [yf]
       have Bu:=Lib.hid gP;obtain ⟨⟨d0,d1,d2⟩,q0,q1,q2⟩:=gf.line gP;have ED:Hid (Qu.ln (R.set j (l ++ [(y:Int)]))=(Qu.ln R).set j ((l ++ [(y:Int)]).headD (-1),(y:Int),(l.length:Int) + 1)):=Lib.hid (by
        rw [Qu.JI];unfold Qu.lc;simp)
       clear gf aQ gP yf;generalize (l ++ [(y:Int)]).headD (-1)=hd at *
       go_wp2_with fail
       go_ret
       unfold rU;rw [HF.out];refine ⟨rfl,((uT.out.setCell (by simp) _).setCell (by simp) _),?_⟩;have r1:=uS.out.l1 Bu.out (y:Int);have r2:=r1.l2 (x:=j) (t:=(hd,(y:Int),(l.length:Int))) (by simp [Qu.ln,hj]) ((l.length:Int) + 1);simp only [List.set_set] at r2;exact r2.q rfl ED.out.symm Rj.out
   ·have HF:Hid (Qu.push n R j y=(R,false)):=Lib.hid (by unfold Qu.push;rw [if_neg];simp [h1]);clear h hv
    go_enter Tryz.func107,Tryz.ntmps107
    go_wp2_with fail
    refine (oq _ _ _ _ _ _ H.out).mono ?_
    rintro e w1 ⟨rfl,rfl⟩
    rw [hk]
    go_wp2_with fail
    go_ret
    unfold rU;rw [HF.out];exact ⟨rfl,aq.refl _ _,H.out⟩
end Go.Proofs.YtofnbflkhgammaaGreat
