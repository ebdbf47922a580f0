/-
  What the laws need, part Q7.
  Conditions: none.
-/
import Derived.Test.YtdibmkjoaghafaaQ6
import Derived.Laws.Entries
set_option linter.unusedVariables false
set_option linter.unusedSimpArgs false
set_option linter.unnecessarySimpa false
set_option maxHeartbeats 2000000
namespace Go.Proofs.Ytdibmkjoaghafaa
namespace Ss
variable {α:Type}
def sw (l:List α) (i j:Nat):List α:=match l[i]?,l[j]? with
 | some x,some y=>(l.set i y).set j x
 | _,_=>l
theorem sw_some {l:List α} {i j:Nat} {x y:α} (hi:l[i]?=some x) (hj:l[j]?=some y):sw l i j=(l.set i y).set j x:=by unfold sw;rw [hi,hj]
theorem sw_len (l:List α) (i j:Nat):(sw l i j).length=l.length:=by unfold sw;split <;> simp
theorem at_app (X:List α) (x:α) (Y:List α):(X ++ x :: Y)[X.length]?=some x:=by simp
theorem set_app (X:List α) (x y:α) (Y:List α):(X ++ x :: Y).set X.length y=X ++ y :: Y:=by simp
theorem sw_app (X:List α) (x:α) (M:List α) (y:α) (Y:List α) (i j:Nat) (hi:i=X.length) (hj:j=X.length + M.length + 1) :
  sw (X ++ x :: (M ++ y :: Y)) i j=X ++ y :: (M ++ x :: Y):=by
 subst hi;have e:∀ a:α,∀ Z:List α,X ++ a :: (M ++ Z)=(X ++ a :: M) ++ Z:=by intro a Z;simp
 have l2:∀ a:α,(X ++ a :: M).length=j:=by intro a;simp;omega
 have h2:(X ++ x :: (M ++ y :: Y))[j]?=some y:=by rw [e,← l2 x];exact at_app _ _ _
 rw [sw_some (at_app _ _ _) h2,set_app,e,← l2 y,set_app,← e]
theorem sw_adj (X:List α) (x y:α) (Y:List α) (i j:Nat) (hi:i=X.length) (hj:j=X.length + 1):sw (X ++ x :: y :: Y) i j=X ++ y :: x :: Y:=sw_app X x [] y Y i j hi (by simpa using hj)
theorem sw_comm (l:List α) (i j:Nat):sw l i j=sw l j i:=by
 unfold sw
 cases h1:l[i]? with
 | none=>cases h2:l[j]? <;> rfl
 | some x =>
  cases h2:l[j]? with
  | none=>rfl
  | some y =>
   simp only
   by_cases h:i=j
   ·subst h;rw [h1] at h2;cases h2;rfl
   ·exact List.set_comm _ _ h
def swr (l:List α) (a b:Nat):Nat→List α
 | 0=>l
 | n + 1=>sw (swr l a b n) (a + n) (b + n)
theorem swr_len (l:List α) (a b:Nat):∀ n,(swr l a b n).length=l.length
 | 0=>rfl
 | n + 1=>by rw [swr,sw_len,swr_len l a b n]
theorem swr_app:∀ (n:Nat) (X A M B Y:List α) (a b:Nat),A.length=n→B.length=n→a=X.length→b=X.length + n + M.length→swr (X ++ A ++ M ++ B ++ Y) a b n=X ++ B ++ M ++ A ++ Y
 | 0,X,A,M,B,Y,a,b,hA,hB,_,_=>by
  rw [List.length_eq_zero_iff.1 hA,List.length_eq_zero_iff.1 hB];rfl
 | n + 1,X,A,M,B,Y,a,b,hA,hB,ha,hb=>by
  obtain ⟨A',x,rfl⟩:∃ A' x,A=A' ++ [x]:=⟨A.dropLast,A.getLast (by intro h;rw [h] at hA;simp at hA),(List.dropLast_concat_getLast _).symm⟩
  obtain ⟨B',y,rfl⟩:∃ B' y,B=B' ++ [y]:=⟨B.dropLast,B.getLast (by intro h;rw [h] at hB;simp at hB),(List.dropLast_concat_getLast _).symm⟩
  simp only [List.length_append,List.length_singleton] at hA hB;have ih:=swr_app n X A' (x :: M) B' (y :: Y) a b (by omega) (by omega) ha (by simp;omega);have e:X ++ (A' ++ [x]) ++ M ++ (B' ++ [y]) ++ Y=X ++ A' ++ (x :: M) ++ B' ++ (y :: Y):=by simp
  rw [swr,e,ih];have e2:X ++ B' ++ (x :: M) ++ A' ++ (y :: Y)=(X ++ B') ++ x :: ((M ++ A') ++ y :: Y):=by simp
  rw [e2,sw_app _ _ _ _ _ _ _ (by simp;omega) (by simp;omega)];simp
def rot (l:List α) (m i j:Nat):List α :=
 if h:i=j∨i=0∨j=0 then swr l (m - i) m i
 else if h2:j < i then rot (swr l (m - i) m j) m (i - j) j
 else rot (swr l (m - i) (m + j - i) i) m i (j - i)
termination_by i + j
decreasing_by all_goals omega
theorem rot_eq (l:List α) (m i:Nat):rot l m i i=swr l (m - i) m i:=by rw [rot,dif_pos (.inl rfl)]
theorem rot_gt (l:List α) (m i j:Nat) (h:j < i) (hj:j≠0):rot l m i j=rot (swr l (m - i) m j) m (i - j) j:=by rw [rot,dif_neg (by omega),dif_pos h]
theorem rot_lt (l:List α) (m i j:Nat) (h:i < j) (hi:i≠0):rot l m i j=rot (swr l (m - i) (m + j - i) i) m i (j - i):=by rw [rot,dif_neg (by omega),dif_neg (by omega)]
theorem rot_app (m:Nat):∀ (s:Nat) (X U V Y:List α),U.length + V.length≤s→U.length≠0→V.length≠0→m=X.length + U.length→rot (X ++ U ++ V ++ Y) m U.length V.length=X ++ V ++ U ++ Y
 | 0,X,U,V,Y,hs,hu,hv,hm=>by omega
 | s + 1,X,U,V,Y,hs,hu,hv,hm=>by
  rcases Nat.lt_trichotomy U.length V.length with h | h | h
  ·rw [rot_lt _ _ _ _ h hu];obtain ⟨V1,V2,rfl,hl⟩:∃ V1 V2,V=V1 ++ V2∧V2.length=U.length:=⟨V.take (V.length - U.length),V.drop (V.length - U.length),(List.take_append_drop _ _).symm,by simp;omega⟩
   simp only [List.length_append] at h hs hv ⊢;have e:=swr_app U.length X U V1 V2 Y (m - U.length) (m + (V1.length + V2.length) - U.length) rfl hl (by omega) (by omega);rw [show X ++ U ++ (V1 ++ V2) ++ Y=X ++ U ++ V1 ++ V2 ++ Y by simp,e];have ih:=rot_app m s X V2 V1 (U ++ Y) (by omega) (by omega) (by omega) (by omega);rw [show X ++ V2 ++ V1 ++ U ++ Y=X ++ V2 ++ V1 ++ (U ++ Y) by simp,show V1.length + V2.length - U.length=V1.length by omega,← hl,ih];simp
  ·rw [← h,rot_eq];have e:=swr_app U.length X U [] V Y (m - U.length) m rfl h.symm (by omega) (by simp;omega);simpa using e
  ·rw [rot_gt _ _ _ _ h hv];obtain ⟨U1,U2,rfl,hl⟩:∃ U1 U2,U=U1 ++ U2∧U1.length=V.length:=⟨U.take V.length,U.drop V.length,(List.take_append_drop _ _).symm,by simp;omega⟩
   simp only [List.length_append] at h hs hu hm ⊢;have e:=swr_app V.length X U1 U2 V Y (m - (U1.length + U2.length)) m hl rfl (by omega) (by omega);rw [show X ++ (U1 ++ U2) ++ V ++ Y=X ++ U1 ++ U2 ++ V ++ Y by simp,e];have ih:=rot_app m s (X ++ V) U2 U1 Y (by omega) (by omega) (by omega) (by simp;omega);rw [show U1.length + U2.length - V.length=U2.length by omega,← hl,ih];simp
def bs (p:Nat→Bool) (i j:Nat):Nat:=if h:i < j then (if p ((i + j) / 2) then bs p ((i + j) / 2 + 1) j else bs p i ((i + j) / 2)) else i
termination_by j - i
decreasing_by all_goals omega
theorem bs_t {p:Nat→Bool} {i j:Nat} (h:i < j) (hp:p ((i + j) / 2)=true):bs p i j=bs p ((i + j) / 2 + 1) j:=by rw [bs,dif_pos h,if_pos hp]
theorem bs_f {p:Nat→Bool} {i j:Nat} (h:i < j) (hp:p ((i + j) / 2)=false):bs p i j=bs p i ((i + j) / 2):=by rw [bs,dif_pos h,if_neg (by simp [hp])]
theorem bs_e {p:Nat→Bool} {i j:Nat} (h:¬ i < j):bs p i j=i:=by rw [bs,dif_neg h]
theorem bs_ok (p:Nat→Bool):∀ (n i j:Nat),j - i≤n→i≤j→i≤bs p i j∧bs p i j≤j∧(bs p i j=i∨p (bs p i j - 1)=true)∧(bs p i j=j∨p (bs p i j)=false)
 | 0,i,j,hn,h=>by rw [bs_e (by omega)];exact ⟨Nat.le_refl _,h,.inl rfl,.inl (by omega)⟩
 | n + 1,i,j,hn,h=>by
  by_cases c:i < j
  ·cases hp:p ((i + j) / 2) with
   | true =>
    rw [bs_t c hp];obtain ⟨a,b,d,e⟩:=bs_ok p n ((i + j) / 2 + 1) j (by omega) (by omega);refine ⟨by omega,b,.inr ?_,e⟩;rcases d with d | d
    ·rw [d];exact hp
    ·exact d
   | false =>
    rw [bs_f c hp];obtain ⟨a,b,d,e⟩:=bs_ok p n i ((i + j) / 2) (by omega) (by omega);refine ⟨a,by omega,d,.inr ?_⟩;rcases e with e | e
    ·rw [e];exact hp
    ·exact e
  ·rw [bs_e c];exact ⟨Nat.le_refl _,h,.inl rfl,.inl (by omega)⟩
variable (key:α→Int)
def mg:List α→List α→List α
 | [],ys=>ys
 | x :: xs,[]=>x :: xs
 | x :: xs,y :: ys=>if key y < key x then y :: mg (x :: xs) ys else x :: mg xs (y :: ys)
termination_by xs ys=>xs.length + ys.length
def Srt (l:List α):Prop:=l.Pairwise fun x y=>key x≤key y
variable {key}
theorem mg_nilL (ys:List α):mg key [] ys=ys:=by rw [mg]
theorem mg_nilR:∀ xs:List α,mg key xs []=xs
 | []=>by rw [mg]
 | x :: xs=>by rw [mg]
theorem mg_len:∀ (n:Nat) (xs ys:List α),xs.length + ys.length≤n→(mg key xs ys).length=xs.length + ys.length
 | n,[],ys,_=>by rw [mg_nilL];simp
 | n,x :: xs,[],_=>by rw [mg_nilR];simp
 | 0,x :: xs,y :: ys,h=>by simp at h
 | n + 1,x :: xs,y :: ys,h=>by
  simp only [List.length_cons] at h;rw [mg];split
  ·rw [List.length_cons,mg_len n (x :: xs) ys (by simp only [List.length_cons];omega)];simp;omega
  ·rw [List.length_cons,mg_len n xs (y :: ys) (by simp only [List.length_cons];omega)];simp;omega
theorem mg_length (xs ys:List α):(mg key xs ys).length=xs.length + ys.length:=mg_len _ xs ys (Nat.le_refl _)
theorem mg_mem:∀ (n:Nat) (xs ys:List α),xs.length + ys.length≤n→∀ z,z∈mg key xs ys↔z∈xs∨z∈ys
 | n,[],ys,_,z=>by rw [mg_nilL];simp
 | n,x :: xs,[],_,z=>by rw [mg_nilR];simp
 | 0,x :: xs,y :: ys,h,z=>by simp at h
 | n + 1,x :: xs,y :: ys,h,z=>by
  simp only [List.length_cons] at h;rw [mg];split
  ·rw [List.mem_cons,mg_mem n (x :: xs) ys (by simp only [List.length_cons];omega) z];simp only [List.mem_cons];grind
  ·rw [List.mem_cons,mg_mem n xs (y :: ys) (by simp only [List.length_cons];omega) z];simp only [List.mem_cons];grind
theorem mem_mg {xs ys:List α} {z:α}:z∈mg key xs ys↔z∈xs∨z∈ys:=mg_mem _ xs ys (Nat.le_refl _) z
theorem mg_split:∀ (n:Nat) (A1 A2 B1 B2:List α),A1.length + B1.length≤n→(∀ x∈A1,∀ y∈B2,key x≤key y)→(∀ x∈A2,∀ y∈B1,key y < key x)→mg key (A1 ++ A2) (B1 ++ B2)=mg key A1 B1 ++ mg key A2 B2
 | n,[],A2,[],B2,_,_,_=>by rw [mg_nilL];rfl
 | 0,a :: A1,A2,B1,B2,h,_,_=>by simp at h
 | 0,[],A2,b :: B1,B2,h,_,_=>by simp at h
 | n + 1,[],A2,b :: B1,B2,h,h1,h2=>by
  simp only [List.length_cons,List.length_nil] at h;have ih:=mg_split n [] A2 B1 B2 (by simp only [List.length_nil];omega) (by simp) (fun x hx y hy=>h2 x hx y (List.mem_cons_of_mem _ hy));simp only [List.nil_append,mg_nilL] at ih ⊢
  cases A2 with
  | nil=>simp [mg_nilL]
  | cons a A2 =>
   rw [List.cons_append,mg,if_pos (h2 a (by simp) b (by simp)),ih];rfl
 | n + 1,a :: A1,A2,[],B2,h,h1,h2=>by
  simp only [List.length_cons,List.length_nil] at h;have ih:=mg_split n A1 A2 [] B2 (by simp only [List.length_nil];omega) (fun x hx y hy=>h1 x (List.mem_cons_of_mem _ hx) y hy) (by simp);simp only [List.nil_append,mg_nilR] at ih ⊢
  cases B2 with
  | nil=>simp [mg_nilR]
  | cons b B2 =>
   rw [List.cons_append,mg,if_neg (by have:=h1 a (by simp) b (by simp);omega),ih];rfl
 | n + 1,a :: A1,A2,b :: B1,B2,h,h1,h2=>by
  simp only [List.length_cons] at h;rw [List.cons_append,List.cons_append,mg,mg]
  split
  ·have ih:=mg_split n (a :: A1) A2 B1 B2 (by simp only [List.length_cons];omega) h1 (fun x hx y hy=>h2 x hx y (List.mem_cons_of_mem _ hy));rw [← List.cons_append,ih];rfl
  ·have ih:=mg_split n A1 A2 (b :: B1) B2 (by simp only [List.length_cons];omega) (fun x hx y hy=>h1 x (List.mem_cons_of_mem _ hx) y hy) h2;rw [← List.cons_append,ih];rfl
theorem mg_parts {A1 A2 B1 B2:List α} (h1:∀ x∈A1,∀ y∈B2,key x≤key y) (h2:∀ x∈A2,∀ y∈B1,key y < key x):mg key (A1 ++ A2) (B1 ++ B2)=mg key A1 B1 ++ mg key A2 B2:=mg_split _ A1 A2 B1 B2 (Nat.le_refl _) h1 h2
variable (key) in
def ins:List α→α→List α
 | [],x=>[x]
 | y :: ys,x=>if ys.all (fun z=>decide (key x < key z)) && decide (key x < key y) then x :: y :: ys else y :: ins ys x
variable (key) in
def srt (l:List α):List α:=l.foldl (ins key) []
theorem ins_app (x:α):∀ (A B:List α),(∀ y∈B,key x < key y)→(A=[]∨∃ A' a,A=A' ++ [a]∧key a≤key x)→ins key (A ++ B) x=A ++ x :: B
 | [],[],_,_=>rfl
 | [],b :: B,h,_=>by
  rw [List.nil_append,ins,if_pos]
  ·rfl
  ·simp only [Bool.and_eq_true,List.all_eq_true,decide_eq_true_eq];exact ⟨fun y hy=>h y (List.mem_cons_of_mem _ hy),h b (by simp)⟩
 | a :: A,B,h,ha=>by
  rw [List.cons_append,ins,if_neg,ins_app x A B h]
  ·rfl
  ·rcases ha with ha | ⟨A',z,e,hz⟩
   ·cases ha
   ·rcases A with _ | ⟨a2,A⟩
    ·exact .inl rfl
    ·right
     rcases A' with _ | ⟨b,A'⟩
     ·simp at e
     ·simp only [List.cons_append,List.cons.injEq] at e;exact ⟨A',z,e.2,hz⟩
  ·simp only [Bool.and_eq_true,List.all_eq_true,decide_eq_true_eq];intro ⟨h1,h2⟩;rcases ha with ha | ⟨A',z,e,hz⟩
   ·cases ha
   ·rcases A' with _ | ⟨b,A'⟩
    ·simp only [List.nil_append,List.cons.injEq] at e;rw [e.1] at h2;omega
    ·simp only [List.cons_append,List.cons.injEq] at e;have:=h1 z (by rw [e.2];simp);omega
theorem Srt.left {A B:List α} (h:Srt key (A ++ B)):Srt key A:=(List.pairwise_append.1 h).1
theorem Srt.right {A B:List α} (h:Srt key (A ++ B)):Srt key B:=(List.pairwise_append.1 h).2.1
theorem Srt.across {A B:List α} (h:Srt key (A ++ B)):∀ x∈A,∀ y∈B,key x≤key y:=(List.pairwise_append.1 h).2.2
theorem Srt.part (k:Int):∀ {l:List α},Srt key l→∃ A B,l=A ++ B∧(∀ x∈A,key x≤k)∧∀ x∈B,k < key x
 | [],_=>⟨[],[],rfl,by simp,by simp⟩
 | a :: l,h=>by
  unfold Srt at h;rw [List.pairwise_cons] at h
  by_cases c:key a≤k
  ·obtain ⟨A,B,e,h1,h2⟩:=Srt.part k (l:=l) h.2;exact ⟨a :: A,B,by rw [e];rfl,by intro x hx;rcases List.mem_cons.1 hx with rfl | hx;exact c;exact h1 x hx,h2⟩
  ·exact ⟨[],a :: l,rfl,by simp,by intro x hx;rcases List.mem_cons.1 hx with rfl | hx;omega;have:=h.1 x hx;omega⟩
theorem ins_part {A B:List α} {x:α} (hA:∀ y∈A,key y≤key x) (hB:∀ y∈B,key x < key y):ins key (A ++ B) x=A ++ x :: B:=by
 refine ins_app x A B hB ?_;rcases List.eq_nil_or_concat A with h | ⟨A',a,h⟩
 ·exact .inl h
 ·exact .inr ⟨A',a,by simpa using h,hA a (by rw [h];simp)⟩
theorem ins_len (x:α):∀ l:List α,(ins key l x).length=l.length + 1
 | []=>rfl
 | y :: ys=>by rw [ins];split;rfl;rw [List.length_cons,ins_len x ys];rfl
theorem ins_srt {l:List α} {x:α} (h:Srt key l):Srt key (ins key l x):=by
 obtain ⟨A,B,rfl,h1,h2⟩:=h.part (key x);rw [ins_part h1 h2];unfold Srt;rw [List.pairwise_append,List.pairwise_cons];refine ⟨h.left,⟨fun y hy=>Int.le_of_lt (h2 y hy),h.right⟩,fun y hy z hz=>?_⟩;rcases List.mem_cons.1 hz with rfl | hz
 ·exact h1 y hy
 ·exact Int.le_of_lt (Int.lt_of_le_of_lt (h1 y hy) (h2 z hz))
theorem ins_merge {X Y:List α} {x:α} (hX:Srt key X) (hY:Srt key Y):mg key X (ins key Y x)=ins key (mg key X Y) x:=by
 obtain ⟨X1,X2,rfl,x1,x2⟩:=hX.part (key x);obtain ⟨Y1,Y2,rfl,y1,y2⟩:=hY.part (key x);have s1:mg key (X1 ++ X2) (Y1 ++ Y2)=mg key X1 Y1 ++ mg key X2 Y2:=mg_parts (fun a ha b hb=>Int.le_of_lt (Int.lt_of_le_of_lt (x1 a ha) (y2 b hb))) (fun a ha b hb=>Int.lt_of_le_of_lt (y1 b hb) (x2 a ha));have s2:mg key (X1 ++ X2) ((Y1 ++ [x]) ++ Y2)=mg key X1 (Y1 ++ [x]) ++ mg key X2 Y2:=mg_parts (fun a ha b hb=>Int.le_of_lt (Int.lt_of_le_of_lt (x1 a ha) (y2 b hb))) (fun a ha b hb=>by
  rcases List.mem_append.1 hb with hb | hb
  ·exact Int.lt_of_le_of_lt (y1 b hb) (x2 a ha)
  ·rw [List.mem_singleton.1 hb];exact x2 a ha)
 have s3:mg key (X1 ++ []) (Y1 ++ [x])=mg key X1 Y1 ++ mg key [] [x]:=mg_parts (fun a ha b hb=>by rw [List.mem_singleton.1 hb];exact x1 a ha) (by simp);rw [List.append_nil,mg_nilL] at s3;rw [ins_part y1 y2,show Y1 ++ x :: Y2=(Y1 ++ [x]) ++ Y2 by simp,s2,s3,s1,ins_part]
 ·simp
 ·intro y hy;rcases mem_mg.1 hy with hy | hy
  ·exact x1 y hy
  ·exact y1 y hy
 ·intro y hy;rcases mem_mg.1 hy with hy | hy
  ·exact x2 y hy
  ·exact y2 y hy
theorem srt_snoc (l:List α) (x:α):srt key (l ++ [x])=ins key (srt key l) x:=by unfold srt;rw [List.foldl_append];rfl
theorem rev_rec {p:List α→Prop} (h0:p []) (h1:∀ l x,p l→p (l ++ [x])) (l:List α):p l:=by
 have:∀ l:List α,p l.reverse:=by
  intro l
  induction l with
  | nil=>exact h0
  | cons x l ih=>rw [List.reverse_cons];exact h1 _ x ih
 have:=this l.reverse
 rwa [List.reverse_reverse] at this
theorem srt_srt (l:List α):Srt key (srt key l):=by
 induction l using rev_rec with
 | h0=>exact List.Pairwise.nil
 | h1 l x ih=>rw [srt_snoc];exact ins_srt ih
theorem srt_len (l:List α):(srt key l).length=l.length:=by
 induction l using rev_rec with
 | h0=>rfl
 | h1 l x ih=>rw [srt_snoc,ins_len,ih];simp
theorem srt_merge (A B:List α):mg key (srt key A) (srt key B)=srt key (A ++ B):=by
 induction B using rev_rec with
 | h0=>rw [List.append_nil];exact mg_nilR _
 | h1 l x ih=>rw [srt_snoc,ins_merge (srt_srt A) (srt_srt l),ih,← List.append_assoc,srt_snoc]
variable (key) in
def blk (k:Nat) (l:List α):List α:=if h:l.length≤k∨k=0 then srt key l else srt key (l.take k) ++ blk k (l.drop k)
termination_by l.length
decreasing_by rw [List.length_drop];omega
theorem blk_le {k:Nat} {l:List α} (h:l.length≤k):blk key k l=srt key l:=by rw [blk,dif_pos (.inl h)]
theorem blk_gt {k:Nat} {l:List α} (h:k < l.length) (hk:k≠0):blk key k l=srt key (l.take k) ++ blk key k (l.drop k):=by rw [blk,dif_neg (by omega)]
theorem blk_ge {k:Nat} {l:List α} (h:k≤l.length) (hk:k≠0):blk key k l=srt key (l.take k) ++ blk key k (l.drop k):=by
 rcases Nat.lt_or_ge k l.length with c | c
 ·exact blk_gt c hk
 ·rw [blk_le c,blk_le (by simp;omega),List.take_of_length_le c,List.drop_of_length_le c];simp [srt]
theorem blk_len:∀ (n k:Nat) (l:List α),l.length≤n→(blk key k l).length=l.length
 | 0,k,l,h=>by rw [blk_le (by omega),srt_len]
 | n + 1,k,l,h=>by
  by_cases c:l.length≤k∨k=0
  ·rw [blk,dif_pos c,srt_len]
  ·rw [blk_gt (by omega) (by omega),List.length_append,srt_len,blk_len n k (l.drop k) (by rw [List.length_drop];omega),List.length_take,List.length_drop];omega
variable (key) in
def ky (l:List α) (i:Nat):Int:=match l[i]? with
 | some x=>key x
 | none=>0
theorem ky_some {l:List α} {i:Nat} {x:α} (h:l[i]?=some x):ky key l i=key x:=by unfold ky;rw [h]
theorem at_mid (X B Y:List α) (i j:Nat) (hj:j=X.length + i) (hi:i < B.length):(X ++ B ++ Y)[j]?=B[i]?:=by
 subst hj;rw [List.append_assoc,List.getElem?_append_right (by omega),List.getElem?_append_left (by omega),show X.length + i - X.length=i by omega]
theorem ky_mid (X B Y:List α) (i j:Nat) (hj:j=X.length + i) (hi:i < B.length):ky key (X ++ B ++ Y) j=ky key B i:=by unfold ky;rw [at_mid X B Y i j hj hi]
theorem Srt.to {B:List α} (h:Srt key B) {i:Nat} (hi:i < B.length):∀ y∈B.take (i + 1),key y≤ky key B i:=by
 intro y hy;rw [ky_some (List.getElem?_eq_getElem hi)];rw [List.take_succ_eq_append_getElem hi] at hy;have h':Srt key (B.take i ++ B.drop i):=by rw [List.take_append_drop];exact h
 rcases List.mem_append.1 hy with hy | hy
 ·exact h'.across y hy _ (by rw [List.drop_eq_getElem_cons hi];exact List.mem_cons_self)
 ·rw [List.mem_singleton.1 hy];exact Int.le_refl _
theorem Srt.frm {B:List α} (h:Srt key B) {i:Nat} (hi:i < B.length):∀ y∈B.drop i,ky key B i≤key y:=by
 intro y hy;rw [ky_some (List.getElem?_eq_getElem hi)];have h':Srt key (B.drop i):=by
  have:Srt key (B.take i ++ B.drop i):=by rw [List.take_append_drop];exact h
  exact this.right
 rw [List.drop_eq_getElem_cons hi] at h' hy;rcases List.mem_cons.1 hy with rfl | hy
 ·exact Int.le_refl _
 ·exact (List.pairwise_cons.1 h').1 y hy
theorem search (p:Nat→Bool) (X B Y:List α) (m b:Nat) (hm:m=X.length) (hb:b=m + B.length):∃ B1 B2,B=B1 ++ B2∧bs p m b=m + B1.length∧(B1=[]∨p (m + (B1.length - 1))=true)∧(B2=[]∨p (m + B1.length)=false):=by
 obtain ⟨h1,h2,h3,h4⟩:=bs_ok p (b - m) m b (Nat.le_refl _) (by omega);refine ⟨B.take (bs p m b - m),B.drop (bs p m b - m),(List.take_append_drop _ _).symm,by rw [List.length_take];omega,?_,?_⟩
 ·by_cases c:bs p m b=m
  ·left;rw [c];simp
  ·right
   rcases h3 with h3 | h3
   ·exact absurd h3 c
   ·rw [List.length_take,← h3];congr 1;omega
 ·by_cases c:bs p m b=b
  ·left;rw [c];apply List.drop_eq_nil_of_le;omega
  ·right
   rcases h4 with h4 | h4
   ·exact absurd h4 c
   ·rw [List.length_take,← h4];congr 1;omega
theorem cut_lt {B1 B2:List α} (h:Srt key (B1 ++ B2)) (hn:B1≠[]):∀ y∈B1,key y≤ky key (B1 ++ B2) (B1.length - 1):=by
 have hl:0 < B1.length:=List.length_pos_iff.2 hn;have:=h.to (i:=B1.length - 1) (by simp;omega);rw [show B1.length - 1 + 1=B1.length by omega,List.take_left'] at this
 ·exact this
 ·rfl
theorem cut_ge {B1 B2:List α} (h:Srt key (B1 ++ B2)) (hn:B2≠[]):∀ y∈B2,ky key (B1 ++ B2) B1.length≤key y:=by
 have hl:0 < B2.length:=List.length_pos_iff.2 hn;have:=h.frm (i:=B1.length) (by simp;omega);rw [List.drop_left'] at this
 ·exact this
 ·rfl
theorem searchL (k0:Int) (X B Y:List α) (m b:Nat) (hm:m=X.length) (hb:b=m + B.length) (hs:Srt key B) :
  ∃ B1 B2,B=B1 ++ B2∧bs (fun h=>decide (ky key (X ++ B ++ Y) h < k0)) m b=m + B1.length∧(∀ y∈B1,key y < k0)∧∀ y∈B2,k0≤key y:=by
 obtain ⟨B1,B2,rfl,h1,h2,h3⟩:=search (fun h=>decide (ky key (X ++ B ++ Y) h < k0)) X B Y m b hm hb;refine ⟨B1,B2,rfl,h1,fun y hy=>?_,fun y hy=>?_⟩
 ·have hn:B1≠[]:=List.ne_nil_of_mem hy;have hl:0 < B1.length:=List.length_pos_iff.2 hn;rcases h2 with h2 | h2
  ·exact absurd h2 hn
  ·rw [decide_eq_true_eq,ky_mid X (B1 ++ B2) Y (B1.length - 1) _ (by omega) (by simp;omega)] at h2;have:=cut_lt hs hn y hy;omega
 ·have hn:B2≠[]:=List.ne_nil_of_mem hy;have hl:0 < B2.length:=List.length_pos_iff.2 hn;rcases h3 with h3 | h3
  ·exact absurd h3 hn
  ·rw [decide_eq_false_iff_not,ky_mid X (B1 ++ B2) Y B1.length _ (by omega) (by simp;omega)] at h3;have:=cut_ge hs hn y hy;omega
theorem searchG (k0:Int) (X B Y:List α) (m b:Nat) (hm:m=X.length) (hb:b=m + B.length) (hs:Srt key B) :
  ∃ B1 B2,B=B1 ++ B2∧bs (fun h=>!decide (k0 < ky key (X ++ B ++ Y) h)) m b=m + B1.length∧(∀ y∈B1,key y≤k0)∧∀ y∈B2,k0 < key y:=by
 obtain ⟨B1,B2,rfl,h1,h2,h3⟩:=search (fun h=>!decide (k0 < ky key (X ++ B ++ Y) h)) X B Y m b hm hb;refine ⟨B1,B2,rfl,h1,fun y hy=>?_,fun y hy=>?_⟩
 ·have hn:B1≠[]:=List.ne_nil_of_mem hy;have hl:0 < B1.length:=List.length_pos_iff.2 hn;rcases h2 with h2 | h2
  ·exact absurd h2 hn
  ·rw [Bool.not_eq_true',decide_eq_false_iff_not,ky_mid X (B1 ++ B2) Y (B1.length - 1) _ (by omega) (by simp;omega)] at h2;have:=cut_lt hs hn y hy;omega
 ·have hn:B2≠[]:=List.ne_nil_of_mem hy;have hl:0 < B2.length:=List.length_pos_iff.2 hn;rcases h3 with h3 | h3
  ·exact absurd h3 hn
  ·rw [Bool.not_eq_false',decide_eq_true_eq,ky_mid X (B1 ++ B2) Y B1.length _ (by omega) (by simp;omega)] at h3;have:=cut_ge hs hn y hy;omega
theorem mg_one {x:α} {B1 B2:List α} (h1:∀ y∈B1,key y < key x) (h2:∀ y∈B2,key x≤key y):mg key [x] (B1 ++ B2)=B1 ++ x :: B2:=by
 have a:mg key ([] ++ [x]) (B1 ++ B2)=mg key [] B1 ++ mg key [x] B2:=mg_parts (by simp) (fun z hz y hy=>by rw [List.mem_singleton.1 hz];exact h1 y hy);have c:mg key ([x] ++ []) ([] ++ B2)=mg key [x] [] ++ mg key [] B2:=mg_parts (fun z hz y hy=>by rw [List.mem_singleton.1 hz];exact h2 y hy) (by simp);simp only [List.nil_append,List.append_nil,mg_nilL,mg_nilR] at a c;rw [a,c];rfl
theorem mg_last {x:α} {A1 A2:List α} (h1:∀ y∈A1,key y≤key x) (h2:∀ y∈A2,key x < key y):mg key (A1 ++ A2) [x]=A1 ++ x :: A2:=by
 have a:mg key (A1 ++ A2) ([] ++ [x])=mg key A1 [] ++ mg key A2 [x]:=mg_parts (fun z hz y hy=>by rw [List.mem_singleton.1 hy];exact h1 z hz) (by simp);have c:mg key ([] ++ A2) ([x] ++ [])=mg key [] [x] ++ mg key A2 []:=mg_parts (by simp) (fun z hz y hy=>by rw [List.mem_singleton.1 hy];exact h2 z hz);simp only [List.nil_append,List.append_nil,mg_nilL,mg_nilR] at a c;rw [a,c];rfl
theorem parts (X A B Y:List α) (a m b:Nat) (ha:a=X.length) (hm:m=a + A.length) (hb:b=m + B.length) (hA:Srt key A) (hB:Srt key B) (nA:A≠[]) (nB:B≠[]) (mid n s0 r0:Nat) (hmid:mid=(a + b) / 2) (hn:n=mid + m)
  (h0:m > mid∧s0=n - b∧r0=mid∨¬ m > mid∧s0=a∧r0=m) (p:Nat→Bool) (hp:∀ c,s0≤c→c < r0→p c=!decide (ky key (X ++ A ++ B ++ Y) (n - 1 - c) < ky key (X ++ A ++ B ++ Y) c)) :
  ∃ A1 A2 B1 B2,A=A1 ++ A2∧B=B1 ++ B2∧bs p s0 r0=a + A1.length∧n - bs p s0 r0=m + B1.length∧A1.length + B1.length + a=mid∧(∀ x∈A1,∀ y∈B2,key x≤key y)∧(∀ x∈A2,∀ y∈B1,key y < key x):=by
 have lA:0 < A.length:=List.length_pos_iff.2 nA;have lB:0 < B.length:=List.length_pos_iff.2 nB;have b0:a≤s0∧s0≤r0∧r0≤m:=by omega
 have b1:∀ c,s0≤c→c≤r0→m≤n - c∧n - c≤b∧n - c - m + (c - a) + a=mid:=by omega
 obtain ⟨h1,h2,h3,h4⟩:=bs_ok p (r0 - s0) s0 r0 (Nat.le_refl _) b0.2.1;generalize bs p s0 r0=s at h1 h2 h3 h4;have b2:=b1 s h1 h2;have kA:∀ c,a≤c→c < m→ky key (X ++ A ++ B ++ Y) c=ky key A (c - a):=fun c h h'=>by
  rw [show X ++ A ++ B ++ Y=X ++ A ++ (B ++ Y) by simp];exact ky_mid X A (B ++ Y) (c - a) c (by omega) (by omega)
 have kB:∀ c,m≤c→c < b→ky key (X ++ A ++ B ++ Y) c=ky key B (c - m):=fun c h h'=>ky_mid (X ++ A) B Y (c - m) c (by simp;omega) (by omega)
 have eA:=List.take_append_drop (s - a) A;have eB:=List.take_append_drop (n - s - m) B;have lA1:(A.take (s - a)).length=s - a:=by rw [List.length_take];omega
 have lB1:(B.take (n - s - m)).length=n - s - m:=by rw [List.length_take];omega
 refine ⟨A.take (s - a),A.drop (s - a),B.take (n - s - m),B.drop (n - s - m),eA.symm,eB.symm,by omega,by omega,by omega,?_,?_⟩
 ·intro x hx y hy;have n1:0 < (A.take (s - a)).length:=List.length_pos_iff.2 (List.ne_nil_of_mem hx);have n2:0 < (B.drop (n - s - m)).length:=List.length_pos_iff.2 (List.ne_nil_of_mem hy);rw [List.length_drop] at n2;rcases h3 with h3 | h3
  ·omega
  ·have q:=hp (s - 1) (by omega) (by omega);rw [h3,kA (s - 1) (by omega) (by omega),kB (n - 1 - (s - 1)) (by omega) (by omega),show n - 1 - (s - 1) - m=n - s - m by omega] at q;have q:ky key A (s - 1 - a)≤ky key B (n - s - m):=by simpa using q.symm
   have u:=hA.to (i:=s - 1 - a) (by omega) x (by rw [show s - 1 - a + 1=s - a by omega];exact hx);have v:=hB.frm (i:=n - s - m) (by omega) y hy;omega
 ·intro x hx y hy;have n1:0 < (B.take (n - s - m)).length:=List.length_pos_iff.2 (List.ne_nil_of_mem hy);have n2:0 < (A.drop (s - a)).length:=List.length_pos_iff.2 (List.ne_nil_of_mem hx);rw [List.length_drop] at n2;rcases h4 with h4 | h4
  ·omega
  ·by_cases z:s=r0
   ·omega
   have q:=hp s (by omega) (by omega);rw [h4,kA s (by omega) (by omega),kB (n - 1 - s) (by omega) (by omega)] at q;have q:ky key B (n - 1 - s - m) < ky key A (s - a):=by simpa using q.symm
   have u:=hA.frm (i:=s - a) (by omega) x hx;have v:=hB.to (i:=n - 1 - s - m) (by omega) y (by rw [show n - 1 - s - m + 1=n - s - m by omega];exact hy);omega
end Ss
open Go.RowKit
namespace Fl
theorem J.joinS {P:Program} {c:Cx} {k:List Item} {f:Fm} {L:List Res} {I:Item} {ι:Type} (f':ι→Fm) (L':ι→List Res) (rest:∀ x,J P c k (f' x) (L' x)) (h:∀ K,(∀ x,J P c K (f' x) (L' x))→J P c (I :: K) f L):J P c (I :: k) f L:=h k rest
theorem J.joinS2 {P:Program} {c:Cx} {k:List Item} {f:Fm} {L:List Res} {I I2:Item} {ι:Type} (f':ι→Fm) (L':ι→List Res) (rest:∀ x,J P c k (f' x) (L' x)) (h:∀ K,(∀ x,J P c K (f' x) (L' x))→J P c (I :: I2 :: K) f L):J P c (I :: I2 :: k) f L:=h k rest
theorem JO.joinS {P:Program} {c:Cx} {k:List Item} {f:Fm} {L:List Res} {I:Item} {ops:Array Oper} {l:List Oper} {ι:Type} (f':ι→Fm) (L':ι→List Res) (rest:∀ x,J P c k (f' x) (L' x)) (h:∀ K,(∀ x,J P c K (f' x) (L' x))→JO P c ops l (I :: K) f L):JO P c ops l (I :: k) f L:=h k rest
def cq (m n:Int):Int:=if m < n then -1 else if m > n then 1 else 0
theorem cq_lt {m n:Int} {r:Bool} (h:decide (m < n)=r):decide (cq m n < 0)=r:=by
 subst h;unfold cq
 split
 ·simp [*]
 ·split <;> simp [*]
structure CmpFn (P:Program) (fv:Value) (C:List Res) {α:Type} (enc:α→List A) (key:α→Int):Prop where
 ld:∀ (c:Cx) (f:Fm) (L:List Res) (T:TypeId) (ps:String) (af:Array Edge) (gd:Option (Nat × Bool)) (t:Nat) (tys:Array TypeId) (x y z:Operand) (a b:α),(∃ E,L=E ++ C)→t < c.N→evD f x=some (.c (.v fv))→evD f y=some (.agg (enc a))→evD f z=some (.agg (enc b)) →
  Ld P c ⟨some t,.call ⟨.value x,#[y,z],tys⟩,T,ps,af,gd⟩ f L [] (fun _:Unit=>(t,.c (.v (.int .i64 (cq (key a) (key b))))) :: f) (fun _=>L)
section
variable {P:Program} {c:Cx} {k:List Item} {f:Fm} {L:List Res} {T X:TypeId} {ps:String} {af:Array Edge} {gd:Option (Nat × Bool)} {t:Nat}
theorem Ld.cmpV {fv:Value} {C:List Res} {α:Type} {enc:α→List A} {key:α→Int} (CF:CmpFn P fv C enc key) (a b:α) {tys:Array TypeId} {x y z:Operand} (hL:∃ E,L=E ++ C) (ht:t < c.N) (hx:evD f x=some (.c (.v fv))) (hy:evD f y=some (.agg (enc a))) (hz:evD f z=some (.agg (enc b))) :
  Ld P c ⟨some t,.call ⟨.value x,#[y,z],tys⟩,T,ps,af,gd⟩ f L [] (fun _:Unit=>(t,.c (.v (.int .i64 (cq (key a) (key b))))) :: f) (fun _=>L):=CF.ld c f L T ps af gd t tys x y z a b hL ht hx hy hz
end
theorem s_at {α:Type} {enc:α→List A} {l:List α} {i:Nat} {x:α} (h:l[i]?=some x):(l.map enc)[((i:Nat):Int).toNat]?=some (enc x):=by rw [Int.toNat_natCast,List.getElem?_map,h];rfl
theorem s_lt {α:Type} {enc:α→List A} {l:List α} {i:Nat} (h:i < l.length):((i:Nat):Int) < ((l.map enc).length:Int):=by rw [List.length_map];omega
theorem s_lt' {α:Type} {enc:α→List A} {l:List α} {i:Nat} {x:α} (h:l[i]?=some x):((i:Nat):Int) < ((l.map enc).length:Int):=s_lt (List.getElem?_eq_some_iff.1 h).1
theorem s_sw {α:Type} {enc:α→List A} {l:List α} {i j:Nat} {x y:α} (hi:l[i]?=some x) (hj:l[j]?=some y):((l.map enc).set ((i:Nat):Int).toNat (enc y)).set ((j:Nat):Int).toNat (enc x)=(Ss.sw l i j).map enc:=by
 rw [Ss.sw_some hi hj,Int.toNat_natCast,Int.toNat_natCast,List.map_set,List.map_set]
theorem s_half {m n:Nat} (h:m + n≤4000000):IntKind.i64.wrap (((m:Nat):Int) + ((n:Nat):Int))=((m + n:Nat):Int):=by rw [w64 (by omega) (by omega)];omega
theorem s_u64 {m:Nat} (h:m≤4000000):IntKind.u64.wrap ((m:Nat):Int)=((m:Nat):Int):=by simp [IntKind.wrap,IntKind.bits,IntKind.signed];omega
theorem s_shr {m:Nat} {w:World} {P:Program} {T:TypeId} (h:m≤4000000):(binOp .shr T (.int .u64 (m:Int)) (.int .u64 1)).run P w=.ok (.int .u64 ((m / 2:Nat):Int)) w:=by
 rw [binOp_shr,shift_shr .u64 .u64 _ _ (by decide) (by decide)];rfl
end Fl
open Go.RowKit
namespace Fl
set_option maxRecDepth 100000
set_option maxHeartbeats 4000000
section
variable {α:Type} {enc:α→List A} {key:α→Int} {fv:Value} {C:List Res}
theorem s_insPt (CF:CmpFn Try.prog fv C enc key) (hz:∀ x,(enc x).length=3) (v:Value) (X A0 Y:List α) (hs:X.length + A0.length + Y.length≤1000000) :
  Con Try.prog 81 [.c (.v v),.c (nI X.length),.c (nI (X.length + A0.length:Nat)),.c (.v fv)] (.row v 58 3 ((X ++ A0 ++ Y).map enc) :: C) (fun _:Unit=>(.tup [],.row v 58 3 ((X ++ Ss.srt key A0 ++ Y).map enc) :: C)):=by
 refine Con.intro Try.func81 rfl rfl rfl (fun ok e=>?_);have w0:IntKind.i64.wrap ((X.length:Int) + 1)=((X.length + 1:Nat):Int):=by rw [w64 (by omega) (by omega)];omega
 repeat (first | (refine K.binOp ?_;refine jq rfl rfl rfl ((Qt.ari rfl rfl rfl w0)) ?_) | refine gn ?_)
 have e0:A0=Ss.srt key (A0.take 1) ++ A0.drop 1:=by cases A0 <;> rfl
 refine J.congL (L':=.row v 58 3 ((X ++ (Ss.srt key (A0.take 1) ++ A0.drop 1) ++ Y).map enc) :: C) (by rw [← e0]) ?_;refine J.loop (ι:={ k:Nat // 1≤k∧k≤A0.length + 1 }) (fun q=>[(8,.c (nI (X.length + q.1:Nat))),(0,.c (.v v)),(1,.c (nI X.length)),(2,.c (nI (X.length + A0.length:Nat))),(3,.c (.v fv))]) (fun q=>.row v 58 3 ((X ++ (Ss.srt key (A0.take q.1) ++ A0.drop q.1) ++ Y).map enc) :: C) (fun q=>A0.length - q.1) ⟨1,Nat.le_refl _,by omega⟩ (fun X h=>h.weak ⟨rfl,rfl,rfl,rfl,rfl,trivial⟩) (fun q ih=>?_);obtain ⟨k,k1,k2⟩:=q;simp only at k1 k2 ih ⊢
 by_cases hk:k < A0.length
 ·have t1:decide (((X.length + k:Nat):Int) < ((X.length + A0.length:Nat):Int))=true:=decide_eq_true (by omega);obtain ⟨x,hx⟩:∃ x,A0[k]?=some x:=⟨_,List.getElem?_eq_getElem hk⟩
  have hd:A0.drop k=x :: A0.drop (k + 1):=by rw [List.drop_eq_getElem_cons hk];rw [List.getElem?_eq_getElem hk] at hx;cases hx;rfl
  have ht:A0.take (k + 1)=A0.take k ++ [x]:=by rw [List.take_add_one,hx];rfl
  have ih1:=ih ⟨k + 1,by omega,by omega⟩ (by simp only;omega);clear ih;simp only at ih1;rw [ht,Ss.srt_snoc] at ih1;have lS:(Ss.srt key (A0.take k)).length=k:=by rw [Ss.srt_len,List.length_take];omega
  rw [hd];have lD:(A0.drop (k + 1)).length=A0.length - (k + 1):=List.length_drop;generalize A0.drop (k + 1)=D at ih1 lD ⊢;generalize Ss.srt key (A0.take k)=S at ih1 lS ⊢
  repeat (refine gn ?_)
  refine J.congL (L':=.row v 58 3 ((X ++ (S ++ x :: [] ++ D) ++ Y).map enc) :: C) (by simp) ?_;refine J.loop (ι:={ q:List α × List α // S=q.1 ++ q.2∧∀ y∈q.2,key x < key y }) (fun q=>[(9,.c (nI (X.length + q.1.1.length:Nat))),(8,.c (nI (X.length + k:Nat))),(0,.c (.v v)),(1,.c (nI X.length)),(2,.c (nI (X.length + A0.length:Nat))),(3,.c (.v fv))]) (fun q=>.row v 58 3 ((X ++ (q.1.1 ++ x :: q.1.2 ++ D) ++ Y).map enc) :: C) (fun q=>q.1.1.length) ⟨(S,[]),by simp,by simp⟩ (fun X h=>h.weak ⟨by rw [lS];rfl,rfl,rfl,rfl,rfl,rfl,trivial⟩) (fun q ih2=>?_);obtain ⟨⟨S1,S2⟩,qS,qx⟩:=q;simp only at qS qx ih2 ⊢;have w1:IntKind.i64.wrap (((X.length + k:Nat):Int) + 1)=((X.length + (k + 1):Nat):Int):=by rw [w64 (by omega) (by omega)];omega
  have out:(S1=[]∨∃ A' a,S1=A' ++ [a]∧key a≤key x)→Ss.ins key S x=S1 ++ x :: S2:=fun h=>by rw [qS];exact Ss.ins_app x S1 S2 qx h
  rcases List.eq_nil_or_concat S1 with h | ⟨S1',z,h⟩
  ·have t2:decide (((X.length + S1.length:Nat):Int) > (X.length:Int))=false:=decide_eq_false (by rw [h];simp);have ho:=out (.inl h)
   repeat ((refine J.seq ?_))
   refine J.draw (by kernel_rfl) rfl ?_;refine JW.base none ?_;refine tk 0 ?_;refine tk 1 ?_;refine JD.take 2 rfl rfl (by kernel_rfl) rfl (qb rfl) (Qt.cmp rfl rfl (congrArg some t2)) rfl ?_;refine tk 3 ?_
   (refine JD.skip 4 rfl rfl (by kernel_rfl) rfl (qb rfl) ?_)
   (refine JD.skip 5 rfl rfl (by kernel_rfl) rfl (qb rfl) ?_)
   (refine JD.skip 6 rfl rfl (by kernel_rfl) rfl (qb rfl) ?_)
   refine JD.skip 7 rfl rfl (by kernel_rfl) rfl (qb rfl) ?_
   (refine JD.skip 8 rfl rfl (by kernel_rfl) rfl (qb rfl) ?_)
   (refine JD.skip 9 rfl rfl (by kernel_rfl) rfl (qb rfl) ?_)
   (refine JD.skip 10 rfl rfl (by kernel_rfl) rfl (qb rfl) ?_)
   (refine JD.skip 11 rfl rfl (by kernel_rfl) rfl (qb rfl) ?_)
   refine JD.skip 12 rfl rfl (by kernel_rfl) rfl (qb rfl) ?_
   (refine JD.skip 13 rfl rfl (by kernel_rfl) rfl (qb rfl) ?_)
   (refine JD.skip 14 rfl rfl (by kernel_rfl) rfl (qb rfl) ?_)
   (refine JD.skip 15 rfl rfl (by kernel_rfl) rfl (qb rfl) ?_)
   refine tk 16 ?_;refine dnQ ?_
   repeat (first | (refine K.binOp ?_;refine jq rfl rfl rfl ((Qt.ari rfl rfl rfl w1)) ?_) | refine gn ?_)
   refine J.congL ?_ (ih1.weak ⟨rfl,rfl,rfl,rfl,rfl,trivial⟩);rw [ho]
  ·rw [List.concat_eq_append] at h;subst h;have l1:(S1' ++ [z]).length=S1'.length + 1:=by simp
   have lq:k=S1'.length + 1 + S2.length:=by rw [← lS,qS];simp;omega
   rw [l1];have t2:decide (((X.length + (S1'.length + 1):Nat):Int) > (X.length:Int))=true:=decide_eq_true (by omega);have w2:IntKind.i64.wrap (((X.length + (S1'.length + 1):Nat):Int) - 1)=((X.length + S1'.length:Nat):Int):=by rw [w64 (by omega) (by omega)];omega
   have er:X ++ (S1' ++ [z] ++ x :: S2 ++ D) ++ Y=(X ++ S1') ++ z :: x :: (S2 ++ D ++ Y):=by simp
   rw [er];have a1:((X ++ S1') ++ z :: x :: (S2 ++ D ++ Y))[X.length + S1'.length]?=some z:=by rw [show X.length + S1'.length=(X ++ S1').length by simp];exact Ss.at_app _ _ _
   have a2:((X ++ S1') ++ z :: x :: (S2 ++ D ++ Y))[X.length + (S1'.length + 1)]?=some x:=by rw [show X.length + (S1'.length + 1)=((X ++ S1') ++ [z]).length by simp only [List.length_append,List.length_singleton];omega,show (X ++ S1') ++ z :: x :: (S2 ++ D ++ Y)=((X ++ S1') ++ [z]) ++ x :: (S2 ++ D ++ Y) by simp];exact Ss.at_app _ _ _
   have b1:=s_at (enc:=enc) a1;have b2:=s_at (enc:=enc) a2;have c1:=s_lt' (enc:=enc) a1;have c2:=s_lt' (enc:=enc) a2;have z1:(0:Int)≤((X.length + S1'.length:Nat):Int):=Int.natCast_nonneg _;have z2:(0:Int)≤((X.length + (S1'.length + 1):Nat):Int):=Int.natCast_nonneg _;have sw:=s_sw (enc:=enc) a2 a1;rw [Ss.sw_comm,Ss.sw_adj (X ++ S1') z x (S2 ++ D ++ Y) _ _ (by simp) (by simp;omega)] at sw;generalize hR:(X ++ S1') ++ z :: x :: (S2 ++ D ++ Y)=R at er b1 b2 c1 c2 sw ⊢
   cases t3:decide (key x < key z) with
   | false =>
    have ho:=out (.inr ⟨S1',z,rfl,by have:=of_decide_eq_false t3;omega⟩)
    repeat ((refine J.seq ?_))
    refine J.draw (by kernel_rfl) rfl ?_;refine JW.base none ?_;refine tk 0 ?_;refine tk 1 ?_;refine JD.take 2 rfl rfl (by kernel_rfl) rfl (qb rfl) (Qt.cmp rfl rfl (congrArg some t2)) rfl ?_;refine tk 3 ?_;refine tk 4 ?_;refine tk 5 ?_;refine tk 6 ?_
    (refine JD.take 7 rfl rfl (by kernel_rfl) rfl (qb rfl) (Qt.indexO rfl rfl z2 c2) rfl ?_)
    (refine JD.take 8 rfl rfl (by kernel_rfl) rfl (qb rfl) (Qt.loadWo rfl b2 (hz _)) rfl ?_)
    refine tk 9 ?_;refine tk 10 ?_
    (refine JD.take 11 rfl rfl (by kernel_rfl) rfl (qb rfl) (Qt.ari rfl rfl rfl w2) rfl ?_)
    (refine JD.take 12 rfl rfl (by kernel_rfl) rfl (qb rfl) (Qt.indexO rfl rfl z1 c1) rfl ?_)
    (refine JD.take 13 rfl rfl (by kernel_rfl) rfl (qb rfl) (Qt.loadWo rfl b1 (hz _)) rfl ?_)
    refine jl 14 rfl rfl rfl rfl (Ld.cmpV CF x z ⟨[_],rfl⟩ (qb rfl) rfl rfl rfl) .none (fun _=>?_)
    (refine JD.take 15 rfl rfl (by kernel_rfl) rfl (qb rfl) (Qt.cmp rfl rfl (congrArg some (cq_lt t3))) rfl ?_)
    refine jk 16 rfl rfl rfl rfl (Qt.pick rfl rfl) ?_;refine dnQ ?_
    repeat (first | (refine K.binOp ?_;refine jq rfl rfl rfl ((Qt.ari rfl rfl rfl w1)) ?_) | refine gn ?_)
    refine J.congL ?_ (ih1.weak ⟨rfl,rfl,rfl,rfl,rfl,trivial⟩);rw [ho,er]
   | true =>
    have sz:=hz;have b3:(R.map enc).set ((X.length + (S1'.length + 1):Nat):Int).toNat (enc z)=((R.map enc).set ((X.length + (S1'.length + 1):Nat):Int).toNat (enc z)):=rfl;have lt1:((X.length + (S1'.length + 1):Nat):Int).toNat < (R.map enc).length:=by omega
    have lt2:((X.length + S1'.length:Nat):Int).toNat < ((R.map enc).set ((X.length + (S1'.length + 1):Nat):Int).toNat (enc z)).length:=by rw [List.length_set];omega
    repeat ((refine J.seq ?_))
    refine J.draw (by kernel_rfl) rfl ?_;refine JW.base none ?_;refine tk 0 ?_;refine tk 1 ?_;refine JD.take 2 rfl rfl (by kernel_rfl) rfl (qb rfl) (Qt.cmp rfl rfl (congrArg some t2)) rfl ?_;refine tk 3 ?_;refine tk 4 ?_;refine tk 5 ?_;refine tk 6 ?_
    (refine JD.take 7 rfl rfl (by kernel_rfl) rfl (qb rfl) (Qt.indexO rfl rfl z2 c2) rfl ?_)
    (refine JD.take 8 rfl rfl (by kernel_rfl) rfl (qb rfl) (Qt.loadWo rfl b2 (hz _)) rfl ?_)
    refine tk 9 ?_;refine tk 10 ?_
    (refine JD.take 11 rfl rfl (by kernel_rfl) rfl (qb rfl) (Qt.ari rfl rfl rfl w2) rfl ?_)
    (refine JD.take 12 rfl rfl (by kernel_rfl) rfl (qb rfl) (Qt.indexO rfl rfl z1 c1) rfl ?_)
    (refine JD.take 13 rfl rfl (by kernel_rfl) rfl (qb rfl) (Qt.loadWo rfl b1 (hz _)) rfl ?_)
    refine jl 14 rfl rfl rfl rfl (Ld.cmpV CF x z ⟨[_],rfl⟩ (qb rfl) rfl rfl rfl) .none (fun _=>?_)
    (refine JD.take 15 rfl rfl (by kernel_rfl) rfl (qb rfl) (Qt.cmp rfl rfl (congrArg some (cq_lt t3))) rfl ?_)
    refine jk 16 rfl rfl rfl rfl (Qt.pick rfl rfl) ?_;refine dnQ ?_
    repeat (refine gn ?_)
    refine J.draw (by kernel_rfl) rfl ?_;refine JW.base1 none (.tmp 0) rfl ?_;refine tk 0 ?_;refine tk 1 ?_;refine tk 2 ?_;refine tk 3 ?_;refine JD.take 4 rfl rfl (by kernel_rfl) rfl (qb rfl) (Qt.ari rfl rfl rfl w2) rfl ?_;refine tk 5 ?_;refine tk 6 ?_;refine JD.take 7 rfl rfl (by kernel_rfl) rfl (qb rfl) (Qt.ari rfl rfl rfl w2) rfl ?_;refine JD.take 8 rfl rfl (by kernel_rfl) rfl (qb rfl) (Qt.indexO rfl rfl z1 c1) rfl ?_;refine tk 10 ?_;refine tk 11 ?_;refine JD.take 12 rfl rfl (by kernel_rfl) rfl (qb rfl) (Qt.indexO rfl rfl z2 c2) rfl ?_;refine JD.each2 (i:=9) (j:=13) (by kernel_rfl) ?_ ?_;refine JS.q rfl rfl rfl (qb rfl) (Qt.loadWo rfl b1 (hz _)) ?_;refine jk 13 rfl rfl rfl rfl (Qt.loadWo rfl b2 (hz _)) ?_;refine JD.take 14 rfl rfl (by kernel_rfl) rfl (qb rfl) (Qt.indexO rfl rfl z2 c2) rfl ?_;refine JD.each1 (i:=15) (by kernel_rfl) ?_;refine JS.st rfl rfl rfl (Ld.storeOW rfl rfl rfl (hz _) lt1) (.trow rfl) (fun _=>?_);refine JD.take 16 rfl rfl (by kernel_rfl) rfl (qb rfl) (Qt.indexO rfl rfl z1 c1) rfl ?_;refine JD.each1 (i:=17) (by kernel_rfl) ?_;refine JS.st rfl rfl rfl (Ld.storeOW rfl rfl rfl (hz _) lt2) (.trow rfl) (fun _=>?_);refine dnQ ?_
    rotate_left
    refine JS.q rfl rfl rfl (qb rfl) (Qt.loadWo rfl b2 (hz _)) ?_;refine jk 9 rfl rfl rfl rfl (Qt.loadWo rfl b1 (hz _)) ?_;refine JD.take 14 rfl rfl (by kernel_rfl) rfl (qb rfl) (Qt.indexO rfl rfl z2 c2) rfl ?_;refine JD.each1 (i:=15) (by kernel_rfl) ?_;refine JS.st rfl rfl rfl (Ld.storeOW rfl rfl rfl (hz _) lt1) (.trow rfl) (fun _=>?_);refine JD.take 16 rfl rfl (by kernel_rfl) rfl (qb rfl) (Qt.indexO rfl rfl z1 c1) rfl ?_;refine JD.each1 (i:=17) (by kernel_rfl) ?_;refine JS.st rfl rfl rfl (Ld.storeOW rfl rfl rfl (hz _) lt2) (.trow rfl) (fun _=>?_);refine dnQ ?_
    rotate_left
    all_goals
     repeat (first | (refine K.binOp ?_;refine jq rfl rfl rfl ((Qt.ari rfl rfl rfl w2)) ?_) | refine gn ?_)
     refine J.congL ?_ ((ih2 ⟨(S1',z :: S2),by simp [qS],by simp only [List.mem_cons];rintro y (rfl | hy);exact of_decide_eq_true t3;exact qx y hy⟩ (by simp only;omega)).weak ⟨rfl,rfl,rfl,rfl,rfl,rfl,trivial⟩);simp only;refine congrArg (fun r=>Res.row v 58 3 r :: C) (Eq.trans ?_ sw.symm);simp
 ·have t1:decide (((X.length + k:Nat):Int) < ((X.length + A0.length:Nat):Int))=false:=decide_eq_false (by omega);rw [List.take_of_length_le (by omega),List.drop_of_length_le (by omega),List.append_nil]
  repeat (refine gn ?_)
  (exact J.finA Try.func81 rfl .nil () (by exact .refl) rfl)
theorem s_insAPt (CF:CmpFn Try.prog fv C enc key) (hz:∀ x,(enc x).length=3) (v:Value) (l X A0 Y:List α) (a b:Nat) (hl:l=X ++ A0 ++ Y) (ha:a=X.length) (hb:b=a + A0.length) (hs:X.length + A0.length + Y.length≤1000000) :
  Con Try.prog 81 [.c (.v v),.c (nI a),.c (nI b),.c (.v fv)] (.row v 58 3 (l.map enc) :: C) (fun _:Unit=>(.tup [],.row v 58 3 ((X ++ Ss.srt key A0 ++ Y).map enc) :: C)):=by
 subst hl ha hb;exact s_insPt CF hz v X A0 Y hs
theorem s_swrPt (hz:∀ x,(enc x).length=3) (v:Value) (l:List α) (a b n:Nat) (ha:a + n≤l.length) (hb:b + n≤l.length) (hs:l.length≤1000000) :
  Con Try.prog 86 [.c (.v v),.c (nI a),.c (nI b),.c (nI n),.c (.v fv)] [.row v 58 3 (l.map enc)] (fun _:Unit=>(.tup [],[.row v 58 3 ((Ss.swr l a b n).map enc)])):=by
 refine Con.intro Try.func86 rfl rfl rfl (fun ok e=>?_)
 repeat (refine gn ?_)
 refine J.loop (ι:={ i:Nat // i≤n }) (fun q=>[(10,.c (nI q.1)),(0,.c (.v v)),(1,.c (nI a)),(2,.c (nI b)),(3,.c (nI n)),(4,.c (.v fv))]) (fun q=>[.row v 58 3 ((Ss.swr l a b q.1).map enc)]) (fun q=>n - q.1) ⟨0,Nat.zero_le _⟩ (fun X h=>h.weak ⟨rfl,rfl,rfl,rfl,rfl,rfl,trivial⟩) (fun q ih=>?_);obtain ⟨i,hi⟩:=q;simp only at hi ih ⊢
 by_cases hk:i < n
 ·have t1:decide ((i:Int) < (n:Int))=true:=decide_eq_true (by omega);have lR:=Ss.swr_len l a b i;have ih1:=ih ⟨i + 1,by omega⟩ (by simp only;omega);clear ih;simp only [Ss.swr] at ih1;generalize Ss.swr l a b i=R at lR ih1 ⊢;obtain ⟨x,a1⟩:∃ x,R[a + i]?=some x:=⟨_,List.getElem?_eq_getElem (by omega)⟩
  obtain ⟨y,a2⟩:∃ y,R[b + i]?=some y:=⟨_,List.getElem?_eq_getElem (by omega)⟩
  have w1:IntKind.i64.wrap ((a:Int) + (i:Int))=((a + i:Nat):Int):=s_half (by omega);have w2:IntKind.i64.wrap ((b:Int) + (i:Int))=((b + i:Nat):Int):=s_half (by omega);have w3:IntKind.i64.wrap ((i:Int) + 1)=((i + 1:Nat):Int):=by rw [w64 (by omega) (by omega)];omega
  have b1:=s_at (enc:=enc) a1;have b2:=s_at (enc:=enc) a2;have c1:=s_lt' (enc:=enc) a1;have c2:=s_lt' (enc:=enc) a2;have z1:(0:Int)≤((a + i:Nat):Int):=Int.natCast_nonneg _;have z2:(0:Int)≤((b + i:Nat):Int):=Int.natCast_nonneg _;have sw:=s_sw (enc:=enc) a1 a2;have lt1:((a + i:Nat):Int).toNat < (R.map enc).length:=by omega
  have lt2:((b + i:Nat):Int).toNat < ((R.map enc).set ((a + i:Nat):Int).toNat (enc y)).length:=by rw [List.length_set];omega
  repeat (refine gn ?_)
  refine J.draw (by kernel_rfl) rfl ?_;refine JW.base1 none (.tmp 0) rfl ?_;refine tk 0 ?_;refine tk 1 ?_;refine tk 2 ?_;refine JD.take 3 rfl rfl (by kernel_rfl) rfl (qb rfl) (Qt.ari rfl rfl rfl w1) rfl ?_;refine tk 4 ?_;refine tk 5 ?_;refine tk 6 ?_;refine JD.take 7 rfl rfl (by kernel_rfl) rfl (qb rfl) (Qt.ari rfl rfl rfl w2) rfl ?_;refine tk 8 ?_;refine tk 9 ?_;refine tk 10 ?_;refine JD.take 11 rfl rfl (by kernel_rfl) rfl (qb rfl) (Qt.ari rfl rfl rfl w2) rfl ?_;refine JD.take 12 rfl rfl (by kernel_rfl) rfl (qb rfl) (Qt.indexO rfl rfl z2 c2) rfl ?_;refine tk 14 ?_;refine tk 15 ?_;refine tk 16 ?_;refine JD.take 17 rfl rfl (by kernel_rfl) rfl (qb rfl) (Qt.ari rfl rfl rfl w1) rfl ?_;refine JD.take 18 rfl rfl (by kernel_rfl) rfl (qb rfl) (Qt.indexO rfl rfl z1 c1) rfl ?_;refine JD.each2 (i:=13) (j:=19) (by kernel_rfl) ?_ ?_;refine JS.q rfl rfl rfl (qb rfl) (Qt.loadWo rfl b2 (hz _)) ?_;refine jk 19 rfl rfl rfl rfl (Qt.loadWo rfl b1 (hz _)) ?_;refine JD.take 20 rfl rfl (by kernel_rfl) rfl (qb rfl) (Qt.indexO rfl rfl z1 c1) rfl ?_;refine JD.each1 (i:=21) (by kernel_rfl) ?_;refine JS.st rfl rfl rfl (Ld.storeOW rfl rfl rfl (hz _) lt1) (.trow rfl) (fun _=>?_);refine JD.take 22 rfl rfl (by kernel_rfl) rfl (qb rfl) (Qt.indexO rfl rfl z2 c2) rfl ?_;refine JD.each1 (i:=23) (by kernel_rfl) ?_;refine JS.st rfl rfl rfl (Ld.storeOW rfl rfl rfl (hz _) lt2) (.trow rfl) (fun _=>?_);refine dnQ ?_
  rotate_left
  refine JS.q rfl rfl rfl (qb rfl) (Qt.loadWo rfl b1 (hz _)) ?_;refine jk 13 rfl rfl rfl rfl (Qt.loadWo rfl b2 (hz _)) ?_;refine JD.take 20 rfl rfl (by kernel_rfl) rfl (qb rfl) (Qt.indexO rfl rfl z1 c1) rfl ?_;refine JD.each1 (i:=21) (by kernel_rfl) ?_;refine JS.st rfl rfl rfl (Ld.storeOW rfl rfl rfl (hz _) lt1) (.trow rfl) (fun _=>?_);refine JD.take 22 rfl rfl (by kernel_rfl) rfl (qb rfl) (Qt.indexO rfl rfl z2 c2) rfl ?_;refine JD.each1 (i:=23) (by kernel_rfl) ?_;refine JS.st rfl rfl rfl (Ld.storeOW rfl rfl rfl (hz _) lt2) (.trow rfl) (fun _=>?_);refine dnQ ?_
  rotate_left
  all_goals
   repeat (first | (refine K.binOp ?_;refine jq rfl rfl rfl ((Qt.ari rfl rfl rfl w3)) ?_) | refine gn ?_)
   refine J.congL ?_ (ih1.weak ⟨rfl,rfl,rfl,rfl,rfl,rfl,trivial⟩);exact congrArg (fun r=>[Res.row v 58 3 r]) sw.symm
 ·obtain rfl:i=n:=by omega
  have t1:decide ((i:Int) < (i:Int))=false:=decide_eq_false (by omega)
  repeat (refine gn ?_)
  (exact J.finA Try.func86 rfl .nil () (by exact .refl) rfl)
theorem s_rotPt (hz:∀ x,(enc x).length=3) (v:Value) (l0 X U V Y:List α) (a m b:Nat) (hl:l0=X ++ U ++ V ++ Y) (ha:a=X.length) (hm:m=a + U.length) (hb:b=m + V.length) (hu:U.length≠0) (hv:V.length≠0) (hs:l0.length≤1000000) :
  Con Try.prog 85 [.c (.v v),.c (nI a),.c (nI m),.c (nI b),.c (.v fv)] [.row v 58 3 (l0.map enc)] (fun _:Unit=>(.tup [],[.row v 58 3 ((X ++ V ++ U ++ Y).map enc)])):=by
 have e0:=Ss.rot_app m _ X U V Y (Nat.le_refl _) hu hv (by omega);rw [← hl] at e0;have len:m + V.length≤l0.length:=by rw [hl];simp;omega
 generalize X ++ V ++ U ++ Y=r at e0 ⊢;have w0:IntKind.i64.wrap ((m:Int) - (a:Int))=(U.length:Int):=by rw [w64 (by omega) (by omega)];omega
 have w1:IntKind.i64.wrap ((b:Int) - (m:Int))=(V.length:Int):=by rw [w64 (by omega) (by omega)];omega
 refine Con.intro Try.func85 rfl rfl rfl (fun ok e=>?_)
 repeat (first | (refine K.binOp ?_;first | refine jq rfl rfl rfl ((Qt.ari rfl rfl rfl w0)) ?_ | refine jq rfl rfl rfl ((Qt.ari rfl rfl rfl w1)) ?_) | refine gn ?_)
 refine J.loop (ι:={ q:List α × Nat × Nat // q.1.length=l0.length∧0 < q.2.1∧q.2.1≤m∧0 < q.2.2∧m + q.2.2≤l0.length∧Ss.rot q.1 m q.2.1 q.2.2=r }) (fun q=>[(10,.c (nI q.1.2.1)),(11,.c (nI q.1.2.2)),(0,.c (.v v)),(2,.c (nI m)),(4,.c (.v fv))]) (fun q=>[.row v 58 3 (q.1.1.map enc)]) (fun q=>q.1.2.1 + q.1.2.2) ⟨(l0,U.length,V.length),rfl,by simp only;omega,by simp only;omega,by simp only;omega,len,e0⟩ (fun X h=>h.weak ⟨rfl,rfl,rfl,rfl,rfl,trivial⟩) (fun q ih=>?_);obtain ⟨⟨l,i,j⟩,q7l,qi,qm,qj,qn,qr⟩:=q;simp only at q7l qi qm qj qn qr ih ⊢;have w2:IntKind.i64.wrap ((m:Int) - (i:Int))=((m - i:Nat):Int):=by rw [w64 (by omega) (by omega)];omega
 rcases Nat.lt_trichotomy i j with h | h | h
 ·have t1:((i:Int) != (j:Int))=true:=by simp;omega
  have t2:decide ((i:Int) > (j:Int))=false:=decide_eq_false (by omega);have w3:IntKind.i64.wrap ((j:Int) - (i:Int))=((j - i:Nat):Int):=by rw [w64 (by omega) (by omega)];omega
  have w4:IntKind.i64.wrap ((m:Int) + (j:Int))=((m + j:Nat):Int):=s_half (by omega);have w5:IntKind.i64.wrap (((m + j:Nat):Int) - (i:Int))=((m + j - i:Nat):Int):=by rw [w64 (by omega) (by omega)];omega
  have CS:=s_swrPt (fv:=fv) hz v l (m - i) (m + j - i) i (by omega) (by omega) (by omega)
  repeat (first | (refine K.binOp ?_;first | refine jq rfl rfl rfl ((Qt.ari rfl rfl rfl w2)) ?_ | refine jq rfl rfl rfl ((Qt.ari rfl rfl rfl w3)) ?_ | refine jq rfl rfl rfl ((Qt.ari rfl rfl rfl w4)) ?_ | refine jq rfl rfl rfl ((Qt.ari rfl rfl rfl w5)) ?_) | (refine K.call ?_;refine JO.ld (Ld.callA (CS) (qb rfl) rfl (.cons .refl (.cons .refl (.cons .refl (.cons .refl (.cons .refl .nil)))))) rfl (fun _=>?_)) | refine gn ?_)
  exact (ih ⟨(Ss.swr l (m - i) (m + j - i) i,i,j - i),by simp only [Ss.swr_len];exact q7l,qi,qm,by simp only;omega,by simp only;omega,by simp only;rw [← Ss.rot_lt l m i j h (by omega)];exact qr⟩ (by simp only;omega)).weak ⟨rfl,rfl,rfl,rfl,rfl,trivial⟩
 ·subst h;rw [Ss.rot_eq] at qr;have t1:((i:Int) != (i:Int))=false:=by simp
  have CS:=s_swrPt (fv:=fv) hz v l (m - i) m i (by omega) (by omega) (by omega);rw [qr] at CS
  repeat (first | (refine K.binOp ?_;refine jq rfl rfl rfl ((Qt.ari rfl rfl rfl w2)) ?_) | (refine K.call ?_;refine JO.ld (Ld.callA (CS) (qb rfl) rfl (.cons .refl (.cons .refl (.cons .refl (.cons .refl (.cons .refl .nil)))))) rfl (fun _=>?_)) | refine gn ?_)
  (exact J.finA Try.func85 rfl .nil () (by exact .refl) rfl)
 ·have t1:((i:Int) != (j:Int))=true:=by simp;omega
  have t2:decide ((i:Int) > (j:Int))=true:=decide_eq_true (by omega);have w3:IntKind.i64.wrap ((i:Int) - (j:Int))=((i - j:Nat):Int):=by rw [w64 (by omega) (by omega)];omega
  have CS:=s_swrPt (fv:=fv) hz v l (m - i) m j (by omega) (by omega) (by omega)
  repeat (first | (refine K.binOp ?_;first | refine jq rfl rfl rfl ((Qt.ari rfl rfl rfl w2)) ?_ | refine jq rfl rfl rfl ((Qt.ari rfl rfl rfl w3)) ?_) | (refine K.call ?_;refine JO.ld (Ld.callA (CS) (qb rfl) rfl (.cons .refl (.cons .refl (.cons .refl (.cons .refl (.cons .refl .nil)))))) rfl (fun _=>?_)) | refine gn ?_)
  exact (ih ⟨(Ss.swr l (m - i) m j,i - j,j),by simp only [Ss.swr_len];exact q7l,by simp only;omega,by simp only;omega,qj,qn,by simp only;rw [← Ss.rot_gt l m i j h (by omega)];exact qr⟩ (by simp only;omega)).weak ⟨rfl,rfl,rfl,rfl,rfl,trivial⟩
end
end Fl
end Go.Proofs.Ytdibmkjoaghafaa
