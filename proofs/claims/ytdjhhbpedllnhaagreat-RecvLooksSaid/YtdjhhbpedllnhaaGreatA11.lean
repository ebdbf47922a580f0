/-
  What the laws need, part A11.
  Conditions: none.
-/
import Derived.Test.YtdjhhbpedllnhaaGreatA10
set_option linter.unusedVariables false
set_option linter.unusedSimpArgs false
set_option linter.unnecessarySimpa false
set_option maxHeartbeats 2000000
namespace Go.Proofs.YtdjhhbpedllnhaaGreat
open Go.RowKit
namespace Fl
open Sx Go.Proofs.Tryz
theorem set_perm {r r':an}:∀ {L:List an} {j:Nat},L[j]?=some r→(L.set j r').Perm (r' :: L.eraseIdx j)
 | [],j,h=>by simp at h
 | q :: L,0,h=>by simp
 | q :: L,j + 1,h=>by
  simp at h;simp only [List.set_cons_succ,List.eraseIdx_cons_succ];exact ((set_perm h).cons q).trans (List.Perm.swap r' q _)
section
variable {P:Program} {c:Cx} {k:List Item} {f:Fm} {L:List an} {ops:Array Oper} {l:List Oper} {o:Oper} {T:TypeId} {ps:String} {af:Array Edge} {gd:Option (Nat × Bool)} {t:Nat}
theorem Ld.To (j:Nat) {F:FuncId} {args:List Operand} {tys:Array TypeId} {dB ds:List D} {r:an} {ι:Type} {dd:ι→D} {r':ι→an} {L':ι→List an} [i:aJ P F] (hC:av P F ds [r] (fun x=>(dd x,[r' x]))) (hj:L[j]?=some r) (ht:t < c.N) (h:iR f args=some dB) (hle:aW dB ds) (hL:∀ x,L.set j (r' x)=L' x) :
  Ld P c ⟨some t,.call ⟨.value (.func F),args.toArray,tys⟩,T,ps,af,gd⟩ f L r.bT (fun x=>(t,dd x) :: f) L':=⟨fun a w s K Q hK=>by
 have hp:=sZ L j hj;have h1:=Ld.call (P:=P) (c:=c) (T:=T) (ps:=ps) (af:=af) (gd:=gd) (L:=r :: L.eraseIdx j) (f:=f) (tys:=tys) hC ht h hle (Ll:=[r]) (Lr:=L.eraseIdx j) rfl;refine h1.go a w (s.perm hp) K Q fun x v w' kp sx hf=>?_
 have hq:=set_perm (r':=r' x) hj;rw [hL] at hq;refine hK x v w' (by simpa [bq] using kp) (sx.perm hq) fun y hy=>?_
 rcases hf y ((rN hq y).1 hy) with h | h
 ·exact .inl ((rN hp y).1 h)
 ·exact .inr h⟩
end
class vi (L:List an) (r:an) (j:outParam Nat):Prop where h:L[j]?=some r
instance vi.succ {q r:an} {M:List an} {j:Nat} [h:vi M r j]:vi (q :: M) r (j + 1):=⟨by simpa using h.h⟩
instance vi.zero {r:an} {M:List an}:vi (r :: M) r 0:=⟨rfl⟩
section
variable {P:Program} {c:Cx} {k:List Item} {f:Fm} {L:List an} {ops:Array Oper} {l:List Oper} {o:Oper} {T:TypeId} {ps:String} {af:Array Edge} {gd:Option (Nat × Bool)} {t:Nat}
theorem Ld.eN {F:FuncId} {args:List Operand} {tys:Array TypeId} {dB ds:List D} {r:an} {j:Nat} {ι:Type} {dd:ι→D} {r':ι→an} {L':ι→List an} [i:aJ P F] (hC:av P F ds [r] (fun x=>(dd x,[r' x]))) [hj:vi L r j] [hL:∀ x,lZ L j (r' x) (L' x)] (ht:t < c.N) (h:iR f args=some dB) (hle:aW dB ds) :
  Ld P c ⟨some t,.call ⟨.value (.func F),args.toArray,tys⟩,T,ps,af,gd⟩ f L r.bT (fun x=>(t,dd x) :: f) L':=Ld.To j hC hj.h ht h hle fun x=>(hL x).h
theorem Ld.Tp {F:FuncId} {args:List Operand} {tys:Array TypeId} {dB ds:List D} {ι:Type} {dd:ι→D} {L':ι→List an} [i:aJ P F] (hC:av P F ds L (fun x=>(dd x,L' x))) (ht:t < c.N) (h:iR f args=some dB) (hle:aW dB ds) :
  Ld P c ⟨some t,.call ⟨.value (.func F),args.toArray,tys⟩,T,ps,af,gd⟩ f L (bq L) (fun x=>(t,dd x) :: f) L':=⟨fun a w s K Q hK =>
 (Ld.call (P:=P) (c:=c) (T:=T) (ps:=ps) (af:=af) (gd:=gd) (tys:=tys) hC ht h hle (Ll:=L) (Lr:=[]) (by simp)).go a w s K Q fun x v w' kp sx hf=>hK x v w' kp (by simpa using sx) (by simpa using hf)⟩
end
section
variable {P:Program} {F:FuncId} {ok:Nat→Prop} {e:World} {L0 L:List an} {ι:Type} {post:ι→D × List an} {fn:Func} {N:Nat} {f:Fm} {k:List Item}
theorem Fj (L:List an):(List.range L.length).map (fun i=>L[i]?)=L.map some:=by
 apply List.ext_getElem?;intro i;rw [List.getElem?_map,List.getElem?_map]
 by_cases h:i < L.length
 ·rw [List.getElem?_range h,List.getElem?_eq_getElem h];simp [List.getElem?_eq_getElem h]
 ·rw [List.getElem?_eq_none (by simpa using h),List.getElem?_eq_none (by omega)];rfl
theorem J.gF (hf:P.funcs[F]?=some fn) {rs:List ResultVar} {ds:List D} (iQ:fn.results=rs.toArray) (h:iI P f L rs ds) {d:D} (i:ι) (hle:eU (qh ds) d) (hp:post i=(d,L)):J P (cx F ok e L0 post N) (.code .ret :: k) f L :=
 J.ret hf iQ h i hle (List.range L.length) List.nodup_range (Fj L) hp
theorem J.ij (hf:P.funcs[F]?=some fn) {rs:List ResultVar} {ds:List D} (iQ:fn.results=rs.toArray) (h:iI P f L rs ds) {d:D} (i:ι) (hle:eU (qh ds) d) (hp:post i=(d,L)):J P (cx F ok e L0 post N) [] f L :=
 J.fin hf iQ h i hle (List.range L.length) List.nodup_range (Fj L) hp
theorem Kr (E L:List an):((List.range L.length).map (· + E.length)).map (fun i=>(E ++ L)[i]?)=L.map some:=by
 rw [List.map_map,← Fj L];refine List.map_congr_left fun i _=>?_
 simp only [Function.comp];rw [List.getElem?_append_right (by omega)]
 congr 1;omega
theorem J.jR (E:List an) {L':List an} (hL:L=E ++ L') (hf:P.funcs[F]?=some fn) {rs:List ResultVar} {ds:List D} (iQ:fn.results=rs.toArray) (h:iI P f L rs ds) {d:D} (i:ι) (hle:eU (qh ds) d) (hp:post i=(d,L')):J P (cx F ok e L0 post N) (.code .ret :: k) f L:=by
 subst hL;exact J.ret hf iQ h i hle ((List.range L'.length).map (· + E.length)) (List.pairwise_map.2 (List.nodup_range.imp (fun h e=>h (by omega)))) (Kr E L') hp
end
structure pe (Φ:World→List Nat→Prop):Prop where
 aY:∀ {w w':World} {S T:List Nat},Φ w S→aq T w w'→(∀ x∈S,x∉T)→Φ w' S
 lt:∀ {w:World} {S:List Nat},Φ w S→∀ x∈S,x < w.heap.size
def aO (Φ:World→List Nat→Prop) (S:List Nat):an:=.obj S (fun w=>Φ w S)
theorem aO.holds {Φ:World→List Nat→Prop} (h:pe Φ) {ok:Nat→Prop} {w:World} {S:List Nat}:(aO Φ S).holds ok w↔Φ w S:=by
 constructor
 ·rintro ⟨h1,h2⟩;exact h2 w [] (aq.refl _ _) (by simp)
 ·intro h1;exact ⟨h.lt h1,fun w' S' k hn=>h.aY h1 k hn⟩
section
variable {P:Program} {F:FuncId} {ds:List D}
theorem av.aO {Φ:World→List Nat→Prop} {S:List Nat} {ι:Type} {Ψ:ι→World→List Nat→Prop} {S':ι→List Nat} {d:ι→D} (zj:pe Φ) (Fk:∀ i,pe (Ψ i))
  (h:∀ ok e xs,ck ok e ds xs→Φ e S→Calls P F xs.toArray e fun en w'=>∃ i x,en=.returned x∧aq S e w'∧(∀ y∈S' i,y∈S∨e.heap.size≤y)∧Ψ i w' (S' i)∧RD (fun g=>(ok g∨g∈S∨e.heap.size≤g)∧g∉S' i) w' (d i) x) :
  av P F ds [Fl.aO Φ S] (fun i=>(d i,[Fl.aO (Ψ i) (S' i)])):=⟨fun ok e xs hd hr _ _=>by
 have h1:=(aO.holds zj).1 (hr _ (List.mem_singleton.2 rfl));refine Calls.mono (h ok e xs hd h1) ?_
 rintro en w' ⟨i,x,rfl,kp,hs,hp,hx⟩
 have fe:∀ (Φ:World→List Nat→Prop) (S:List Nat),bq [Fl.aO Φ S]=S:=fun Φ S=>by simp [bq,Fl.aO,an.bT]
 refine ⟨i,x,rfl,by rw [fe];exact kp,by rw [fe,fe];exact hs,List.pairwise_singleton _ _,fun r hr=>?_,?_⟩
 ·rw [List.mem_singleton.1 hr];exact (aO.holds (Fk i)).2 hp
 ·have:mJ ok e [Fl.aO Φ S] [Fl.aO (Ψ i) (S' i)]=fun g=>(ok g∨g∈S∨e.heap.size≤g)∧g∉S' i:=by
   funext g;unfold mJ;rw [fe,fe]
  rw [this];exact hx⟩
theorem av.jb {Φ Ψ:World→List Nat→Prop} {S:List Nat} {d:D} (zj:pe Φ) (Fk:pe Ψ)
  (h:∀ ok e xs,ck ok e ds xs→Φ e S→Calls P F xs.toArray e fun en w'=>∃ x,en=.returned x∧aq S e w'∧Ψ w' S∧RD (fun g=>(ok g∨g∈S∨e.heap.size≤g)∧g∉S) w' d x) :
  av P F ds [Fl.aO Φ S] (fun _:Unit=>(d,[Fl.aO Ψ S])) :=
 av.aO (ι:=Unit) (Ψ:=fun _=>Ψ) (S':=fun _=>S) (d:=fun _=>d) zj (fun _=>Fk) fun ok e xs hd hp=>by
  refine Calls.mono (h ok e xs hd hp) ?_
  rintro en w' ⟨x,h1,h2,h3,h4⟩
  exact ⟨(),x,h1,h2,fun y hy=>.inl hy,h3,h4⟩
theorem av.plain {d:D} (h:∀ ok e xs,ck ok e ds xs→Calls P F xs.toArray e fun en w'=>∃ x,en=.returned x∧aq [] e w'∧RD (fun g=>ok g∨e.heap.size≤g) w' d x):Pure P F ds d:=⟨fun ok e xs hd _ _ _=>by
 refine Calls.mono (h ok e xs hd) ?_
 rintro en w' ⟨x,rfl,kp,hx⟩
 refine ⟨(),x,rfl,by simpa [bq] using kp,by simp [bq],List.Pairwise.nil,by simp,?_⟩;have:mJ ok e [] []=fun g=>ok g∨e.heap.size≤g:=by
  funext g;unfold mJ;simp [bq]
 rw [this];exact hx⟩
end
theorem ck.v1 {ok:Nat→Prop} {w:World} {v:Value} {xs:List Value} (h:ck ok w [.c (.v v)] xs):xs=[v]:=by
 unfold ck at h;obtain ⟨x,ys,rfl,h1,h2⟩:=h;unfold ck at h2;unfold RD RA at h1;rw [h2,h1.1]
theorem ck.cv {ok:Nat→Prop} {w:World} {v:Value} {ds:List D} {xs:List Value} (h:ck ok w (.c (.v v) :: ds) xs):∃ ys,xs=v :: ys∧ck ok w ds ys:=by
 unfold ck at h;obtain ⟨x,ys,rfl,h1,h2⟩:=h;unfold RD RA at h1;exact ⟨ys,by rw [h1.1],h2⟩
theorem ck.v2 {ok:Nat→Prop} {w:World} {u v:Value} {xs:List Value} (h:ck ok w [.c (.v u),.c (.v v)] xs):xs=[u,v]:=by
 obtain ⟨ys,e1,h1⟩:=h.cv;rw [e1,h1.v1]
theorem ck.v3 {ok:Nat→Prop} {w:World} {t u v:Value} {xs:List Value} (h:ck ok w [.c (.v t),.c (.v u),.c (.v v)] xs):xs=[t,u,v]:=by
 obtain ⟨ys,e1,h1⟩:=h.cv;rw [e1,h1.v2]
theorem ck.v4 {ok:Nat→Prop} {w:World} {s t u v:Value} {xs:List Value} (h:ck ok w [.c (.v s),.c (.v t),.c (.v u),.c (.v v)] xs):xs=[s,t,u,v]:=by
 obtain ⟨ys,e1,h1⟩:=h.cv;rw [e1,h1.v3]
theorem ck.Ks {ok:Nat→Prop} {w:World} {xs:List Value} (h:ck ok w [] xs):xs=[]:=by unfold ck at h;exact h
theorem RD.v {ok:Nat→Prop} {w:World} {v:Value} (h:v.oneCell'=true):RD ok w (.c (.v v)) v:=by unfold RD RA;exact ⟨rfl,h⟩
theorem RD.vj {ok:Nat→Prop} {w:World} {v u:Value} (h:v.oneCell'=true) (k:u.oneCell'=true):RD ok w (.aZ [.c (.v v),.c (.v u)]) (.tuple #[v,u]):=by unfold RD;exact ⟨[v,u],rfl,ck.cons (RD.v h) (ck.cons (RD.v k) ck.nil)⟩
theorem RX.ints {ok:Nat→Prop} {w:World}:∀ (l:List Int),RX ok w 1 (l.map fun n=>[A.v (.int .i64 n)]) (l.map (Value.int .i64))
 | []=>rfl
 | n :: l=>⟨[.int .i64 n],l.map (Value.int .i64),rfl,rfl,RC.cons (by unfold RA;exact ⟨rfl,rfl⟩) RC.nil,RX.ints l⟩
theorem RA.ints {ok:Nat→Prop} {w:World} {v:Value} {l:List Int} {S:List Nat} (h:IV w v l S) (hs:∀ x∈S,ok x):RA ok w (.r 1 (l.map fun n=>[A.v (.int .i64 n)])) v :=
 RA.Bp (ys:=l.map (Value.int .i64)) (S:=S) (by rw [List.length_map];exact h) (RX.ints l) hs
theorem RX.Kt {ok:Nat→Prop} {w:World}:∀ {l:List Int} {xs:List Value},RX ok w 1 (l.map fun n=>[A.v (.int .i64 n)]) xs→xs=l.map (Value.int .i64)
 | [],xs,h=>h
 | n :: l,xs,h=>by
  obtain ⟨vs,ys,rfl,h2,h3,h4⟩:=h;have:=RX.Kt h4;unfold RC at h3;obtain ⟨x,zs,rfl,h5,h6⟩:=h3;unfold RC at h6;unfold RA at h5;rw [h6,h5.1,this];rfl
theorem IV.Fo {ok:Nat→Prop} {w:World} {v:Value} {l:List Int} (h:RA ok w (.r 1 (l.map fun n=>[A.v (.int .i64 n)])) v):∃ S,IV w v l S∧∀ x∈S,ok x:=by
 obtain ⟨ys,S,h1,h2,h3⟩:=h.view;refine ⟨S,?_,h3⟩;rw [RX.Kt h2,List.length_map] at h1;exact h1
end Fl
open Go.RowKit
namespace Fl
open Sx Go.Proofs.Tryz
def tB (p:Value) (l:List (Int × Bool)) (w:World) (S:List Nat):Prop:=Bn w p l S
theorem tB.ok {p:Value} {l:List (Int × Bool)}:pe (tB p l):=⟨fun h k hn=>h.aY k hn,fun h=>h.lt⟩
theorem Tq (p:Value) (l:List (Int × Bool)) (S:List Nat) (i:Int):av prog 56 [.c (.v p),.c (nI i)] [aO (tB p l) S] (fun _:Unit=>(.c (nI (Bc.status l i)),[aO (tB p l) S])) :=
 av.jb tB.ok tB.ok fun ok e xs hd h=>by
  obtain rfl:=hd.v2;refine (tA e p l S i h).mono ?_
  rintro en w' ⟨rfl,rfl⟩
  exact ⟨_,rfl,aq.refl _ _,h,RD.v rfl⟩
theorem Tr (p:Value) (l:List (Int × Bool)) (S:List Nat) (i:Int):av prog 57 [.c (.v p),.c (nI i)] [aO (tB p l) S] (fun _:Unit=>(.c (bI (Bc.token l i)),[aO (tB p l) S])) :=
 av.jb tB.ok tB.ok fun ok e xs hd h=>by
  obtain rfl:=hd.v2;refine (Rb e p l S i h).mono ?_
  rintro en w' ⟨rfl,rfl⟩
  exact ⟨_,rfl,aq.refl _ _,h,RD.v rfl⟩
theorem Ts (p:Value) (l:List (Int × Bool)) (S:List Nat) (i:Int):av prog 116 [.c (.v p),.c (nI i)] [aO (tB p l) S] (fun _:Unit=>(.c (bI (Bc.rS l i)),[aO (tB p (Bc.tv l i)) S])) :=
 av.jb tB.ok tB.ok fun ok e xs hd h=>by
  obtain rfl:=hd.v2;refine (Rc e p l S i h).mono ?_
  rintro en w' ⟨rfl,h1,h2⟩
  exact ⟨_,rfl,h2,h1,RD.v rfl⟩
theorem Tt (p:Value) (l:List (Int × Bool)) (S:List Nat) (i:Int):av prog 119 [.c (.v p),.c (nI i)] [aO (tB p l) S] (fun _:Unit=>(.c (bI (Bc.qA l i)),[aO (tB p (Bc.oq l i)) S])) :=
 av.jb tB.ok tB.ok fun ok e xs hd h=>by
  obtain rfl:=hd.v2;refine (Rd e p l S i h).mono ?_
  rintro en w' ⟨rfl,h1,h2⟩
  exact ⟨_,rfl,h2,h1,RD.v rfl⟩
theorem Tu (p:Value) (l:List (Int × Bool)) (S:List Nat) (i s:Int) (t:Bool):av prog 50 [.c (.v p),.c (nI i),.c (nI s),.c (bI t)] [aO (tB p l) S] (fun _:Unit=>(.c (bI (Bc.kM l i s)),[aO (tB p (Bc.lE l i s t)) S])) :=
 av.jb tB.ok tB.ok fun ok e xs hd h=>by
  obtain rfl:=hd.v4;refine (Re e p l S i s t h).mono ?_
  rintro en w' ⟨rfl,h1,h2⟩
  exact ⟨_,rfl,h2,h1,RD.v rfl⟩
theorem Tv (n:Int):av prog 44 [.c (nI n)] [] (fun x:Value × List Nat=>(.c (.v x.1),[aO (tB x.1 (Bc.nK n)) x.2])):=⟨fun ok e xs hd _ _ _=>by
 obtain rfl:=hd.v1;refine (Ri e n).mono ?_
 rintro en w' ⟨p,S,rfl,h1,h2,h3⟩
 refine ⟨(p,S),p,rfl,by simpa [bq] using h1,fun y hy=>.inr (h3 y (by simpa [bq,aO,an.bT] using hy)),List.pairwise_singleton _ _,fun r hr=>?_,?_⟩
 ·rw [List.mem_singleton.1 hr];exact (aO.holds tB.ok).2 h2
 ·obtain ⟨b,rfl⟩:=h2.shape;exact RD.v rfl⟩
def tL (p:Value) (l:List Int) (w:World) (S:List Nat):Prop:=lB w p l S
theorem tL.ok {p:Value} {l:List Int}:pe (tL p l):=⟨fun h k hn=>h.aY k hn,fun h=>h.lt⟩
theorem Tw (p:Value) (l:List Int) (S:List Nat) (i:Int):av prog 61 [.c (.v p),.c (nI i)] [aO (tL p l) S] (fun _:Unit=>(.c (nI (Lt.owner l i)),[aO (tL p l) S])) :=
 av.jb tL.ok tL.ok fun ok e xs hd h=>by
  obtain rfl:=hd.v2;refine (Q4 e p l S i h).mono ?_
  rintro en w' ⟨rfl,rfl⟩
  exact ⟨_,rfl,aq.refl _ _,h,RD.v rfl⟩
theorem Ku (p:Value) (l:List Int) (S:List Nat) (i g:Int):av prog 108 [.c (.v p),.c (nI i),.c (nI g)] [aO (tL p l) S] (fun _:Unit=>(.c (bI (Lt.lC l i g)),[aO (tL p (Lt.lD l i g)) S])) :=
 av.jb tL.ok tL.ok fun ok e xs hd h=>by
  obtain rfl:=hd.v3;refine (Q5 e p l S i g h).mono ?_
  rintro en w' ⟨rfl,h1,h2⟩
  exact ⟨_,rfl,h2,h1,RD.v rfl⟩
theorem Tx (p:Value) (l:List Int) (S:List Nat) (i g:Int):av prog 115 [.c (.v p),.c (nI i),.c (nI g)] [aO (tL p l) S] (fun _:Unit=>(.c (bI (Lt.nJ l i g)),[aO (tL p (Lt.oo l i g)) S])) :=
 av.jb tL.ok tL.ok fun ok e xs hd h=>by
  obtain rfl:=hd.v3;refine (Q6 e p l S i g h).mono ?_
  rintro en w' ⟨rfl,h1,h2⟩
  exact ⟨_,rfl,h2,h1,RD.v rfl⟩
theorem Ty (n:Int):av prog 45 [.c (nI n)] [] (fun x:Value × List Nat=>(.c (.v x.1),[aO (tL x.1 (Lt.nK n)) x.2])):=⟨fun ok e xs hd _ _ _=>by
 obtain rfl:=hd.v1;refine (Q9 e n).mono ?_
 rintro en w' ⟨p,S,rfl,h1,h2,h3⟩
 refine ⟨(p,S),p,rfl,by simpa [bq] using h1,fun y hy=>.inr (h3 y (by simpa [bq,aO,an.bT] using hy)),List.pairwise_singleton _ _,fun r hr=>?_,?_⟩
 ·rw [List.mem_singleton.1 hr];exact (aO.holds tL.ok).2 h2
 ·obtain ⟨b,rfl⟩:=h2.shape;exact RD.v rfl⟩
end Fl
open Go.RowKit
namespace Fl
open Sx Go.Proofs.Tryz
def tQ (p:Value) (n:Nat) (R:List (List Int)) (w:World) (S:List Nat):Prop:=Qq w p n R S
theorem tQ.ok {p:Value} {n:Nat} {R:List (List Int)}:pe (tQ p n R):=⟨fun h k hn=>h.aY k hn,fun h=>h.lt⟩
theorem Fp (p:Value) (n:Nat) (R:List (List Int)) (S:List Nat) (k:Int):av prog 121 [.c (.v p),.c (nI k)] [aO (tQ p n R) S] (fun _:Unit=>(.aZ [.c (nI (Qu.first R k).1),.c (bI (Qu.first R k).2)],[aO (tQ p n R) S])) :=
 av.jb tQ.ok tQ.ok fun ok e xs hd h=>by
  obtain rfl:=hd.v2;refine (Rt e p n R S k h).mono ?_
  rintro en w' ⟨rfl,rfl⟩
  exact ⟨_,rfl,aq.refl _ _,h,RD.vj rfl rfl⟩
theorem Fq (p:Value) (n:Nat) (R:List (List Int)) (S:List Nat) (k x:Int):av prog 109 [.c (.v p),.c (nI k),.c (nI x)] [aO (tQ p n R) S] (fun _:Unit=>(.c (bI (Qu.push n R k x).2),[aO (tQ p n (Qu.push n R k x).1) S])) :=
 av.jb tQ.ok tQ.ok fun ok e xs hd h=>by
  obtain rfl:=hd.v3;refine (Rv e p n R S k x h).mono ?_
  rintro en w' ⟨rfl,h1,h2⟩
  exact ⟨_,rfl,h1,h2,RD.v rfl⟩
theorem Tz (p:Value) (n:Nat) (R:List (List Int)) (S:List Nat) (x:Int):av prog 123 [.c (.v p),.c (nI x)] [aO (tQ p n R) S] (fun _:Unit=>(.c (bI (Qu.drop R x).2),[aO (tQ p n (Qu.drop R x).1) S])) :=
 av.jb tQ.ok tQ.ok fun ok e xs hd h=>by
  obtain rfl:=hd.v2;refine (RT e p n R S x h).mono ?_
  rintro en w' ⟨rfl,h1,h2⟩
  exact ⟨_,rfl,h1,h2,RD.v rfl⟩
theorem Kv (p:Value) (n:Nat) (R:List (List Int)) (S:List Nat) (k:Int):av prog 62 [.c (.v p),.c (nI k)] [aO (tQ p n R) S] (fun _:Unit=>(.c (ints (Qu.row R k)),[aO (tQ p n R) S])) :=
 av.jb tQ.ok tQ.ok fun ok e xs hd h=>by
  obtain rfl:=hd.v2;refine (SG e p n R S k h).mono ?_
  rintro en w' ⟨v,T,rfl,h1,h2,h3⟩
  refine ⟨_,rfl,h1.mono (by simp),h.then h1,?_⟩;unfold RD;exact RA.ints h2 fun x hx=>⟨.inr (.inr (h3 x hx)),fun hs=>by have:=h.lt x hs;have:=h3 x hx;omega⟩
theorem TA (n m:Nat) (h1:n≤64) (h2:m≤64):av prog 47 [.c (nI n),.c (nI m)] [] (fun x:Value × List Nat=>(.aZ [.c (.v x.1),.c (nI 0)],[aO (tQ x.1 n (List.replicate m [])) x.2])):=⟨fun ok e xs hd _ _ _=>by
 obtain rfl:=hd.v2;refine (S0 e n m h1 h2).mono ?_
 rintro en w' ⟨p,S,rfl,h1,h2⟩
 refine ⟨(p,S),_,rfl,by simpa [bq] using h1.1,fun y hy=>.inr (h1.2 y (by simpa [bq,aO,an.bT] using hy)),List.pairwise_singleton _ _,fun r hr=>?_,?_⟩
 ·rw [List.mem_singleton.1 hr];exact (aO.holds tQ.ok).2 h2
 ·obtain ⟨b,rfl⟩:=Qq.shape h2;exact RD.vj rfl rfl⟩
def tP (p:Value) (size most:Nat) (s:Po.St) (w:World) (S:List Nat):Prop:=PS w p size most s S
theorem tP.ok {p:Value} {size most:Nat} {s:Po.St}:pe (tP p size most s):=⟨fun h k hn=>Pl.aY h k hn,fun h=>Pl.lt h⟩
theorem TC (p:Value) (size most:Nat) (s:Po.St) (S:List Nat) (g y:Int) (v:Po.Inv size most s):av prog 117 [.c (.v p),.c (nI g),.c (nI y)] [aO (tP p size most s) S] (fun S':List Nat=>(.c (bI (Po.cy most s g y).2),[aO (tP p size most (Po.cy most s g y).1) S'])) :=
 av.aO (ι:=List Nat) (Ψ:=fun _=>tP p size most (Po.cy most s g y).1) (S':=fun S'=>S') (d:=fun _=>.c (bI (Po.cy most s g y).2)) tP.ok (fun _=>tP.ok) fun ok e xs hd h=>by
  obtain rfl:=hd.v3;refine (So e p size most s S g y h v).mono ?_
  rintro en w' ⟨rfl,S',h1,h2,h3⟩
  exact ⟨S',_,rfl,h2,h3,h1,RD.v rfl⟩
theorem TD (p:Value) (size most:Nat) (s:Po.St) (S:List Nat) (hM:s.M.length≤1000):av prog 53 [.c (.v p)] [aO (tP p size most s) S] (fun _:Unit=>(.c (ints s.M),[aO (tP p size most s) S])) :=
 av.jb tP.ok tP.ok fun ok e xs hd h=>by
  obtain rfl:=hd.v1;refine (QI e p _ _ _ _ _ _ _ h hM).mono ?_
  rintro en w' ⟨v,T,rfl,h1,h2,h3⟩
  refine ⟨_,rfl,h1.mono (by simp),Pl.then h h1,?_⟩;unfold RD;exact RA.ints h2 fun x hx=>⟨.inr (.inr (h3 x hx)),fun hs=>by have:=Pl.lt h x hs;have:=h3 x hx;omega⟩
theorem TE (p:Value) (size most:Nat) (s:Po.St) (S:List Nat) (g:Int) (hC:∀ l∈s.C,l.length≤1000):av prog 58 [.c (.v p),.c (nI g)] [aO (tP p size most s) S] (fun _:Unit=>(.c (ints (Po.cache s.C g)),[aO (tP p size most s) S])) :=
 av.jb tP.ok tP.ok fun ok e xs hd h=>by
  obtain rfl:=hd.v2;refine (QL e p _ _ _ _ _ _ _ g h hC).mono ?_
  rintro en w' ⟨v,T,rfl,h1,h2,h3⟩
  refine ⟨_,rfl,h1.mono (by simp),Pl.then h h1,?_⟩;unfold RD;exact RA.ints h2 fun x hx=>⟨.inr (.inr (h3 x hx)),fun hs=>by have:=Pl.lt h x hs;have:=h3 x hx;omega⟩
theorem TF (p:Value) (size most:Nat) (s:Po.St) (S:List Nat):av prog 54 [.c (.v p)] [aO (tP p size most s) S] (fun _:Unit=>(.c (nI s.f),[aO (tP p size most s) S])) :=
 av.jb tP.ok tP.ok fun ok e xs hd h=>by
  obtain rfl:=hd.v1;refine (QH e p _ _ _ _ _ _ _ h).mono ?_
  rintro en w' ⟨rfl,rfl⟩
  exact ⟨_,rfl,aq.refl _ _,h,RD.v rfl⟩
def tR (l:List (Value × Nat × List Int)) (w:World) (S:List Nat):Prop :=
 ∃ Ss:List (List Nat),Ss.length=l.length∧S=Ss.flatten∧Ss.Pairwise (fun A B=>∀ x∈A,x∉B)∧∀ (i:Nat) x Si,l[i]?=some x→Ss[i]?=some Si→Rg w x.1 x.2.1 x.2.2 Si
theorem qE {Ss:List (List Nat)} {i:Nat} {Si:List Nat} (h:Ss[i]?=some Si) {x:Nat} (hx:x∈Si):x∈Ss.flatten:=List.mem_flatten.2 ⟨Si,List.mem_of_getElem? h,hx⟩
theorem tR.ok {l:List (Value × Nat × List Int)}:pe (tR l):=by
 refine ⟨?_,?_⟩
 ·rintro w w' S T ⟨Ss,h1,rfl,h3,h4⟩ k hn
  exact ⟨Ss,h1,rfl,h3,fun i x Si hi hs=>(h4 i x Si hi hs).aY k fun y hy=>hn y (qE hs hy)⟩
 ·rintro w S ⟨Ss,h1,rfl,h3,h4⟩ x hx
  obtain ⟨Si,hs,hx⟩:=List.mem_flatten.1 hx;obtain ⟨i,hi⟩:=List.getElem?_of_mem hs;have hl:i < l.length:=by rw [← h1];exact (List.getElem?_eq_some_iff.1 hi).1
  exact (h4 i _ Si (List.getElem?_eq_getElem hl) hi).lt x hx
theorem TG {Ss:List (List Nat)} (h:Ss.Pairwise (fun A B=>∀ x∈A,x∉B)) {i j:Nat} {A B:List Nat} (hi:Ss[i]?=some A) (hj:Ss[j]?=some B) (bG:i≠j):∀ x∈B,x∉A:=by
 intro x hx hy;obtain ⟨dY,fo⟩:=List.getElem?_eq_some_iff.1 hi;obtain ⟨x9,eP⟩:=List.getElem?_eq_some_iff.1 hj;rcases Nat.lt_or_gt_of_ne bG with c | c
 ·have:=List.pairwise_iff_getElem.1 h i j dY x9 c x (fo ▸ hy);exact this (eP ▸ hx)
 ·have:=List.pairwise_iff_getElem.1 h j i x9 dY c x (eP ▸ hx);exact this (fo ▸ hy)
theorem tR.at_ {l:List (Value × Nat × List Int)} {w:World} {S:List Nat} (h:tR l w S) {i:Nat} {p:Value} {N:Nat} {b:List Int} (hi:l[i]?=some (p,N,b)) :
  ∃ Si,Rg w p N b Si∧(∀ x∈Si,x∈S)∧∀ w' b',aq Si w w'→Rg w' p N b' Si→tR (l.set i (p,N,b')) w' S:=by
 obtain ⟨Ss,h1,rfl,h3,h4⟩:=h;have hl:=(List.getElem?_eq_some_iff.1 hi).1;have hs:=List.getElem?_eq_getElem (show i < Ss.length by omega);refine ⟨Ss[i]'(by omega),h4 i _ _ hi hs,fun x hx=>qE hs hx,fun w' b' k hr=>⟨Ss,by simp [h1],rfl,h3,fun j x Sj hj BO=>?_⟩⟩
 by_cases e:i=j
 ·subst e;rw [List.getElem?_set_self hl] at hj
  cases hj;rw [hs] at BO;cases BO;exact hr
 ·rw [List.getElem?_set_ne e] at hj;exact (h4 j x Sj hj BO).aY k (TG h3 hs BO e)
theorem Kw (l:List (Value × Nat × List Int)) (S:List Nat) {i:Nat} {p:Value} {N:Nat} {b:List Int} (hi:l[i]?=some (p,N,b)):av prog 59 [.c (.v p)] [aO (tR l) S] (fun _:Unit=>(.c (nI N),[aO (tR l) S])) :=
 av.jb tR.ok tR.ok fun ok e xs hd h=>by
  obtain rfl:=hd.v1;obtain ⟨Si,h1,h2,h3⟩:=h.at_ hi;refine (S5 e p N b Si h1).mono ?_
  rintro en w' ⟨rfl,rfl⟩
  exact ⟨_,rfl,aq.refl _ _,h,RD.v rfl⟩
theorem TH (l:List (Value × Nat × List Int)) (S:List Nat) {i:Nat} {p:Value} {N:Nat} {b:List Int} (hi:l[i]?=some (p,N,b)):av prog 60 [.c (.v p)] [aO (tR l) S] (fun _:Unit=>(.c (ints b),[aO (tR l) S])) :=
 av.jb tR.ok tR.ok fun ok e xs hd h=>by
  obtain rfl:=hd.v1;obtain ⟨Si,h1,h2,h3⟩:=h.at_ hi;refine (Ta e p N b Si h1).mono ?_
  rintro en w' ⟨v,T,rfl,k1,k2,k3⟩
  refine ⟨_,rfl,k1.mono (by simp),tR.ok.aY h k1 (by simp),?_⟩;unfold RD;exact RA.ints k2 fun x hx=>⟨.inr (.inr (k3 x hx)),fun hs=>by have:=tR.ok.lt h x hs;have:=k3 x hx;omega⟩
end Fl
open Go.RowKit
namespace Fl
open Sx Go.Proofs.Tryz
structure U where
 vG:Value
 pB:Value
 vR:Value
 vC:Value
 pL:Value
 pQ:Value
 vS:Value
 pP:Value
 bD:Nat
 vM:Value
 TB:List Nat
 TL:List Nat
 TQ:List Nat
 TP:List Nat
 TR:List Nat
 H:List Bool
 rs:Nat→Value
 sg:Nat→Value
 wk:Nat→Value
def pt (b:Nat):Value:=.pointer (some ⟨b,0,none⟩)
def gW (x:Gr) (v u:Value):List A :=
  [.r 6 (x.ops.map eL),nI x.at_,nI x.place,nI 0,bI false,nI x.call,bI x.aU,nI x.param,nI x.aI,nI x.hold,nI x.t,nI x.iJ,nI x.bE,nI x.wi,nI x.dJ,
   nI x.res.code,nI x.res.cs,nI x.res.v,bI x.res.ok,nI x.res.n,ints x.order,ints x.aF,.v v,.v u,nI x.k]
def fI (u:U) (s:ah):List (List A):=(List.range s.gs.length).map fun g=>gW (aa s g) (u.sg g) (u.wk g)
def dW (s:ah):A:=.r 1 (s.dG.map fun n=>[.v (.int .u16 n)])
def wW (u:U) (s:ah):List A :=
 [nI s.dh,nI s.bP,nI s.step,.v u.vG,.v u.pB,.v u.vR,.v u.vC,.v u.pL,.v u.pQ,.v u.vS,.v u.pP,.v (pt u.bD),dW s,.v u.vM]
def qW (s:ah):List (List Int):=(List.range 16).map fun k=>if k % 2=0 then (cn s ((k / 2:Nat) + 1)).recv else (cn s ((k / 2:Nat) + 1)).send
def ez (u:U) (s:ah):Po.St:=⟨s.cache,s.middle,s.fresh.toNat,u.H⟩
def kW (u:U) (s:ah):List (Value × Nat × List Int):=(List.range s.au.length).map fun i=>(u.rs i,(cn s (i + 1)).cap.toNat,(cn s (i + 1)).buf)
def dO (l:List Int):List (List A):=l.map fun n=>[nI n]
def iE (u:U) (s:ah):List an:=((List.range s.gs.length).map fun g=>.row (u.sg g) 3 1 (dO (aa s g).ax)) ++ ((List.range s.gs.length).map fun g=>.row (u.wk g) 3 1 (dO (aa s g).ak))
@[reducible] def wd (b:Nat) (u:U) (s:ah):List an :=
 .box b 68 (wW u s) ::
 .row u.vG 47 25 (fI u s) ::
 .row u.vR 106 1 ((List.range s.au.length).map fun i=>[.v (u.rs i)]) ::
 .row u.vC 4 1 (s.au.map fun c=>[bI c.closed]) ::
 .row u.vS 52 7 (s.aB.map eS) ::
 .row u.vM 54 13 (s.done.map eM) ::
 .box u.bD 130 [dW s,nI s.drawn] ::
 aO (tB u.pB (s.gs.map fun x=>(x.status,x.token))) u.TB ::
 aO (tL u.pL (s.au.map (·.lock))) u.TL ::
 aO (tQ u.pQ s.aB.length (qW s)) u.TQ ::
 aO (tP u.pP s.dh.toNat s.bP.toNat (ez u s)) u.TP ::
 aO (tR (kW u s)) u.TR :: iE u s
section
variable {P:Program} {c:Cx} {k:List Item} {f:Fm} {L L2:List an}
theorem J.perm (hp:L2.Perm L) (h:J P c k f L2):J P c k f L:=⟨fun a w s=>h.go a w (s.perm hp)⟩
end
section
variable {P:Program} {c:Cx} {k:List Item} {f:Fm} {L L2:List an}
theorem St.oG {e sz:Nat} {a:Act} {w:World} (s:St c f L a w):St c f (.row (.slice none 0 0) e sz [] :: L) a w:=by
 have hf:bq (.row (.slice none 0 0) e sz [] :: L)=bq L:=by simp [bq,an.bT,dx]
 have ho:bF c (.row (.slice none 0 0) e sz [] :: L)=bF c L:=by funext x;unfold bF;rw [hf]
 refine ⟨s.kp,s.size,s.j5,fun q hq=>?_,fun x hx=>s.fL x (hf ▸ hx),List.pairwise_cons.2 ⟨fun q _ x hx=>by simp [an.bT,dx] at hx,s.ap⟩,fun t d ht=>by rw [ho];exact s.fr t d ht⟩;rw [ho];rcases List.mem_cons.1 hq with rfl | hq
 ·exact ⟨[],Row.nil w e sz,rfl⟩
 ·exact s.res q hq
theorem Since.iT {T:List Nat} {L0 L:List an} {r:an} {i:Nat} [bx:vi L0 r i] (ht:T.contains i=true):Since T L0 L r.bT:=.there bx.h ht
theorem J.oG (e sz:Nat) (h:J P c k f (.row (.slice none 0 0) e sz [] :: L)):J P c k f L:=⟨fun a w s=>h.go a w s.oG⟩
end
theorem wS (u:U) (s:ah):(fI u s).length=s.gs.length:=by simp [fI]
theorem Kx {u:U} {s:ah} {g:Nat} (hg:g < s.gs.length):(fI u s)[g]?=some (gW (aa s g) (u.sg g) (u.wk g)):=by
 unfold fI;rw [List.getElem?_map,List.getElem?_range hg];rfl
theorem Fs {α:Type} {n g:Nat} {h h':Nat→α} {a:α} (hg:g < n) (e1:h' g=a) (e2:∀ k,k≠g→k < n→h' k=h k):((List.range n).map h).set g a=(List.range n).map h':=by
 apply List.ext_getElem?;intro k;rw [List.getElem?_set,List.getElem?_map,List.getElem?_map]
 by_cases hk:k < n
 ·rw [List.getElem?_range hk]
  by_cases c:g=k
  ·subst c;simp [e1,hg]
  ·rw [if_neg c];simp [e2 k (Ne.symm c) hk]
 ·rw [List.getElem?_eq_none (by simpa using hk)]
  split
  ·rw [if_neg (by simp;omega)];simp
  ·simp
theorem Ky {u u':U} {s:ah} {g:Nat} {x:Gr} {v w:Value} (hg:g < s.gs.length) (e1:u'.sg g=v∧u'.wk g=w) (e2:∀ k,k≠g→u'.sg k=u.sg k∧u'.wk k=u.wk k):(fI u s).set g (gW x v w)=fI u' (ai s g x):=by
 unfold fI;have hl:(ai s g x).gs.length=s.gs.length:=by simp [ai]
 rw [hl];refine Fs hg ?_ fun k hk _=>?_
 ·rw [qz s g g x hg,if_pos rfl,e1.1,e1.2]
 ·rw [qz s g k x hg,if_neg hk,(e2 k hk).1,(e2 k hk).2]
theorem Kz {u:U} {s:ah} {g:Nat} {x:Gr} (hg:g < s.gs.length):(fI u s).set g (gW x (u.sg g) (u.wk g))=fI u (ai s g x):=Ky hg ⟨rfl,rfl⟩ fun _ _=>⟨rfl,rfl⟩
theorem KB {s:ah} {g:Nat} {x:Gr} (hg:g < s.gs.length):((ai s g x).gs.map fun x=>(x.status,x.token))=(s.gs.map fun x=>(x.status,x.token)).set g (x.status,x.token):=by
 simp [ai,List.map_set]
theorem KC {s:ah} {g:Nat} {x:Gr} (hg:g < s.gs.length) (e:x.status=(aa s g).status∧x.token=(aa s g).token):((ai s g x).gs.map fun x=>(x.status,x.token))=(s.gs.map fun x=>(x.status,x.token)):=by
 rw [KB hg,e.1,e.2];have:(s.gs.map fun x=>(x.status,x.token))[g]?=some ((aa s g).status,(aa s g).token):=by
  rw [List.getElem?_map];unfold aa;rw [List.getD_eq_getElem?_getD,List.getElem?_eq_getElem hg];rfl
 exact List.ext_getElem? fun k=>by
  rw [List.getElem?_set]
  split
  ·rename_i c;subst c;rw [this];simp [hg]
  ·rfl
theorem TI {u:U} {s:ah} {g:Nat} (hg:g < s.gs.length):(iE u s)[g]?=some (.row (u.sg g) 3 1 (dO (aa s g).ax)):=by
 unfold iE;rw [List.getElem?_append_left (by simpa using hg),List.getElem?_map,List.getElem?_range hg];rfl
theorem zl {u:U} {s:ah} {g:Nat} (hg:g < s.gs.length):(iE u s)[s.gs.length + g]?=some (.row (u.wk g) 3 1 (dO (aa s g).ak)):=by
 unfold iE;rw [List.getElem?_append_right (by simp),List.length_map,List.length_range,show s.gs.length + g - s.gs.length=g by omega,List.getElem?_map,List.getElem?_range hg];rfl
theorem KD {u:U} {s:ah} {g:Nat} {x:Gr} (hg:g < s.gs.length) (e1:x.ax=(aa s g).ax) (e2:x.ak=(aa s g).ak):iE u (ai s g x)=iE u s:=by
 unfold iE;have hl:(ai s g x).gs.length=s.gs.length:=by simp [ai]
 rw [hl]
 congr 1
 ·refine List.map_congr_left fun k hk=>?_
  rw [qz s g k x hg];split
  ·rename_i c;subst c;rw [e1]
  ·rfl
 ·refine List.map_congr_left fun k hk=>?_
  rw [qz s g k x hg];split
  ·rename_i c;subst c;rw [e2]
  ·rfl
theorem TJ {u:U} {s:ah} {g:Nat} {x:Gr} {v:Value} (hg:g < s.gs.length) (e1:x.ax=(aa s g).ax):(iE u s).set (s.gs.length + g) (.row v 3 1 (dO x.ak))=iE { u with wk:=fun k=>if k=g then v else u.wk k } (ai s g x):=by
 unfold iE;have hl:(ai s g x).gs.length=s.gs.length:=by simp [ai]
 rw [hl,List.set_append_right _ _ (by simp),List.length_map,List.length_range,show s.gs.length + g - s.gs.length=g by omega]
 congr 1
 ·refine List.map_congr_left fun k hk=>?_
  rw [qz s g k x hg];split
  ·rename_i c;subst c;rw [e1]
  ·rfl
 ·refine Fs hg ?_ fun k hk _=>?_
  ·simp only [if_true];rw [qz s g g x hg,if_pos rfl]
  ·simp only [if_neg hk];rw [qz s g k x hg,if_neg hk]
end Fl
open Go.RowKit
namespace Fl
open Sx Go.Proofs.Tryz
set_option maxRecDepth 100000
theorem wT {u:U} {s:ah} {g:Nat} (hg:g < s.gs.length):(fI u s)[((g:Int)).toNat]?=some (gW (aa s g) (u.sg g) (u.wk g)):=by rw [Int.toNat_natCast];exact Kx hg
section
variable {P:Program} {c:Cx} {f:Fm} {L:List an} {T:TypeId} {ps:String} {af:Array Edge} {gd:Option (Nat × Bool)} {t:Nat}
theorem Qt.BP (i:Nat) {x:Operand} {X sz:Nat} {v:Value} {l:List (List A)} {e e' rE:Nat} [ie:fM P X e' rE] (h:bg f x=some (.c (.v v))) (hi:L[i]?=some (.row v e sz l)) {n:Nat} (hn:l.length=n):Qt P c [] ⟨t,.call ⟨.builtin .len,#[x],#[X]⟩,T,ps,af,gd⟩ f L (.c (nI n)):=by
 subst hn;haveI:gU L v e sz l i:=⟨hi⟩
 exact Qt.yj h
end
@[reducible] def wl (b:Nat) (u:U) (s:ah) (G:List (List A)) (B:List (Int × Bool)) (R:List an):List an :=
 .box b 68 (wW u s) ::
 .row u.vG 47 25 G ::
 .row u.vR 106 1 ((List.range s.au.length).map fun i=>[.v (u.rs i)]) ::
 .row u.vC 4 1 (s.au.map fun c=>[bI c.closed]) ::
 .row u.vS 52 7 (s.aB.map eS) ::
 .row u.vM 54 13 (s.done.map eM) ::
 .box u.bD 130 [dW s,nI s.drawn] ::
 aO (tB u.pB B) u.TB ::
 aO (tL u.pL (s.au.map (·.lock))) u.TL ::
 aO (tQ u.pQ s.aB.length (qW s)) u.TQ ::
 aO (tP u.pP s.dh.toNat s.bP.toNat (ez u s)) u.TP ::
 aO (tR (kW u s)) u.TR :: R
theorem Ft {b:Nat} {u:U} {s:ah} {g:Nat} (x:Gr) {G:List (List A)} (hg:g < s.gs.length) (hG:G=(fI u s).set g (gW x (u.sg g) (u.wk g))) (e:x.status=(aa s g).status∧x.token=(aa s g).token:=by exact ⟨rfl,rfl⟩) (e1:x.ax=(aa s g).ax:=by rfl) (e2:x.ak=(aa s g).ak:=by rfl) :
  wd b u (ai s g x)=wl b u s G (s.gs.map fun x=>(x.status,x.token)) (iE u s):=by
 have h1:=Kz (u:=u) (x:=x) hg;have h2:=KC hg e;have h3:=KD (u:=u) hg e1 e2
 show wl b u s (fI u (ai s g x)) ((ai s g x).gs.map fun x=>(x.status,x.token)) (iE u (ai s g x))=_;rw [h2,h3,← h1,hG]
theorem zm (b:Nat) (u:U) (s:ah) (ch:Int) :
  av prog 120 [.c (.v (pt b)),.c (nI ch)] (wd b u s) (fun _:Unit=>(.c (bI (aL s ch)),wd b u s)):=by
 refine av.intro func120 rfl rfl rfl (fun ok e=>?_);have hl:((List.range s.au.length).map fun i=>[A.v (u.rs i)]).length=s.au.length:=by simp
 cases h1:(decide (ch ≥ 1)) with
 | true =>
  have h2:(decide (ch≤(s.au.length:Int)))=aL s ch:=by unfold aL;simp at h1;simp [h1]
  repeat (first | (refine K.bi ?_;refine jq rfl rfl rfl (Qt.BP 2 rfl rfl hl) ?_) | refine gn ?_)
  (exact J.gF func120 rfl (.cons (.tmp rfl) .nil) () (by exact .refl) rfl)
 | false =>
  repeat (refine gn ?_)
  have e1:aL s ch=false:=by unfold aL;simp at h1 ⊢;omega
  rw [e1]
  (exact J.gF func120 rfl (.cons (.tmp rfl) .nil) () (by exact .refl) rfl)
theorem oH (l:List Int):(dO l).length=l.length:=by simp [dO]
theorem KF (b:Nat) (u:U) (s:ah) (g:Nat) (hg:g < s.gs.length) :
  av prog 118 [.c (.v (pt b)),.c (nI g)] (wd b u s) (fun _:Unit=>(.aZ [],wd b u (Sx.ak s g))):=by
 refine av.intro func118 rfl rfl rfl (fun ok e=>?_);have OW:∀ x:Int,x=g→0≤x∧x < (fI u s).length:=fun x hx=>by rw [wS];omega
 repeat (first | (refine K.load ?_;((refine jq rfl rfl rfl (Qt.bM rfl ((wT hg)) (by exact rfl)) ?_))) | (refine K.indexAddr ?_;refine jq rfl rfl rfl (Qt.aV rfl rfl (OW _ rfl).1 (OW _ rfl).2) ?_) | (refine K.bi ?_;refine jq rfl rfl rfl (Qt.BP (s.gs.length + g + 12) rfl (zl hg) (oH _)) ?_) | refine gn ?_)
 refine J.cond rfl (fun h=>?_) (fun h=>?_)
 ·have h3:Sx.ak s g=Sx.aG s g 17:=by unfold Sx.ak;rw [if_pos (by simpa using h)]
  rw [h3]
  repeat (first | (refine K.store ?_;refine JO.ld (Ld.bQ rfl rfl (by exact rfl) ((wT hg))) rfl (fun _=>?_)) | (refine K.indexAddr ?_;refine jq rfl rfl rfl (Qt.aV rfl rfl (OW _ rfl).1 (OW _ rfl).2) ?_) | refine gn ?_)
  refine J.fQ (Ft { aa s g with place:=17 } hg rfl) ?_
  (exact J.ij func118 rfl .nil () (by exact .refl) rfl)
 ·have h3:Sx.ak s g=Sx.aG s g 18:=by unfold Sx.ak;rw [if_neg (by simpa using h)]
  rw [h3]
  repeat (first | (refine K.store ?_;refine JO.ld (Ld.bQ rfl rfl (by exact rfl) ((wT hg))) rfl (fun _=>?_)) | (refine K.indexAddr ?_;refine jq rfl rfl rfl (Qt.aV rfl rfl (OW _ rfl).1 (OW _ rfl).2) ?_) | refine gn ?_)
  refine J.fQ (Ft { aa s g with place:=18 } hg rfl) ?_
  (exact J.ij func118 rfl .nil () (by exact .refl) rfl)
end Fl
open Go.RowKit
namespace Fl
open Sx Go.Proofs.Tryz
set_option maxRecDepth 100000
end Fl
open Go.RowKit
namespace Fl
open Sx Go.Proofs.Tryz
set_option maxRecDepth 100000
theorem TK (l:List Int) (hl:l.length≤100000) :
  av prog 46 [.c (nG l)] [] (fun b:Nat=>(.c (.v (pt b)),[.box b 130 [nG l,nI 0]])):=by
 refine av.intro func46 rfl rfl rfl (fun ok e=>?_)
 repeat (first | (refine K.bi ?_;refine JO.ld (Ld.copy (qb rfl) rfl rfl ((by simp))) rfl (fun _=>?_)) | (refine K.make ?_;refine JO.ld (Ld.make (l.length) (qb rfl) rfl rfl (by (rfl)) (by omega)) rfl (fun _=>?_)) | refine ay ?_ | intro _)
 refine J.IZ 3 12 0 rfl rfl rfl ?_
 (exact J.gF func46 rfl (.cons (.tmp rfl) .nil) _ (by exact .refl) rfl)
theorem TM (b:Nat) (l:List Int) (a:Int) :
  av prog 55 [.c (.v (pt b))] [.box b 130 [nG l,nI a]] (fun _:Unit=>(.c (nI a),[.box b 130 [nG l,nI a]])):=by
 refine av.intro func55 rfl rfl rfl (fun ok e=>?_)
 repeat (refine gn ?_)
 (exact J.gF func55 rfl (.cons (.tmp rfl) .nil) () (by exact .refl) rfl)
theorem KG (b:Nat) (l:List Int) (a:Int) (h0:0≤a) (h1:a≤l.length) (h2:l.length≤100000) :
  av prog 105 [.c (.v (pt b))] [.box b 130 [nG l,nI a]] (fun _:Unit=>(.c (nI (l.length - a)),[.box b 130 [nG l,nI a]])):=by
 refine av.intro func105 rfl rfl rfl (fun ok e=>?_);have w1:IntKind.i64.wrap ((l.length:Int) - a)=l.length - a:=eK (by omega) (by omega)
 repeat (refine gn ?_)
 refine J.draw (by kernel_rfl) rfl ?_;refine JW.base none ?_;refine tk 0 ?_;refine tk 1 ?_;refine tk 2 ?_;refine tk 3 ?_;refine tk 4 ?_;refine tk 5 ?_;refine tk 6 ?_;refine tk 7 ?_;refine tk 8 ?_;refine JD.take 9 rfl rfl (by kernel_rfl) rfl (qb rfl) (Qt.cI rfl rfl rfl w1) rfl ?_;refine tk 10 ?_;refine bX ?_
 repeat (fail)
 (exact J.gF func105 rfl (.cons (.tmp rfl) .nil) () (by exact .refl) rfl)
theorem TN (b:Nat) (l:List Int) (n:Int) (h0:0≤n) (h1:n≤l.length) (h2:l.length≤100000) :
  av prog 49 [.c (.v (pt b)),.c (nI n)] [.box b 130 [nG l,nI 0]] (fun _:Unit=>(.aZ [],[.box b 130 [nG l,nI n]])):=by
 refine av.intro func49 rfl rfl rfl (fun ok e=>?_);have c1:(decide (n < 0))=false:=decide_eq_false (by omega);have m1:(if (l.length:Int) - 0 < n then (l.length:Int) - 0 else n)=n:=by rw [if_neg (by omega)]
 have w1:IntKind.i64.wrap (0 + n)=n:=by rw [eK (by omega) (by omega),Int.zero_add]
 repeat (refine gn ?_)
 refine J.draw (by kernel_rfl) rfl ?_;refine JW.iU [0] (some 11) ?_;refine tk 0 ?_;refine tk 1 ?_;refine tk 2 ?_;refine tk 4 ?_;refine tk 5 ?_;refine JD.dA (i:=3) (j:=6) (by kernel_rfl) ?_ ?_
 (refine JS.q rfl rfl rfl (qb rfl) (Qt.lf rfl (by exact rfl)) ?_)
 refine jl 6 rfl rfl rfl rfl (Ld.eN (KG b l 0 (by omega) (by omega) h2) (qb rfl) rfl (.cons .refl .nil)) (.nu rfl) (fun _=>?_);refine jk 7 rfl rfl rfl rfl (Qt.min rfl rfl m1) ?_;refine jk 8 rfl rfl rfl rfl (Qt.cI rfl rfl rfl w1) ?_;refine jk 9 rfl rfl rfl rfl (Qt.nilCheck rfl rfl) ?_;refine jk 10 rfl rfl rfl rfl (Qt.fieldAddr rfl rfl) ?_;refine jt 11 rfl rfl (Ld.di rfl rfl (by exact rfl)) (fun _=>?_);refine cu ?_
 rotate_left
 refine JS.cK rfl rfl rfl (qb rfl) (Ld.eN (KG b l 0 (by omega) (by omega) h2) (qb rfl) rfl (.cons .refl .nil)) (.nu rfl) (fun _=>?_);refine JD.nA ?_;refine JD.take 7 rfl rfl (by kernel_rfl) rfl (qb rfl) (Qt.min rfl rfl m1) rfl ?_;refine jk 3 rfl rfl rfl rfl (Qt.lf rfl (by exact rfl)) ?_;refine jk 8 rfl rfl rfl rfl (Qt.cI rfl rfl rfl w1) ?_;refine jk 9 rfl rfl rfl rfl (Qt.nilCheck rfl rfl) ?_;refine jk 10 rfl rfl rfl rfl (Qt.fieldAddr rfl rfl) ?_;refine jt 11 rfl rfl (Ld.di rfl rfl (by exact rfl)) (fun _=>?_);refine cu ?_
 rotate_left
 all_goals
  repeat (fail)
  (exact J.ij func49 rfl .nil () (by exact .refl) rfl)
end Fl
open Go.RowKit
namespace Fl
open Sx Go.Proofs.Tryz
set_option maxRecDepth 100000
def sk (p:List (List Pn.Op)):A:=.r 1 (p.map fun ops=>[.r 6 (ops.map eL)])
theorem KH (p:List (List Pn.Op)) (h1:p.length≤1000) (h2:∀ ops∈p,ops.length≤100000∧∀ o∈ops,o.cases.length≤1000) :
  Pure prog 102 [.c (sk p)] (.c (sk p)):=by
 refine av.intro func102 rfl rfl rfl (fun ok e=>?_)
 repeat (first | (refine K.make ?_;refine JO.ld (Ld.QE (p.length) (qb rfl) rfl rfl (by (rfl)) (by omega)) rfl (fun _=>?_)) | refine gn ?_)
 refine J.loop (ι:={ q:Nat × Value // q.1≤p.length }) (fun q=>[(12,.c (sk p)),(13,.c (nI p.length)),(14,.c (nI q.1.1)),(3,.c (.v q.1.2))]) (fun q=>[.row q.1.2 43 1 ((p.take q.1.1).map fun ops=>[.r 6 (ops.map eL)])]) (fun q=>p.length - q.1.1) ⟨(0,_),Nat.zero_le _⟩ (fun X h=>h.bO ⟨rfl,rfl,rfl,rfl,trivial⟩) (fun q ih=>?_);obtain ⟨⟨k,v⟩,hk⟩:=q;simp only at hk ih ⊢
 by_cases bZ:k < p.length
 ·have t1:(decide ((k:Int) < (p.length:Int)))=true:=by simpa using bZ
  obtain ⟨ops,ho⟩:∃ ops,p[k]?=some ops:=⟨_,List.getElem?_eq_getElem bZ⟩
  have J1:(p.map fun ops=>[A.r 6 (ops.map eL)])[((k:Int)).toNat]?=some [A.r 6 (ops.map eL)]:=by rw [Int.toNat_natCast,List.getElem?_map,ho];rfl
  obtain ⟨m1,m2⟩:=h2 ops (List.mem_of_getElem? ho)
  repeat (refine gn ?_)
  refine J.oG 50 6 ?_;refine J.loop (ι:={ q:Nat × Value // q.1≤ops.length }) (fun q=>[(18,.c (.r 6 (ops.map eL))),(19,.c (nI ops.length)),(20,.c (nI q.1.1)),(6,.c (.v q.1.2)),(12,.c (sk p)),(13,.c (nI p.length)),(14,.c (nI k)),(3,.c (.v v))]) (fun q=>[.row q.1.2 50 6 ((ops.take q.1.1).map eL),.row v 43 1 ((p.take k).map fun ops=>[.r 6 (ops.map eL)])]) (fun q=>ops.length - q.1.1) ⟨(0,.slice none 0 0),Nat.zero_le _⟩ (fun X h=>h.bO ⟨rfl,rfl,rfl,rfl,rfl,rfl,rfl,rfl,trivial⟩) (fun q kj=>?_);obtain ⟨⟨j,u⟩,hj⟩:=q;simp only at hj kj ⊢
  by_cases eP:j < ops.length
  ·have t2:(decide ((j:Int) < (ops.length:Int)))=true:=by simpa using eP
   obtain ⟨o,zn⟩:∃ o,ops[j]?=some o:=⟨_,List.getElem?_eq_getElem eP⟩
   have J2:(ops.map eL)[((j:Int)).toNat]?=some (eL o):=by rw [Int.toNat_natCast,List.getElem?_map,zn];rfl
   have m3:=m2 o (List.mem_of_getElem? zn)
   repeat (first | (refine K.bi ?_;first | refine JO.ld (Ld.iV (qb rfl) rfl rfl .read (by (simp;omega))) rfl (fun _=>?_) | ((refine JO.ld (Ld.cB (qb rfl) rfl rfl .de (by (simp;omega))) rfl (fun _=>?_)))) | refine ay ?_ | intro _)
   refine J.dF 1 ?_;refine J.dF 1 ?_;refine J.fQ ?_ ((kj ⟨(j + 1,_),by simp only;omega⟩ (by simp only;omega)).bO ⟨rfl,rfl,rfl,rfl,rfl,rfl,rfl,rfl,trivial⟩);rw [List.take_add_one,zn,List.map_append];rfl
  ·have t2:(decide ((j:Int) < (ops.length:Int)))=false:=by simpa using eP
   obtain rfl:j=ops.length:=by omega
   refine J.j9 6 rfl ?_
   repeat (first | (refine K.bi ?_;refine JO.ld (Ld.cB (qb rfl) rfl rfl .de (by (simp;omega))) rfl (fun _=>?_)) | refine ay ?_ | intro _)
   refine J.dF 1 ?_;refine J.fQ ?_ ((ih ⟨(k + 1,_),by simp only;omega⟩ (by simp only;omega)).bO ⟨rfl,rfl,rfl,rfl,trivial⟩);rw [List.take_add_one,ho,List.map_append,List.take_of_length_le (Nat.le_refl _)];rfl
 ·have t1:(decide ((k:Int) < (p.length:Int)))=false:=by simpa using bZ
  obtain rfl:k=p.length:=by omega
  rw [List.take_of_length_le (Nat.le_refl _)]
  repeat (refine gn ?_)
  refine J.j9 2 rfl ?_;exact aC func102
theorem TO (L:List an) (x:Gr) (v w:Value) {i j:Nat} (hi:L[i]?=some (.row v 3 1 (dO x.ax))) (hj:L[j]?=some (.row w 3 1 (dO x.ak)))
  (b1:x.ops.length≤100000) (b2:∀ o∈x.ops,o.cases.length≤1000) (b3:x.order.length≤1000) (b4:x.aF.length≤1000) (b5:x.ax.length≤1000) (b6:x.ak.length≤1000) :
  av prog 51 [.agg (gW x v w)] L (fun _:Unit=>(.agg (eG { x with status:=0,token:=false }),L)):=by
 have C1:=KH [x.ops] (by simp) (by intro ops ho;obtain rfl:=List.mem_singleton.1 ho;exact ⟨b1,b2⟩);haveI p9:gU L v 3 1 (dO x.ax) i:=⟨hi⟩
 haveI mE:gU L w 3 1 (dO x.ak) j:=⟨hj⟩
 refine av.intro func51 rfl rfl rfl (fun ok e=>?_);have l5:(dO x.ax).length=x.ax.length:=oH _;have l6:(dO x.ak).length=x.ak.length:=oH _
 repeat (first | (refine K.indexAddr ?_;refine jx rfl rfl rfl rfl (by omega) (rfl) ?_) | refine aR (C1) ?_ | (refine K.lit ?_;refine JO.ld (Ld.oW (qb rfl) rfl rfl rfl rfl rfl) rfl (fun _=>?_)) | (refine K.bi ?_;first | refine JO.ld (Ld.iV (qb rfl) rfl rfl .read (by (simp;omega))) rfl (fun _=>?_) | refine JO.ld (Ld.iV (qb rfl) rfl rfl .de (by (omega))) rfl (fun _=>?_)) | refine ay ?_ | intro _)
 (exact J.jR [_,_] rfl func51 rfl (.cons (.cell 0 rfl rfl rfl) .nil) () la rfl)
end Fl
open Go.RowKit
namespace Fl
open Sx Go.Proofs.Tryz
set_option maxRecDepth 100000
structure Fw (s:ah):Prop where
 gs:s.gs.length≤8
 ch:s.au.length≤8
 su:s.aB.length≤64
 dn:s.done.length≤100000
 dr:s.dG.length≤100000
 cl:s.cache.length=s.gs.length
 cb:∀ l∈s.cache,l.length≤1000
 mb:s.middle.length≤1000
 fr:0≤s.fresh
 cp:∀ c∈s.au,0≤c.cap
 op:∀ x∈s.gs,x.ops.length≤100000∧∀ o∈x.ops,o.cases.length≤1000
 KI:∀ x∈s.gs,x.order.length≤1000∧x.aF.length≤1000∧x.ax.length≤1000∧x.ak.length≤1000
theorem KJ (ch:Int) (h0:0≤ch) (h1:ch≤100000):Pure prog 63 [.c (nI ch)] (.c (nI (2 * ch - 2))):=by
 refine av.intro func63 rfl rfl rfl (fun ok e=>?_)
 repeat (refine gn ?_)
 exact aC func63
theorem KK (ch:Int) (h0:0≤ch) (h1:ch≤100000):Pure prog 64 [.c (nI ch)] (.c (nI (2 * ch - 1))):=by
 refine av.intro func64 rfl rfl rfl (fun ok e=>?_)
 repeat (refine gn ?_)
 exact aC func64
theorem Fu {s:ah} {k:Nat} (hk:k < s.gs.length):Bc.status (s.gs.map fun x=>(x.status,x.token)) (k:Int)=(aa s k).status:=by
 have h:(aa s k)=s.gs[k]:=by unfold aa;rw [List.getD_eq_getElem?_getD,List.getElem?_eq_getElem hk];rfl
 unfold Bc.status Bc.has Bc.mem;simp [hk,h]
theorem TS {s:ah} {k:Nat} (hk:k < s.gs.length):Bc.token (s.gs.map fun x=>(x.status,x.token)) (k:Int)=(aa s k).token:=by
 have h:(aa s k)=s.gs[k]:=by unfold aa;rw [List.getD_eq_getElem?_getD,List.getElem?_eq_getElem hk];rfl
 unfold Bc.token Bc.has Bc.mem;simp [hk,h]
theorem lH {s:ah} {k:Nat} (hk:k < s.au.length):s.au[k]?=some (cn s ((k:Int) + 1)):=by
 unfold cn;rw [show ((k:Int) + 1 - 1).toNat=k by omega,List.getD_eq_getElem?_getD,List.getElem?_eq_getElem hk];rfl
theorem TT {s:ah} {k:Nat} (hk:k < s.au.length):Lt.owner (s.au.map (·.lock)) (k:Int)=(cn s ((k:Int) + 1)).lock:=by
 have h:=lH hk;unfold Lt.owner Lt.has;rw [List.getElem?_eq_getElem hk] at h;simp at h;simp [hk,h]
theorem vl {u:U} {s:ah} {k:Nat} (hk:k < s.au.length):(kW u s)[k]?=some (u.rs k,(cn s ((k:Int) + 1)).cap.toNat,(cn s ((k:Int) + 1)).buf):=by
 unfold kW;rw [List.getElem?_map,List.getElem?_range hk];rfl
theorem Fv {s:ah} {k:Nat} (hk:k < 8):Qu.row (qW s) (2 * ((k:Int) + 1) - 2)=(cn s ((k:Int) + 1)).recv:=by
 have e:2 * ((k:Int) + 1) - 2=((2 * k:Nat):Int):=by omega
 have l:(qW s).length=16:=by simp [qW]
 unfold Qu.row Qu.line;rw [e,l,if_pos (by simp;omega),Int.toNat_natCast];unfold qW;rw [List.getD_eq_getElem?_getD,List.getElem?_map,List.getElem?_range (by omega)];simp
theorem BQ {s:ah} {k:Nat} (hk:k < 8):Qu.row (qW s) (2 * ((k:Int) + 1) - 1)=(cn s ((k:Int) + 1)).send:=by
 have e:2 * ((k:Int) + 1) - 1=((2 * k + 1:Nat):Int):=by omega
 have l:(qW s).length=16:=by simp [qW]
 unfold Qu.row Qu.line;rw [e,l,if_pos (by simp;omega),Int.toNat_natCast];unfold qW;rw [List.getD_eq_getElem?_getD,List.getElem?_map,List.getElem?_range (by omega)];have h1:(2 * (k:Int) + 1) / 2=k:=by omega
 simp [h1]
theorem TU {s:ah} {k:Nat} (hk:k < s.cache.length):s.cache[k]?=some (Po.cache s.cache (k:Int)):=by
 unfold Po.cache Po.kF;simp [hk]
def Fx (s:ah) (g c k:A):List A:=[nI s.dh,nI s.bP,nI s.step,g,c,.r 7 (s.aB.map eS),k,ints s.middle,nI s.fresh,nG s.dG,nI s.drawn,.r 13 (s.done.map eM)]
end Fl
end Go.Proofs.YtdjhhbpedllnhaaGreat
