/-
  What the laws need, part A10.
  Conditions: none.
-/
import Derived.Test.YtofnbflkhgammaaGreatA9
set_option linter.unusedVariables false
set_option linter.unusedSimpArgs false
set_option linter.unnecessarySimpa false
set_option maxHeartbeats 2000000
namespace Go.Proofs.YtofnbflkhgammaaGreat
open Go.RowKit
namespace Fl
open Sx
theorem set_perm {r r':ai}:∀ {L:List ai} {j:Nat},L[j]?=some r→(L.set j r').Perm (r' :: L.eraseIdx j)
 | [],j,h=>by simp at h
 | q :: L,0,h=>by simp
 | q :: L,j + 1,h=>by
  simp at h;simp only [List.set_cons_succ,List.eraseIdx_cons_succ];exact ((set_perm h).cons q).trans (List.Perm.swap r' q _)
section
variable {P:Program} {c:Cx} {k:List Item} {f:Fm} {L:List ai} {ops:Array Oper} {l:List Oper} {o:Oper} {T:TypeId} {ps:String} {af:Array Edge} {gd:Option (Nat × Bool)} {t:Nat}
theorem Ld.R3 (j:Nat) {F:FuncId} {args:List Operand} {tys:Array TypeId} {cZ ds:List D} {r:ai} {ι:Type} {dd:ι→D} {r':ι→ai} {L':ι→List ai} [i:aG P F] (hC:aq P F ds [r] (fun x=>(dd x,[r' x]))) (hj:L[j]?=some r) (ht:t < c.N) (h:iq f args=some cZ) (hle:aL cZ ds) (hL:∀ x,L.set j (r' x)=L' x) :
  Ld P c ⟨some t,.call ⟨.value (.func F),args.toArray,tys⟩,T,ps,af,gd⟩ f L r.bM (fun x=>(t,dd x) :: f) L':=⟨fun a w s K Q hK=>by
 have hp:=rV L j hj;have h1:=Ld.call (P:=P) (c:=c) (T:=T) (ps:=ps) (af:=af) (gd:=gd) (L:=r :: L.eraseIdx j) (f:=f) (tys:=tys) hC ht h hle (Ll:=[r]) (Lr:=L.eraseIdx j) rfl;refine h1.go a w (s.perm hp) K Q fun x v w' kp sx hf=>?_
 have hq:=set_perm (r':=r' x) hj;rw [hL] at hq;refine hK x v w' (by simpa [aO] using kp) (sx.perm hq) fun y hy=>?_
 rcases hf y ((qL hq y).1 hy) with h | h
 ·exact .inl ((qL hp y).1 h)
 ·exact .inr h⟩
end
class ur (L:List ai) (r:ai) (j:outParam Nat):Prop where h:L[j]?=some r
instance ur.succ {q r:ai} {M:List ai} {j:Nat} [h:ur M r j]:ur (q :: M) r (j + 1):=⟨by simpa using h.h⟩
instance ur.zero {r:ai} {M:List ai}:ur (r :: M) r 0:=⟨rfl⟩
section
variable {P:Program} {c:Cx} {k:List Item} {f:Fm} {L:List ai} {ops:Array Oper} {l:List Oper} {o:Oper} {T:TypeId} {ps:String} {af:Array Edge} {gd:Option (Nat × Bool)} {t:Nat}
theorem Ld.ep {F:FuncId} {args:List Operand} {tys:Array TypeId} {cZ ds:List D} {r:ai} {j:Nat} {ι:Type} {dd:ι→D} {r':ι→ai} {L':ι→List ai} [i:aG P F] (hC:aq P F ds [r] (fun x=>(dd x,[r' x]))) [hj:ur L r j] [hL:∀ x,kW L j (r' x) (L' x)] (ht:t < c.N) (h:iq f args=some cZ) (hle:aL cZ ds) :
  Ld P c ⟨some t,.call ⟨.value (.func F),args.toArray,tys⟩,T,ps,af,gd⟩ f L r.bM (fun x=>(t,dd x) :: f) L':=Ld.R3 j hC hj.h ht h hle fun x=>(hL x).h
theorem Ld.AO {F:FuncId} {args:List Operand} {tys:Array TypeId} {cZ ds:List D} {ι:Type} {dd:ι→D} {L':ι→List ai} [i:aG P F] (hC:aq P F ds L (fun x=>(dd x,L' x))) (ht:t < c.N) (h:iq f args=some cZ) (hle:aL cZ ds) :
  Ld P c ⟨some t,.call ⟨.value (.func F),args.toArray,tys⟩,T,ps,af,gd⟩ f L (aO L) (fun x=>(t,dd x) :: f) L':=⟨fun a w s K Q hK =>
 (Ld.call (P:=P) (c:=c) (T:=T) (ps:=ps) (af:=af) (gd:=gd) (tys:=tys) hC ht h hle (Ll:=L) (Lr:=[]) (by simp)).go a w s K Q fun x v w' kp sx hf=>hK x v w' kp (by simpa using sx) (by simpa using hf)⟩
end
section
variable {P:Program} {F:FuncId} {ok:Nat→Prop} {e:World} {L0 L:List ai} {ι:Type} {post:ι→D × List ai} {fn:Func} {N:Nat} {f:Fm} {k:List Item}
theorem Er (L:List ai):(List.range L.length).map (fun i=>L[i]?)=L.map some:=by
 apply List.ext_getElem?;intro i;rw [List.getElem?_map,List.getElem?_map]
 by_cases h:i < L.length
 ·rw [List.getElem?_range h,List.getElem?_eq_getElem h];simp [List.getElem?_eq_getElem h]
 ·rw [List.getElem?_eq_none (by simpa using h),List.getElem?_eq_none (by omega)];rfl
theorem J.kJ (hf:P.funcs[F]?=some fn) {rs:List ResultVar} {ds:List D} (iQ:fn.results=rs.toArray) (h:ij P f L rs ds) {d:D} (i:ι) (hle:cQ (qE ds) d) (hp:post i=(d,L)):J P (cx F ok e L0 post N) (.code .ret :: k) f L :=
 J.ret hf iQ h i hle (List.range L.length) List.nodup_range (Er L) hp
theorem J.jI (hf:P.funcs[F]?=some fn) {rs:List ResultVar} {ds:List D} (iQ:fn.results=rs.toArray) (h:ij P f L rs ds) {d:D} (i:ι) (hle:cQ (qE ds) d) (hp:post i=(d,L)):J P (cx F ok e L0 post N) [] f L :=
 J.fin hf iQ h i hle (List.range L.length) List.nodup_range (Er L) hp
theorem R4 (E L:List ai):((List.range L.length).map (· + E.length)).map (fun i=>(E ++ L)[i]?)=L.map some:=by
 rw [List.map_map,← Er L];refine List.map_congr_left fun i _=>?_
 simp only [Function.comp];rw [List.getElem?_append_right (by omega)]
 congr 1;omega
theorem J.nQ (E:List ai) {L':List ai} (hL:L=E ++ L') (hf:P.funcs[F]?=some fn) {rs:List ResultVar} {ds:List D} (iQ:fn.results=rs.toArray) (h:ij P f L rs ds) {d:D} (i:ι) (hle:cQ (qE ds) d) (hp:post i=(d,L')):J P (cx F ok e L0 post N) (.code .ret :: k) f L:=by
 subst hL;exact J.ret hf iQ h i hle ((List.range L'.length).map (· + E.length)) (List.pairwise_map.2 (List.nodup_range.imp (fun h e=>h (by omega)))) (R4 E L') hp
end
structure oK (Φ:World→List Nat→Prop):Prop where
 aT:∀ {w w':World} {S T:List Nat},Φ w S→aj T w w'→(∀ x∈S,x∉T)→Φ w' S
 lt:∀ {w:World} {S:List Nat},Φ w S→∀ x∈S,x < w.heap.size
def aI (Φ:World→List Nat→Prop) (S:List Nat):ai:=.obj S (fun w=>Φ w S)
theorem aI.holds {Φ:World→List Nat→Prop} (h:oK Φ) {ok:Nat→Prop} {w:World} {S:List Nat}:(aI Φ S).holds ok w↔Φ w S:=by
 constructor
 ·rintro ⟨h1,h2⟩;exact h2 w [] (aj.refl _ _) (by simp)
 ·intro h1;exact ⟨h.lt h1,fun w' S' k hn=>h.aT h1 k hn⟩
section
variable {P:Program} {F:FuncId} {ds:List D}
theorem aq.aI {Φ:World→List Nat→Prop} {S:List Nat} {ι:Type} {Ψ:ι→World→List Nat→Prop} {S':ι→List Nat} {d:ι→D} (ye:oK Φ) (Es:∀ i,oK (Ψ i))
  (h:∀ ok e xs,bL ok e ds xs→Φ e S→Calls P F xs.toArray e fun en w'=>∃ i x,en=.returned x∧aj S e w'∧(∀ y∈S' i,y∈S∨e.heap.size≤y)∧Ψ i w' (S' i)∧RD (fun g=>(ok g∨g∈S∨e.heap.size≤g)∧g∉S' i) w' (d i) x) :
  aq P F ds [Fl.aI Φ S] (fun i=>(d i,[Fl.aI (Ψ i) (S' i)])):=⟨fun ok e xs hd hr _ _=>by
 have h1:=(aI.holds ye).1 (hr _ (List.mem_singleton.2 rfl));refine Calls.mono (h ok e xs hd h1) ?_
 rintro en w' ⟨i,x,rfl,kp,hs,hp,hx⟩
 have fe:∀ (Φ:World→List Nat→Prop) (S:List Nat),aO [Fl.aI Φ S]=S:=fun Φ S=>by simp [aO,Fl.aI,ai.bM]
 refine ⟨i,x,rfl,by rw [fe];exact kp,by rw [fe,fe];exact hs,List.pairwise_singleton _ _,fun r hr=>?_,?_⟩
 ·rw [List.mem_singleton.1 hr];exact (aI.holds (Es i)).2 hp
 ·have:lO ok e [Fl.aI Φ S] [Fl.aI (Ψ i) (S' i)]=fun g=>(ok g∨g∈S∨e.heap.size≤g)∧g∉S' i:=by
   funext g;unfold lO;rw [fe,fe]
  rw [this];exact hx⟩
theorem aq.kn {Φ Ψ:World→List Nat→Prop} {S:List Nat} {d:D} (ye:oK Φ) (Es:oK Ψ)
  (h:∀ ok e xs,bL ok e ds xs→Φ e S→Calls P F xs.toArray e fun en w'=>∃ x,en=.returned x∧aj S e w'∧Ψ w' S∧RD (fun g=>(ok g∨g∈S∨e.heap.size≤g)∧g∉S) w' d x) :
  aq P F ds [Fl.aI Φ S] (fun _:Unit=>(d,[Fl.aI Ψ S])) :=
 aq.aI (ι:=Unit) (Ψ:=fun _=>Ψ) (S':=fun _=>S) (d:=fun _=>d) ye (fun _=>Es) fun ok e xs hd hp=>by
  refine Calls.mono (h ok e xs hd hp) ?_
  rintro en w' ⟨x,h1,h2,h3,h4⟩
  exact ⟨(),x,h1,h2,fun y hy=>.inl hy,h3,h4⟩
theorem aq.plain {d:D} (h:∀ ok e xs,bL ok e ds xs→Calls P F xs.toArray e fun en w'=>∃ x,en=.returned x∧aj [] e w'∧RD (fun g=>ok g∨e.heap.size≤g) w' d x):Pure P F ds d:=⟨fun ok e xs hd _ _ _=>by
 refine Calls.mono (h ok e xs hd) ?_
 rintro en w' ⟨x,rfl,kp,hx⟩
 refine ⟨(),x,rfl,by simpa [aO] using kp,by simp [aO],List.Pairwise.nil,by simp,?_⟩;have:lO ok e [] []=fun g=>ok g∨e.heap.size≤g:=by
  funext g;unfold lO;simp [aO]
 rw [this];exact hx⟩
end
theorem bL.v1 {ok:Nat→Prop} {w:World} {v:Value} {xs:List Value} (h:bL ok w [.c (.v v)] xs):xs=[v]:=by
 unfold bL at h;obtain ⟨x,ys,rfl,h1,h2⟩:=h;unfold bL at h2;unfold RD RA at h1;rw [h2,h1.1]
theorem bL.cv {ok:Nat→Prop} {w:World} {v:Value} {ds:List D} {xs:List Value} (h:bL ok w (.c (.v v) :: ds) xs):∃ ys,xs=v :: ys∧bL ok w ds ys:=by
 unfold bL at h;obtain ⟨x,ys,rfl,h1,h2⟩:=h;unfold RD RA at h1;exact ⟨ys,by rw [h1.1],h2⟩
theorem bL.v2 {ok:Nat→Prop} {w:World} {u v:Value} {xs:List Value} (h:bL ok w [.c (.v u),.c (.v v)] xs):xs=[u,v]:=by
 obtain ⟨ys,e1,h1⟩:=h.cv;rw [e1,h1.v1]
theorem bL.v3 {ok:Nat→Prop} {w:World} {t u v:Value} {xs:List Value} (h:bL ok w [.c (.v t),.c (.v u),.c (.v v)] xs):xs=[t,u,v]:=by
 obtain ⟨ys,e1,h1⟩:=h.cv;rw [e1,h1.v2]
theorem bL.v4 {ok:Nat→Prop} {w:World} {s t u v:Value} {xs:List Value} (h:bL ok w [.c (.v s),.c (.v t),.c (.v u),.c (.v v)] xs):xs=[s,t,u,v]:=by
 obtain ⟨ys,e1,h1⟩:=h.cv;rw [e1,h1.v3]
theorem bL.Et {ok:Nat→Prop} {w:World} {xs:List Value} (h:bL ok w [] xs):xs=[]:=by unfold bL at h;exact h
theorem RD.v {ok:Nat→Prop} {w:World} {v:Value} (h:v.oneCell'=true):RD ok w (.c (.v v)) v:=by unfold RD RA;exact ⟨rfl,h⟩
theorem RD.yf {ok:Nat→Prop} {w:World} {v u:Value} (h:v.oneCell'=true) (k:u.oneCell'=true):RD ok w (.aV [.c (.v v),.c (.v u)]) (.tuple #[v,u]):=by unfold RD;exact ⟨[v,u],rfl,bL.cons (RD.v h) (bL.cons (RD.v k) bL.nil)⟩
theorem RX.ints {ok:Nat→Prop} {w:World}:∀ (l:List Int),RX ok w 1 (l.map fun n=>[A.v (.int .i64 n)]) (l.map (Value.int .i64))
 | []=>rfl
 | n :: l=>⟨[.int .i64 n],l.map (Value.int .i64),rfl,rfl,RC.cons (by unfold RA;exact ⟨rfl,rfl⟩) RC.nil,RX.ints l⟩
theorem RA.ints {ok:Nat→Prop} {w:World} {v:Value} {l:List Int} {S:List Nat} (h:IV w v l S) (hs:∀ x∈S,ok x):RA ok w (.r 1 (l.map fun n=>[A.v (.int .i64 n)])) v :=
 RA.Ae (ys:=l.map (Value.int .i64)) (S:=S) (by rw [List.length_map];exact h) (RX.ints l) hs
theorem RX.Jq {ok:Nat→Prop} {w:World}:∀ {l:List Int} {xs:List Value},RX ok w 1 (l.map fun n=>[A.v (.int .i64 n)]) xs→xs=l.map (Value.int .i64)
 | [],xs,h=>h
 | n :: l,xs,h=>by
  obtain ⟨vs,ys,rfl,h2,h3,h4⟩:=h;have:=RX.Jq h4;unfold RC at h3;obtain ⟨x,zs,rfl,h5,h6⟩:=h3;unfold RC at h6;unfold RA at h5;rw [h6,h5.1,this];rfl
theorem IV.Eu {ok:Nat→Prop} {w:World} {v:Value} {l:List Int} (h:RA ok w (.r 1 (l.map fun n=>[A.v (.int .i64 n)])) v):∃ S,IV w v l S∧∀ x∈S,ok x:=by
 obtain ⟨ys,S,h1,h2,h3⟩:=h.view;refine ⟨S,?_,h3⟩;rw [RX.Jq h2,List.length_map] at h1;exact h1
end Fl
open Go.RowKit
namespace Fl
open Sx
def tB (p:Value) (l:List (Int × Bool)) (w:World) (S:List Nat):Prop:=Bn w p l S
theorem tB.ok {p:Value} {l:List (Int × Bool)}:oK (tB p l):=⟨fun h k hn=>h.aT k hn,fun h=>h.lt⟩
theorem R5 (p:Value) (l:List (Int × Bool)) (S:List Nat) (i:Int):aq Tryz.prog 63 [.c (.v p),.c (nI i)] [aI (tB p l) S] (fun _:Unit=>(.c (nI (Bc.status l i)),[aI (tB p l) S])) :=
 aq.kn tB.ok tB.ok fun ok e xs hd h=>by
  obtain rfl:=hd.v2;refine (sD e p l S i h).mono ?_
  rintro en w' ⟨rfl,rfl⟩
  exact ⟨_,rfl,aj.refl _ _,h,RD.v rfl⟩
theorem R8 (p:Value) (l:List (Int × Bool)) (S:List Nat) (i:Int):aq Tryz.prog 64 [.c (.v p),.c (nI i)] [aI (tB p l) S] (fun _:Unit=>(.c (bI (Bc.token l i)),[aI (tB p l) S])) :=
 aq.kn tB.ok tB.ok fun ok e xs hd h=>by
  obtain rfl:=hd.v2;refine (PG e p l S i h).mono ?_
  rintro en w' ⟨rfl,rfl⟩
  exact ⟨_,rfl,aj.refl _ _,h,RD.v rfl⟩
theorem R9 (p:Value) (l:List (Int × Bool)) (S:List Nat) (i:Int):aq Tryz.prog 80 [.c (.v p),.c (nI i)] [aI (tB p l) S] (fun _:Unit=>(.c (bI (Bc.qQ l i)),[aI (tB p (Bc.sB l i)) S])) :=
 aq.kn tB.ok tB.ok fun ok e xs hd h=>by
  obtain rfl:=hd.v2;refine (PI e p l S i h).mono ?_
  rintro en w' ⟨rfl,h1,h2⟩
  exact ⟨_,rfl,h2,h1,RD.v rfl⟩
theorem Sa (p:Value) (l:List (Int × Bool)) (S:List Nat) (i:Int):aq Tryz.prog 83 [.c (.v p),.c (nI i)] [aI (tB p l) S] (fun _:Unit=>(.c (bI (Bc.pO l i)),[aI (tB p (Bc.nB l i)) S])) :=
 aq.kn tB.ok tB.ok fun ok e xs hd h=>by
  obtain rfl:=hd.v2;refine (PJ e p l S i h).mono ?_
  rintro en w' ⟨rfl,h1,h2⟩
  exact ⟨_,rfl,h2,h1,RD.v rfl⟩
theorem Sb (p:Value) (l:List (Int × Bool)) (S:List Nat) (i s:Int) (t:Bool):aq Tryz.prog 57 [.c (.v p),.c (nI i),.c (nI s),.c (bI t)] [aI (tB p l) S] (fun _:Unit=>(.c (bI (Bc.j9 l i s)),[aI (tB p (Bc.kI l i s t)) S])) :=
 aq.kn tB.ok tB.ok fun ok e xs hd h=>by
  obtain rfl:=hd.v4;refine (PK e p l S i s t h).mono ?_
  rintro en w' ⟨rfl,h1,h2⟩
  exact ⟨_,rfl,h2,h1,RD.v rfl⟩
theorem Jr (n:Int):aq Tryz.prog 51 [.c (nI n)] [] (fun x:Value × List Nat=>(.c (.v x.1),[aI (tB x.1 (Bc.gR n)) x.2])):=⟨fun ok e xs hd _ _ _=>by
 obtain rfl:=hd.v1;refine (PN e n).mono ?_
 rintro en w' ⟨p,S,rfl,h1,h2,h3⟩
 refine ⟨(p,S),p,rfl,by simpa [aO] using h1,fun y hy=>.inr (h3 y (by simpa [aO,aI,ai.bM] using hy)),List.pairwise_singleton _ _,fun r hr=>?_,?_⟩
 ·rw [List.mem_singleton.1 hr];exact (aI.holds tB.ok).2 h2
 ·obtain ⟨b,rfl⟩:=h2.shape;exact RD.v rfl⟩
def tL (p:Value) (l:List Int) (w:World) (S:List Nat):Prop:=kF w p l S
theorem tL.ok {p:Value} {l:List Int}:oK (tL p l):=⟨fun h k hn=>h.aT k hn,fun h=>h.lt⟩
theorem Sc (p:Value) (l:List Int) (S:List Nat) (i:Int):aq Tryz.prog 68 [.c (.v p),.c (nI i)] [aI (tL p l) S] (fun _:Unit=>(.c (nI (Lt.owner l i)),[aI (tL p l) S])) :=
 aq.kn tL.ok tL.ok fun ok e xs hd h=>by
  obtain rfl:=hd.v2;refine (Pz e p l S i h).mono ?_
  rintro en w' ⟨rfl,rfl⟩
  exact ⟨_,rfl,aj.refl _ _,h,RD.v rfl⟩
theorem Js (p:Value) (l:List Int) (S:List Nat) (i g:Int):aq Tryz.prog 130 [.c (.v p),.c (nI i),.c (nI g)] [aI (tL p l) S] (fun _:Unit=>(.c (bI (Lt.kG l i g)),[aI (tL p (Lt.kH l i g)) S])) :=
 aq.kn tL.ok tL.ok fun ok e xs hd h=>by
  obtain rfl:=hd.v3;refine (PA e p l S i g h).mono ?_
  rintro en w' ⟨rfl,h1,h2⟩
  exact ⟨_,rfl,h2,h1,RD.v rfl⟩
theorem Se (p:Value) (l:List Int) (S:List Nat) (i g:Int):aq Tryz.prog 79 [.c (.v p),.c (nI i),.c (nI g)] [aI (tL p l) S] (fun _:Unit=>(.c (bI (Lt.mG l i g)),[aI (tL p (Lt.nA l i g)) S])) :=
 aq.kn tL.ok tL.ok fun ok e xs hd h=>by
  obtain rfl:=hd.v3;refine (PB e p l S i g h).mono ?_
  rintro en w' ⟨rfl,h1,h2⟩
  exact ⟨_,rfl,h2,h1,RD.v rfl⟩
theorem Jt (n:Int):aq Tryz.prog 52 [.c (nI n)] [] (fun x:Value × List Nat=>(.c (.v x.1),[aI (tL x.1 (Lt.gR n)) x.2])):=⟨fun ok e xs hd _ _ _=>by
 obtain rfl:=hd.v1;refine (PE e n).mono ?_
 rintro en w' ⟨p,S,rfl,h1,h2,h3⟩
 refine ⟨(p,S),p,rfl,by simpa [aO] using h1,fun y hy=>.inr (h3 y (by simpa [aO,aI,ai.bM] using hy)),List.pairwise_singleton _ _,fun r hr=>?_,?_⟩
 ·rw [List.mem_singleton.1 hr];exact (aI.holds tL.ok).2 h2
 ·obtain ⟨b,rfl⟩:=h2.shape;exact RD.v rfl⟩
end Fl
open Go.RowKit
namespace Fl
open Sx
def tQ (p:Value) (n:Nat) (R:List (List Int)) (w:World) (S:List Nat):Prop:=Qq w p n R S
theorem tQ.ok {p:Value} {n:Nat} {R:List (List Int)}:oK (tQ p n R):=⟨fun h k hn=>h.aT k hn,fun h=>h.lt⟩
theorem Ju (p:Value) (n:Nat) (R:List (List Int)) (S:List Nat) (k:Int):aq Tryz.prog 110 [.c (.v p),.c (nI k)] [aI (tQ p n R) S] (fun _:Unit=>(.aV [.c (nI (Qu.first R k).1),.c (bI (Qu.first R k).2)],[aI (tQ p n R) S])) :=
 aq.kn tQ.ok tQ.ok fun ok e xs hd h=>by
  obtain rfl:=hd.v2;refine (P0 e p n R S k h).mono ?_
  rintro en w' ⟨rfl,rfl⟩
  exact ⟨_,rfl,aj.refl _ _,h,RD.yf rfl rfl⟩
theorem Jv (p:Value) (n:Nat) (R:List (List Int)) (S:List Nat) (k x:Int):aq Tryz.prog 107 [.c (.v p),.c (nI k),.c (nI x)] [aI (tQ p n R) S] (fun _:Unit=>(.c (bI (Qu.push n R k x).2),[aI (tQ p n (Qu.push n R k x).1) S])) :=
 aq.kn tQ.ok tQ.ok fun ok e xs hd h=>by
  obtain rfl:=hd.v3;refine (Qa e p n R S k x h).mono ?_
  rintro en w' ⟨rfl,h1,h2⟩
  exact ⟨_,rfl,h1,h2,RD.v rfl⟩
theorem Sg (p:Value) (n:Nat) (R:List (List Int)) (S:List Nat) (x:Int):aq Tryz.prog 111 [.c (.v p),.c (nI x)] [aI (tQ p n R) S] (fun _:Unit=>(.c (bI (Qu.drop R x).2),[aI (tQ p n (Qu.drop R x).1) S])) :=
 aq.kn tQ.ok tQ.ok fun ok e xs hd h=>by
  obtain rfl:=hd.v2;refine (Qv e p n R S x h).mono ?_
  rintro en w' ⟨rfl,h1,h2⟩
  exact ⟨_,rfl,h1,h2,RD.v rfl⟩
theorem Jw (p:Value) (n:Nat) (R:List (List Int)) (S:List Nat) (k:Int):aq Tryz.prog 69 [.c (.v p),.c (nI k)] [aI (tQ p n R) S] (fun _:Unit=>(.c (ints (Qu.row R k)),[aI (tQ p n R) S])) :=
 aq.kn tQ.ok tQ.ok fun ok e xs hd h=>by
  obtain rfl:=hd.v2;refine (Ri e p n R S k h).mono ?_
  rintro en w' ⟨v,T,rfl,h1,h2,h3⟩
  refine ⟨_,rfl,h1.mono (by simp),h.then h1,?_⟩;unfold RD;exact RA.ints h2 fun x hx=>⟨.inr (.inr (h3 x hx)),fun hs=>by have:=h.lt x hs;have:=h3 x hx;omega⟩
theorem Jx (n m:Nat) (h1:n≤64) (h2:m≤64):aq Tryz.prog 54 [.c (nI n),.c (nI m)] [] (fun x:Value × List Nat=>(.aV [.c (.v x.1),.c (nI 0)],[aI (tQ x.1 n (List.replicate m [])) x.2])):=⟨fun ok e xs hd _ _ _=>by
 obtain rfl:=hd.v2;refine (Rz e n m h1 h2).mono ?_
 rintro en w' ⟨p,S,rfl,h1,h2⟩
 refine ⟨(p,S),_,rfl,by simpa [aO] using h1.1,fun y hy=>.inr (h1.2 y (by simpa [aO,aI,ai.bM] using hy)),List.pairwise_singleton _ _,fun r hr=>?_,?_⟩
 ·rw [List.mem_singleton.1 hr];exact (aI.holds tQ.ok).2 h2
 ·obtain ⟨b,rfl⟩:=Qq.shape h2;exact RD.yf rfl rfl⟩
def tP (p:Value) (size most:Nat) (s:Po.St) (w:World) (S:List Nat):Prop:=PS w p size most s S
theorem tP.ok {p:Value} {size most:Nat} {s:Po.St}:oK (tP p size most s):=⟨fun h k hn=>Pl.aT h k hn,fun h=>Pl.lt h⟩
theorem Sh (p:Value) (size most:Nat) (s:Po.St) (S:List Nat) (g y:Int) (v:Po.Inv size most s):aq Tryz.prog 81 [.c (.v p),.c (nI g),.c (nI y)] [aI (tP p size most s) S] (fun S':List Nat=>(.c (bI (Po.bR most s g y).2),[aI (tP p size most (Po.bR most s g y).1) S'])) :=
 aq.aI (ι:=List Nat) (Ψ:=fun _=>tP p size most (Po.bR most s g y).1) (S':=fun S'=>S') (d:=fun _=>.c (bI (Po.bR most s g y).2)) tP.ok (fun _=>tP.ok) fun ok e xs hd h=>by
  obtain rfl:=hd.v3;refine (Q2 e p size most s S g y h v).mono ?_
  rintro en w' ⟨rfl,S',h1,h2,h3⟩
  exact ⟨S',_,rfl,h2,h3,h1,RD.v rfl⟩
theorem Sk (p:Value) (size most:Nat) (s:Po.St) (S:List Nat) (hM:s.M.length≤1000):aq Tryz.prog 60 [.c (.v p)] [aI (tP p size most s) S] (fun _:Unit=>(.c (ints s.M),[aI (tP p size most s) S])) :=
 aq.kn tP.ok tP.ok fun ok e xs hd h=>by
  obtain rfl:=hd.v1;refine (Pb e p _ _ _ _ _ _ _ h hM).mono ?_
  rintro en w' ⟨v,T,rfl,h1,h2,h3⟩
  refine ⟨_,rfl,h1.mono (by simp),Pl.then h h1,?_⟩;unfold RD;exact RA.ints h2 fun x hx=>⟨.inr (.inr (h3 x hx)),fun hs=>by have:=Pl.lt h x hs;have:=h3 x hx;omega⟩
theorem Sl (p:Value) (size most:Nat) (s:Po.St) (S:List Nat) (g:Int) (hC:∀ l∈s.C,l.length≤1000):aq Tryz.prog 65 [.c (.v p),.c (nI g)] [aI (tP p size most s) S] (fun _:Unit=>(.c (ints (Po.cache s.C g)),[aI (tP p size most s) S])) :=
 aq.kn tP.ok tP.ok fun ok e xs hd h=>by
  obtain rfl:=hd.v2;refine (Pe e p _ _ _ _ _ _ _ g h hC).mono ?_
  rintro en w' ⟨v,T,rfl,h1,h2,h3⟩
  refine ⟨_,rfl,h1.mono (by simp),Pl.then h h1,?_⟩;unfold RD;exact RA.ints h2 fun x hx=>⟨.inr (.inr (h3 x hx)),fun hs=>by have:=Pl.lt h x hs;have:=h3 x hx;omega⟩
theorem Sm (p:Value) (size most:Nat) (s:Po.St) (S:List Nat):aq Tryz.prog 61 [.c (.v p)] [aI (tP p size most s) S] (fun _:Unit=>(.c (nI s.f),[aI (tP p size most s) S])) :=
 aq.kn tP.ok tP.ok fun ok e xs hd h=>by
  obtain rfl:=hd.v1;refine (Pa e p _ _ _ _ _ _ _ h).mono ?_
  rintro en w' ⟨rfl,rfl⟩
  exact ⟨_,rfl,aj.refl _ _,h,RD.v rfl⟩
theorem Sn (size cj most:Nat) (h1:size≤64) (h2:cj≤8) (h3:1≤most) (h4:most≤16):aq Tryz.prog 120 [.c (nI size),.c (nI cj),.c (nI most)] [] (fun x:Value × List Nat=>(.aV [.c (.v x.1),.c (nI 0)],[aI (tP x.1 size most (Po.new size cj)) x.2])):=⟨fun ok e xs hd _ _ _=>by
 obtain rfl:=hd.v3;refine (Jb e size cj most h1 h2 h3 h4).mono ?_
 rintro en w' ⟨p,S,rfl,h1,h2,h3⟩
 refine ⟨(p,S),_,rfl,by simpa [aO] using h1,fun y hy=>.inr (h3 y (by simpa [aO,aI,ai.bM] using hy)),List.pairwise_singleton _ _,fun r hr=>?_,?_⟩
 ·rw [List.mem_singleton.1 hr];exact (aI.holds tP.ok).2 h2
 ·obtain ⟨b,rfl⟩:=Pl.shape h2;exact RD.yf rfl rfl⟩
def tR (l:List (Value × Nat × List Int)) (w:World) (S:List Nat):Prop :=
 ∃ Ss:List (List Nat),Ss.length=l.length∧S=Ss.flatten∧Ss.Pairwise (fun A B=>∀ x∈A,x∉B)∧∀ (i:Nat) x Si,l[i]?=some x→Ss[i]?=some Si→Rg w x.1 x.2.1 x.2.2 Si
theorem pR {Ss:List (List Nat)} {i:Nat} {Si:List Nat} (h:Ss[i]?=some Si) {x:Nat} (hx:x∈Si):x∈Ss.flatten:=List.mem_flatten.2 ⟨Si,List.mem_of_getElem? h,hx⟩
theorem tR.ok {l:List (Value × Nat × List Int)}:oK (tR l):=by
 refine ⟨?_,?_⟩
 ·rintro w w' S T ⟨Ss,h1,rfl,h3,h4⟩ k hn
  exact ⟨Ss,h1,rfl,h3,fun i x Si hi hs=>(h4 i x Si hi hs).aT k fun y hy=>hn y (pR hs hy)⟩
 ·rintro w S ⟨Ss,h1,rfl,h3,h4⟩ x hx
  obtain ⟨Si,hs,hx⟩:=List.mem_flatten.1 hx;obtain ⟨i,hi⟩:=List.getElem?_of_mem hs;have hl:i < l.length:=by rw [← h1];exact (List.getElem?_eq_some_iff.1 hi).1
  exact (h4 i _ Si (List.getElem?_eq_getElem hl) hi).lt x hx
theorem So {Ss:List (List Nat)} (h:Ss.Pairwise (fun A B=>∀ x∈A,x∉B)) {i j:Nat} {A B:List Nat} (hi:Ss[i]?=some A) (hj:Ss[j]?=some B) (br:i≠j):∀ x∈B,x∉A:=by
 intro x hx hy;obtain ⟨dI,dA⟩:=List.getElem?_eq_some_iff.1 hi;obtain ⟨wP,eW⟩:=List.getElem?_eq_some_iff.1 hj;rcases Nat.lt_or_gt_of_ne br with c | c
 ·have:=List.pairwise_iff_getElem.1 h i j dI wP c x (dA ▸ hy);exact this (eW ▸ hx)
 ·have:=List.pairwise_iff_getElem.1 h j i wP dI c x (eW ▸ hx);exact this (dA ▸ hy)
theorem tR.at_ {l:List (Value × Nat × List Int)} {w:World} {S:List Nat} (h:tR l w S) {i:Nat} {p:Value} {N:Nat} {b:List Int} (hi:l[i]?=some (p,N,b)) :
  ∃ Si,Rg w p N b Si∧(∀ x∈Si,x∈S)∧∀ w' b',aj Si w w'→Rg w' p N b' Si→tR (l.set i (p,N,b')) w' S:=by
 obtain ⟨Ss,h1,rfl,h3,h4⟩:=h;have hl:=(List.getElem?_eq_some_iff.1 hi).1;have hs:=List.getElem?_eq_getElem (show i < Ss.length by omega);refine ⟨Ss[i]'(by omega),h4 i _ _ hi hs,fun x hx=>pR hs hx,fun w' b' k hr=>⟨Ss,by simp [h1],rfl,h3,fun j x Sj hj AP=>?_⟩⟩
 by_cases e:i=j
 ·subst e;rw [List.getElem?_set_self hl] at hj
  cases hj;rw [hs] at AP;cases AP;exact hr
 ·rw [List.getElem?_set_ne e] at hj;exact (h4 j x Sj hj AP).aT k (So h3 hs AP e)
theorem Sp (l:List (Value × Nat × List Int)) (S:List Nat) {i:Nat} {p:Value} {N:Nat} {b:List Int} (hi:l[i]?=some (p,N,b)):aq Tryz.prog 66 [.c (.v p)] [aI (tR l) S] (fun _:Unit=>(.c (nI N),[aI (tR l) S])) :=
 aq.kn tR.ok tR.ok fun ok e xs hd h=>by
  obtain rfl:=hd.v1;obtain ⟨Si,h1,h2,h3⟩:=h.at_ hi;refine (RF e p N b Si h1).mono ?_
  rintro en w' ⟨rfl,rfl⟩
  exact ⟨_,rfl,aj.refl _ _,h,RD.v rfl⟩
theorem Sq (l:List (Value × Nat × List Int)) (S:List Nat) {i:Nat} {p:Value} {N:Nat} {b:List Int} (hi:l[i]?=some (p,N,b)):aq Tryz.prog 67 [.c (.v p)] [aI (tR l) S] (fun _:Unit=>(.c (ints b),[aI (tR l) S])) :=
 aq.kn tR.ok tR.ok fun ok e xs hd h=>by
  obtain rfl:=hd.v1;obtain ⟨Si,h1,h2,h3⟩:=h.at_ hi;refine (RJ e p N b Si h1).mono ?_
  rintro en w' ⟨v,T,rfl,k1,k2,k3⟩
  refine ⟨_,rfl,k1.mono (by simp),tR.ok.aT h k1 (by simp),?_⟩;unfold RD;exact RA.ints k2 fun x hx=>⟨.inr (.inr (k3 x hx)),fun hs=>by have:=tR.ok.lt h x hs;have:=k3 x hx;omega⟩
end Fl
open Go.RowKit
namespace Fl
open Sx
structure U where
 vG:Value
 pB:Value
 vR:Value
 vC:Value
 pL:Value
 pQ:Value
 vS:Value
 pP:Value
 bD:Nat
 vM:Value
 TB:List Nat
 TL:List Nat
 TQ:List Nat
 TP:List Nat
 TR:List Nat
 H:List Bool
 rs:Nat→Value
 sg:Nat→Value
 wk:Nat→Value
def pt (b:Nat):Value:=.pointer (some ⟨b,0,none⟩)
def gW (x:Gr) (v u:Value):List A :=
  [.r 6 (x.ops.map dO),nI x.at_,nI x.place,nI 0,bI false,nI x.call,bI x.aX,nI x.param,nI x.aK,nI x.hold,nI x.t,nI x.jn,nI x.bG,nI x.wi,nI x.dh,
   nI x.res.code,nI x.res.cs,nI x.res.v,bI x.res.ok,nI x.res.n,ints x.order,ints x.aC,.v v,.v u,nI x.k]
def dc (u:U) (s:Sx.St):List (List A):=(List.range s.gs.length).map fun g=>gW (Sx.gr s g) (u.sg g) (u.wk g)
def dW (s:Sx.St):A:=.r 1 (s.cL.map fun n=>[.v (.int .u16 n)])
def wW (u:U) (s:Sx.St):List A :=
 [nI s.dB,nI s.bN,nI s.step,.v u.vG,.v u.pB,.v u.vR,.v u.vC,.v u.pL,.v u.pQ,.v u.vS,.v u.pP,.v (pt u.bD),dW s,.v u.vM]
def qW (s:Sx.St):List (List Int):=(List.range 16).map fun k=>if k % 2=0 then (cn s ((k / 2:Nat) + 1)).recv else (cn s ((k / 2:Nat) + 1)).send
def fD (u:U) (s:Sx.St):Po.St:=⟨s.cache,s.middle,s.fresh.toNat,u.H⟩
def nR (u:U) (s:Sx.St):List (Value × Nat × List Int):=(List.range s.an.length).map fun i=>(u.rs i,(cn s (i + 1)).cap.toNat,(cn s (i + 1)).buf)
def di (l:List Int):List (List A):=l.map fun n=>[nI n]
def fE (u:U) (s:Sx.St):List ai:=((List.range s.gs.length).map fun g=>.row (u.sg g) 3 1 (di (Sx.gr s g).ak)) ++ ((List.range s.gs.length).map fun g=>.row (u.wk g) 3 1 (di (Sx.gr s g).ah))
@[reducible] def wd (b:Nat) (u:U) (s:Sx.St):List ai :=
 .box b 81 (wW u s) ::
 .row u.vG 47 25 (dc u s) ::
 .row u.vR 110 1 ((List.range s.an.length).map fun i=>[.v (u.rs i)]) ::
 .row u.vC 4 1 (s.an.map fun c=>[bI c.closed]) ::
 .row u.vS 52 7 (s.aB.map eS) ::
 .row u.vM 54 13 (s.done.map eM) ::
 .box u.bD 145 [dW s,nI s.drawn] ::
 aI (tB u.pB (s.gs.map fun x=>(x.status,x.token))) u.TB ::
 aI (tL u.pL (s.an.map (·.lock))) u.TL ::
 aI (tQ u.pQ s.aB.length (qW s)) u.TQ ::
 aI (tP u.pP s.dB.toNat s.bN.toNat (fD u s)) u.TP ::
 aI (tR (nR u s)) u.TR :: fE u s
section
variable {P:Program} {c:Cx} {k:List Item} {f:Fm} {L L2:List ai}
theorem J.perm (hp:L2.Perm L) (h:J P c k f L2):J P c k f L:=⟨fun a w s=>h.go a w (s.perm hp)⟩
end
section
variable {P:Program} {c:Cx} {k:List Item} {f:Fm} {L L2:List ai}
theorem St.jJ {e sz:Nat} {a:Act} {w:World} (s:St c f L a w):St c f (.row (.slice none 0 0) e sz [] :: L) a w:=by
 have hf:aO (.row (.slice none 0 0) e sz [] :: L)=aO L:=by simp [aO,ai.bM,cW]
 have ho:bh c (.row (.slice none 0 0) e sz [] :: L)=bh c L:=by funext x;unfold bh;rw [hf]
 refine ⟨s.kp,s.size,s.jT,fun q hq=>?_,fun x hx=>s.fN x (hf ▸ hx),List.pairwise_cons.2 ⟨fun q _ x hx=>by simp [ai.bM,cW] at hx,s.ap⟩,fun t d ht=>by rw [ho];exact s.fr t d ht⟩;rw [ho];rcases List.mem_cons.1 hq with rfl | hq
 ·exact ⟨[],Row.nil w e sz,rfl⟩
 ·exact s.res q hq
theorem Since.iH {T:List Nat} {L0 L:List ai} {r:ai} {i:Nat} [bx:ur L0 r i] (ht:T.contains i=true):Since T L0 L r.bM:=.there bx.h ht
theorem Qt.le {U:List Nat} {o:Oper} {d:D} (d':D) (q:Qt P c U o f L d) (h:cQ d d'):Qt P c U o f L d':=⟨fun a w s=>by
 obtain ⟨v,h1,h2⟩:=q.go a w s;exact ⟨v,h.rep h1,h2⟩⟩
theorem J.jJ (e sz:Nat) (h:J P c k f (.row (.slice none 0 0) e sz [] :: L)):J P c k f L:=⟨fun a w s=>h.go a w s.jJ⟩
theorem J.Jy {j:Nat} (e sz:Nat) {q:ai} (hj:L[j]?=some q) (h:J P c k f (L.set j (.row (.slice none 0 0) e sz []))):J P c k f L :=
 J.drop j (J.jJ e sz (J.perm (set_perm hj) h))
end
theorem oL (u:U) (s:Sx.St):(dc u s).length=s.gs.length:=by simp [dc]
theorem Jz {u:U} {s:Sx.St} {g:Nat} (hg:g < s.gs.length):(dc u s)[g]?=some (gW (Sx.gr s g) (u.sg g) (u.wk g)):=by
 unfold dc;rw [List.getElem?_map,List.getElem?_range hg];rfl
theorem yg {α:Type} {n g:Nat} {h h':Nat→α} {a:α} (hg:g < n) (e1:h' g=a) (e2:∀ k,k≠g→k < n→h' k=h k):((List.range n).map h).set g a=(List.range n).map h':=by
 apply List.ext_getElem?;intro k;rw [List.getElem?_set,List.getElem?_map,List.getElem?_map]
 by_cases hk:k < n
 ·rw [List.getElem?_range hk]
  by_cases c:g=k
  ·subst c;simp [e1,hg]
  ·rw [if_neg c];simp [e2 k (Ne.symm c) hk]
 ·rw [List.getElem?_eq_none (by simpa using hk)]
  split
  ·rw [if_neg (by simp;omega)];simp
  ·simp
theorem Ev {u u':U} {s:Sx.St} {g:Nat} {x:Gr} {v w:Value} (hg:g < s.gs.length) (e1:u'.sg g=v∧u'.wk g=w) (e2:∀ k,k≠g→u'.sg k=u.sg k∧u'.wk k=u.wk k):(dc u s).set g (gW x v w)=dc u' (Sx.aa s g x):=by
 unfold dc;have hl:(Sx.aa s g x).gs.length=s.gs.length:=by simp [Sx.aa]
 rw [hl];refine yg hg ?_ fun k hk _=>?_
 ·rw [lR s g g x hg,if_pos rfl,e1.1,e1.2]
 ·rw [lR s g k x hg,if_neg hk,(e2 k hk).1,(e2 k hk).2]
theorem Ew {u:U} {s:Sx.St} {g:Nat} {x:Gr} (hg:g < s.gs.length):(dc u s).set g (gW x (u.sg g) (u.wk g))=dc u (Sx.aa s g x):=Ev hg ⟨rfl,rfl⟩ fun _ _=>⟨rfl,rfl⟩
theorem JA {s:Sx.St} {g:Nat} {x:Gr} (hg:g < s.gs.length):((Sx.aa s g x).gs.map fun x=>(x.status,x.token))=(s.gs.map fun x=>(x.status,x.token)).set g (x.status,x.token):=by
 simp [Sx.aa,List.map_set]
theorem Ex {s:Sx.St} {g:Nat} {x:Gr} (hg:g < s.gs.length) (e:x.status=(Sx.gr s g).status∧x.token=(Sx.gr s g).token):((Sx.aa s g x).gs.map fun x=>(x.status,x.token))=(s.gs.map fun x=>(x.status,x.token)):=by
 rw [JA hg,e.1,e.2];have:(s.gs.map fun x=>(x.status,x.token))[g]?=some ((Sx.gr s g).status,(Sx.gr s g).token):=by
  rw [List.getElem?_map];unfold Sx.gr;rw [List.getD_eq_getElem?_getD,List.getElem?_eq_getElem hg];rfl
 exact List.ext_getElem? fun k=>by
  rw [List.getElem?_set]
  split
  ·rename_i c;subst c;rw [this];simp [hg]
  ·rfl
theorem JB {u:U} {s:Sx.St} {g:Nat} (hg:g < s.gs.length):(fE u s)[g]?=some (.row (u.sg g) 3 1 (di (Sx.gr s g).ak)):=by
 unfold fE;rw [List.getElem?_append_left (by simpa using hg),List.getElem?_map,List.getElem?_range hg];rfl
theorem yh {u:U} {s:Sx.St} {g:Nat} (hg:g < s.gs.length):(fE u s)[s.gs.length + g]?=some (.row (u.wk g) 3 1 (di (Sx.gr s g).ah)):=by
 unfold fE;rw [List.getElem?_append_right (by simp),List.length_map,List.length_range,show s.gs.length + g - s.gs.length=g by omega,List.getElem?_map,List.getElem?_range hg];rfl
theorem JC {u:U} {s:Sx.St} {g:Nat} {x:Gr} (hg:g < s.gs.length) (e1:x.ak=(Sx.gr s g).ak) (e2:x.ah=(Sx.gr s g).ah):fE u (Sx.aa s g x)=fE u s:=by
 unfold fE;have hl:(Sx.aa s g x).gs.length=s.gs.length:=by simp [Sx.aa]
 rw [hl]
 congr 1
 ·refine List.map_congr_left fun k hk=>?_
  rw [lR s g k x hg];split
  ·rename_i c;subst c;rw [e1]
  ·rfl
 ·refine List.map_congr_left fun k hk=>?_
  rw [lR s g k x hg];split
  ·rename_i c;subst c;rw [e2]
  ·rfl
theorem Sr {u:U} {s:Sx.St} {g:Nat} {x:Gr} {v:Value} (hg:g < s.gs.length) (e1:x.ak=(Sx.gr s g).ak):(fE u s).set (s.gs.length + g) (.row v 3 1 (di x.ah))=fE { u with wk:=fun k=>if k=g then v else u.wk k } (Sx.aa s g x):=by
 unfold fE;have hl:(Sx.aa s g x).gs.length=s.gs.length:=by simp [Sx.aa]
 rw [hl,List.set_append_right _ _ (by simp),List.length_map,List.length_range,show s.gs.length + g - s.gs.length=g by omega]
 congr 1
 ·refine List.map_congr_left fun k hk=>?_
  rw [lR s g k x hg];split
  ·rename_i c;subst c;rw [e1]
  ·rfl
 ·refine yg hg ?_ fun k hk _=>?_
  ·simp only [if_true];rw [lR s g g x hg,if_pos rfl]
  ·simp only [if_neg hk];rw [lR s g k x hg,if_neg hk]
end Fl
open Go.RowKit
namespace Fl
open Sx
set_option maxRecDepth 100000
theorem sJ {u:U} {s:Sx.St} {g:Nat} (hg:g < s.gs.length):(dc u s)[((g:Int)).toNat]?=some (gW (Sx.gr s g) (u.sg g) (u.wk g)):=by rw [Int.toNat_natCast];exact Jz hg
section
variable {P:Program} {c:Cx} {f:Fm} {L:List ai} {T:TypeId} {ps:String} {af:Array Edge} {gd:Option (Nat × Bool)} {t:Nat}
theorem Qt.AQ (i:Nat) {x:Operand} {X sz:Nat} {v:Value} {l:List (List A)} {e e' qB:Nat} [ie:eY P X e' qB] (h:aN f x=some (.c (.v v))) (hi:L[i]?=some (.row v e sz l)) {n:Nat} (hn:l.length=n):Qt P c [] ⟨t,.call ⟨.builtin .len,#[x],#[X]⟩,T,ps,af,gd⟩ f L (.c (nI n)):=by
 subst hn;haveI:gz L v e sz l i:=⟨hi⟩
 exact Qt.xb h
end
@[reducible] def wl (b:Nat) (u:U) (s:Sx.St) (G:List (List A)) (B:List (Int × Bool)) (R:List ai):List ai :=
 .box b 81 (wW u s) ::
 .row u.vG 47 25 G ::
 .row u.vR 110 1 ((List.range s.an.length).map fun i=>[.v (u.rs i)]) ::
 .row u.vC 4 1 (s.an.map fun c=>[bI c.closed]) ::
 .row u.vS 52 7 (s.aB.map eS) ::
 .row u.vM 54 13 (s.done.map eM) ::
 .box u.bD 145 [dW s,nI s.drawn] ::
 aI (tB u.pB B) u.TB ::
 aI (tL u.pL (s.an.map (·.lock))) u.TL ::
 aI (tQ u.pQ s.aB.length (qW s)) u.TQ ::
 aI (tP u.pP s.dB.toNat s.bN.toNat (fD u s)) u.TP ::
 aI (tR (nR u s)) u.TR :: R
theorem Ey {b:Nat} {u:U} {s:Sx.St} {g:Nat} (x:Gr) {G:List (List A)} (hg:g < s.gs.length) (hG:G=(dc u s).set g (gW x (u.sg g) (u.wk g))) (e:x.status=(Sx.gr s g).status∧x.token=(Sx.gr s g).token:=by exact ⟨rfl,rfl⟩) (e1:x.ak=(Sx.gr s g).ak:=by rfl) (e2:x.ah=(Sx.gr s g).ah:=by rfl) :
  wd b u (Sx.aa s g x)=wl b u s G (s.gs.map fun x=>(x.status,x.token)) (fE u s):=by
 have h1:=Ew (u:=u) (x:=x) hg;have h2:=Ex hg e;have h3:=JC (u:=u) hg e1 e2
 show wl b u s (dc u (Sx.aa s g x)) ((Sx.aa s g x).gs.map fun x=>(x.status,x.token)) (fE u (Sx.aa s g x))=_;rw [h2,h3,← h1,hG]
theorem JE (b:Nat) (u:U) (s:Sx.St) (ch:Int) :
  aq Tryz.prog 19 [.c (.v (pt b)),.c (nI ch)] (wd b u s) (fun _:Unit=>(.c (bI (Sx.made s ch)),wd b u s)):=by
 refine aq.intro Tryz.func19 rfl rfl rfl (fun ok e=>?_);have hl:((List.range s.an.length).map fun i=>[A.v (u.rs i)]).length=s.an.length:=by simp
 cases h1:(decide (ch ≥ 1)) with
 | true =>
  have h2:(decide (ch≤(s.an.length:Int)))=Sx.made s ch:=by unfold Sx.made;simp at h1;simp [h1]
  repeat (first | (refine K.bi ?_;refine jq rfl rfl rfl (Qt.AQ 2 rfl rfl hl) ?_) | refine gn ?_)
  (exact J.kJ Tryz.func19 rfl (.cons (.tmp rfl) .nil) () (by exact .refl) rfl)
 | false =>
  repeat (refine gn ?_)
  have e1:Sx.made s ch=false:=by unfold Sx.made;simp at h1 ⊢;omega
  rw [e1]
  (exact J.kJ Tryz.func19 rfl (.cons (.tmp rfl) .nil) () (by exact .refl) rfl)
theorem nU (l:List Int):(di l).length=l.length:=by simp [di]
theorem JF (b:Nat) (u:U) (s:Sx.St) (g:Nat) (hg:g < s.gs.length) :
  aq Tryz.prog 82 [.c (.v (pt b)),.c (nI g)] (wd b u s) (fun _:Unit=>(.aV [],wd b u (Sx.ah s g))):=by
 refine aq.intro Tryz.func82 rfl rfl rfl (fun ok e=>?_);have OW:∀ x:Int,x=g→0≤x∧x < (dc u s).length:=fun x hx=>by rw [oL];omega
 repeat (first | (refine K.load ?_;((refine jq rfl rfl rfl (Qt.cJ rfl ((sJ hg)) (by exact rfl)) ?_))) | (refine K.indexAddr ?_;refine jq rfl rfl rfl (Qt.bF rfl rfl (OW _ rfl).1 (OW _ rfl).2) ?_) | (refine K.bi ?_;refine jq rfl rfl rfl (Qt.AQ (s.gs.length + g + 12) rfl (yh hg) (nU _)) ?_) | refine gn ?_)
 refine J.cond rfl (fun h=>?_) (fun h=>?_)
 ·have h3:Sx.ah s g=Sx.aE s g 17:=by unfold Sx.ah;rw [if_pos (by simpa using h)]
  rw [h3]
  repeat (first | (refine K.store ?_;refine JO.ld (Ld.dY rfl rfl (by exact rfl) ((sJ hg))) rfl (fun _=>?_)) | (refine K.indexAddr ?_;refine jq rfl rfl rfl (Qt.bF rfl rfl (OW _ rfl).1 (OW _ rfl).2) ?_) | refine gn ?_)
  refine J.dZ (Ey { Sx.gr s g with place:=17 } hg rfl) ?_
  (exact J.jI Tryz.func82 rfl .nil () (by exact .refl) rfl)
 ·have h3:Sx.ah s g=Sx.aE s g 18:=by unfold Sx.ah;rw [if_neg (by simpa using h)]
  rw [h3]
  repeat (first | (refine K.store ?_;refine JO.ld (Ld.dY rfl rfl (by exact rfl) ((sJ hg))) rfl (fun _=>?_)) | (refine K.indexAddr ?_;refine jq rfl rfl rfl (Qt.bF rfl rfl (OW _ rfl).1 (OW _ rfl).2) ?_) | refine gn ?_)
  refine J.dZ (Ey { Sx.gr s g with place:=18 } hg rfl) ?_
  (exact J.jI Tryz.func82 rfl .nil () (by exact .refl) rfl)
end Fl
open Go.RowKit
namespace Fl
open Sx
set_option maxRecDepth 100000
def kK (u:U) (g:Nat):U:={ u with sg:=fun k=>if k=g then .slice none 0 0 else u.sg k,wk:=fun k=>if k=g then .slice none 0 0 else u.wk k }
theorem Sv {u:U} {s:Sx.St} {g:Nat} (hg:g < s.gs.length):dc (kK u g) (Sx.clear s g)=(dc u s).set g (gW (gu (Sx.gr s g)) (.slice none 0 0) (.slice none 0 0)) :=
 (Ev hg ⟨by simp [kK],by simp [kK]⟩ fun k hk=>⟨by simp [kK,hk],by simp [kK,hk]⟩).symm
theorem Sw {u:U} {s:Sx.St} {g:Nat} (hg:g < s.gs.length):fE (kK u g) (Sx.clear s g)=((fE u s).set g (.row (.slice none 0 0) 3 1 [])).set (s.gs.length + g) (.row (.slice none 0 0) 3 1 []):=by
 have hl:(Sx.clear s g).gs.length=s.gs.length:=by simp [Sx.clear,Sx.aa]
 unfold fE;rw [hl,List.set_append_left _ _ (by simpa using hg),List.set_append_right _ _ (by simp),List.length_set,List.length_map,List.length_range,show s.gs.length + g - s.gs.length=g by omega]
 congr 1
 ·refine (yg hg ?_ fun k hk _=>?_).symm
  ·unfold Sx.clear;rw [lR s g g _ hg,if_pos rfl];simp [kK,gu,clean,di]
  ·unfold Sx.clear;rw [lR s g k _ hg,if_neg hk];simp [kK,hk]
 ·refine (yg hg ?_ fun k hk _=>?_).symm
  ·unfold Sx.clear;rw [lR s g g _ hg,if_pos rfl];simp [kK,gu,clean,di]
  ·unfold Sx.clear;rw [lR s g k _ hg,if_neg hk];simp [kK,hk]
theorem Sy {b:Nat} {u:U} {s:Sx.St} {g:Nat} (hg:g < s.gs.length):wd b (kK u g) (Sx.clear s g)=wl b u s ((dc u s).set g (gW (gu (Sx.gr s g)) (.slice none 0 0) (.slice none 0 0))) (s.gs.map fun x=>(x.status,x.token)) (((fE u s).set g (.row (.slice none 0 0) 3 1 [])).set (s.gs.length + g) (.row (.slice none 0 0) 3 1 [])):=by
 show wl b u s (dc (kK u g) (Sx.clear s g)) ((Sx.clear s g).gs.map fun x=>(x.status,x.token)) (fE (kK u g) (Sx.clear s g))=_;rw [Sv hg,Sw hg];unfold Sx.clear;rw [Ex (x:=gu (Sx.gr s g)) hg ⟨rfl,rfl⟩]
theorem Sz (b:Nat) (u:U) (s:Sx.St) (g:Nat) (hg:g < s.gs.length) :
  aq Tryz.prog 24 [.c (.v (pt b)),.c (nI g)] (wd b u s) (fun _:Unit=>(.aV [],wd b (kK u g) (Sx.clear s g))):=by
 refine aq.intro Tryz.func24 rfl rfl rfl (fun ok e=>?_);have OW:∀ x:Int,x=g→0≤x∧x < (dc u s).length:=fun x hx=>by rw [oL];omega
 have A:=sJ (u:=u) hg;have HQ:((g:Int)).toNat < (dc u s).length:=by rw [oL];omega
 repeat (first | (refine K.indexAddr ?_;refine jq rfl rfl rfl (Qt.bF rfl rfl (OW _ rfl).1 (OW _ rfl).2) ?_) | refine gn ?_)
 refine J.draw (by kernel_rfl) rfl ?_;refine JW.base (some 24) ?_;refine tk 0 ?_;refine tk 1 ?_;refine tk 2 ?_;refine tk 3 ?_;refine JD.take 4 rfl rfl (by kernel_rfl) rfl (qb rfl) (Qt.cJ rfl A rfl) rfl ?_;refine tk 5 ?_;refine tk 6 ?_;refine tk 7 ?_;refine JD.take 8 rfl rfl (by kernel_rfl) rfl (qb rfl) (Qt.cJ rfl A rfl) rfl ?_;refine tk 9 ?_;refine tk 10 ?_;refine tk 11 ?_;refine JD.take 12 rfl rfl (by kernel_rfl) rfl (qb rfl) (Qt.cJ rfl A rfl) rfl ?_;refine tk 13 ?_;refine tk 14 ?_;refine tk 15 ?_;refine JD.take 16 rfl rfl (by kernel_rfl) rfl (qb rfl) (Qt.cJ rfl A rfl) rfl ?_;refine tk 17 ?_;refine tk 18 ?_;refine tk 19 ?_;refine JD.take 20 rfl rfl (by kernel_rfl) rfl (qb rfl) (Qt.cJ rfl A rfl) rfl ?_;refine tk 21 ?_;refine JD.take 22 rfl rfl (by kernel_rfl) rfl (qb rfl) (Qt.le (.agg (gW (gu (Sx.gr s g)) (.slice none 0 0) (.slice none 0 0))) (Qt.build rfl (by kernel_rfl)) (.agg (by repeat (first | exact .nil | refine .cons .refl ?_ | refine .cons .nil ?_)))) rfl ?_;refine tk 23 ?_;refine jt 24 rfl rfl (Ld.fO rfl rfl rfl rfl HQ) (fun _=>?_);refine bJ ?_;refine J.Jy (j:=g + 12) 3 1 (JB hg) ?_;refine J.Jy (j:=s.gs.length + g + 12) 3 1 (q:=_) (List.getElem?_eq_getElem (by simp [fE];omega)) ?_;refine J.dZ (Sy hg) ?_
 (exact J.jI Tryz.func24 rfl .nil () (by exact .refl) rfl)
end Fl
open Go.RowKit
namespace Fl
open Sx
set_option maxRecDepth 100000
theorem JG (l:List Int) (hl:l.length≤100000) :
  aq Tryz.prog 53 [.c (kE l)] [] (fun b:Nat=>(.c (.v (pt b)),[.box b 145 [kE l,nI 0]])):=by
 refine aq.intro Tryz.func53 rfl rfl rfl (fun ok e=>?_)
 repeat (first | (refine K.bi ?_;refine JO.ld (Ld.copy (qb rfl) rfl rfl ((by simp))) rfl (fun _=>?_)) | (refine K.make ?_;refine JO.ld (Ld.make (l.length) (qb rfl) rfl rfl (by (rfl)) (by omega)) rfl (fun _=>?_)) | refine au ?_ | intro _)
 refine J.Ht 3 12 0 rfl rfl rfl ?_
 (exact J.kJ Tryz.func53 rfl (.cons (.tmp rfl) .nil) _ (by exact .refl) rfl)
theorem SB (b:Nat) (l:List Int) (a:Int) :
  aq Tryz.prog 62 [.c (.v (pt b))] [.box b 145 [kE l,nI a]] (fun _:Unit=>(.c (nI a),[.box b 145 [kE l,nI a]])):=by
 refine aq.intro Tryz.func62 rfl rfl rfl (fun ok e=>?_)
 repeat (refine gn ?_)
 (exact J.kJ Tryz.func62 rfl (.cons (.tmp rfl) .nil) () (by exact .refl) rfl)
theorem JH (b:Nat) (l:List Int) (a:Int) (h0:0≤a) (h1:a≤l.length) (h2:l.length≤100000) :
  aq Tryz.prog 127 [.c (.v (pt b))] [.box b 145 [kE l,nI a]] (fun _:Unit=>(.c (nI (l.length - a)),[.box b 145 [kE l,nI a]])):=by
 refine aq.intro Tryz.func127 rfl rfl rfl (fun ok e=>?_);have w1:IntKind.i64.wrap ((l.length:Int) - a)=l.length - a:=fJ (by omega) (by omega)
 repeat (refine gn ?_)
 refine J.draw (by kernel_rfl) rfl ?_;refine JW.base none ?_;refine tk 0 ?_;refine tk 1 ?_;refine tk 2 ?_;refine tk 3 ?_;refine tk 4 ?_;refine tk 5 ?_;refine tk 6 ?_;refine tk 7 ?_;refine tk 8 ?_;refine JD.take 9 rfl rfl (by kernel_rfl) rfl (qb rfl) (Qt.cP rfl rfl rfl w1) rfl ?_;refine tk 10 ?_;refine bH ?_
 repeat (fail)
 (exact J.kJ Tryz.func127 rfl (.cons (.tmp rfl) .nil) () (by exact .refl) rfl)
theorem SC (b:Nat) (l:List Int) (n:Int) (h0:0≤n) (h1:n≤l.length) (h2:l.length≤100000) :
  aq Tryz.prog 56 [.c (.v (pt b)),.c (nI n)] [.box b 145 [kE l,nI 0]] (fun _:Unit=>(.aV [],[.box b 145 [kE l,nI n]])):=by
 refine aq.intro Tryz.func56 rfl rfl rfl (fun ok e=>?_);have c1:(decide (n < 0))=false:=decide_eq_false (by omega);have m1:(if (l.length:Int) - 0 < n then (l.length:Int) - 0 else n)=n:=by rw [if_neg (by omega)]
 have w1:IntKind.i64.wrap (0 + n)=n:=by rw [fJ (by omega) (by omega),Int.zero_add]
 repeat (refine gn ?_)
 refine J.draw (by kernel_rfl) rfl ?_;refine JW.iR [0] (some 11) ?_;refine tk 0 ?_;refine tk 1 ?_;refine tk 2 ?_;refine tk 4 ?_;refine tk 5 ?_;refine JD.cB (i:=3) (j:=6) (by kernel_rfl) ?_ ?_
 (refine JS.q rfl rfl rfl (qb rfl) (Qt.iC rfl (by exact rfl)) ?_)
 refine jl 6 rfl rfl rfl rfl (Ld.ep (JH b l 0 (by omega) (by omega) h2) (qb rfl) rfl (.cons .refl .nil)) (.mz rfl) (fun _=>?_);refine jk 7 rfl rfl rfl rfl (Qt.min rfl rfl m1) ?_;refine jk 8 rfl rfl rfl rfl (Qt.cP rfl rfl rfl w1) ?_;refine jk 9 rfl rfl rfl rfl (Qt.nilCheck rfl rfl) ?_;refine jk 10 rfl rfl rfl rfl (Qt.fieldAddr rfl rfl) ?_;refine jt 11 rfl rfl (Ld.cG rfl rfl (by exact rfl)) (fun _=>?_);refine bJ ?_
 rotate_left
 refine JS.bp rfl rfl rfl (qb rfl) (Ld.ep (JH b l 0 (by omega) (by omega) h2) (qb rfl) rfl (.cons .refl .nil)) (.mz rfl) (fun _=>?_);refine JD.lP ?_;refine JD.take 7 rfl rfl (by kernel_rfl) rfl (qb rfl) (Qt.min rfl rfl m1) rfl ?_;refine jk 3 rfl rfl rfl rfl (Qt.iC rfl (by exact rfl)) ?_;refine jk 8 rfl rfl rfl rfl (Qt.cP rfl rfl rfl w1) ?_;refine jk 9 rfl rfl rfl rfl (Qt.nilCheck rfl rfl) ?_;refine jk 10 rfl rfl rfl rfl (Qt.fieldAddr rfl rfl) ?_;refine jt 11 rfl rfl (Ld.cG rfl rfl (by exact rfl)) (fun _=>?_);refine bJ ?_
 rotate_left
 all_goals
  repeat (fail)
  (exact J.jI Tryz.func56 rfl .nil () (by exact .refl) rfl)
end Fl
open Go.RowKit
namespace Fl
open Sx
set_option maxRecDepth 100000
def mM (p:List (List Pn.Op)):A:=.r 1 (p.map fun ops=>[.r 6 (ops.map dO)])
theorem Ez (p:List (List Pn.Op)) (h1:p.length≤1000) (h2:∀ ops∈p,ops.length≤100000∧∀ o∈ops,o.cases.length≤1000) :
  Pure Tryz.prog 121 [.c (mM p)] (.c (mM p)):=by
 refine aq.intro Tryz.func121 rfl rfl rfl (fun ok e=>?_)
 repeat (first | (refine K.make ?_;refine JO.ld (Ld.O7 (p.length) (qb rfl) rfl rfl (by (rfl)) (by omega)) rfl (fun _=>?_)) | refine gn ?_)
 refine J.loop (ι:={ q:Nat × Value // q.1≤p.length }) (fun q=>[(12,.c (mM p)),(13,.c (nI p.length)),(14,.c (nI q.1.1)),(3,.c (.v q.1.2))]) (fun q=>[.row q.1.2 43 1 ((p.take q.1.1).map fun ops=>[.r 6 (ops.map dO)])]) (fun q=>p.length - q.1.1) ⟨(0,_),Nat.zero_le _⟩ (fun X h=>h.aU ⟨rfl,rfl,rfl,rfl,trivial⟩) (fun q ih=>?_);obtain ⟨⟨k,v⟩,hk⟩:=q;simp only at hk ih ⊢
 by_cases aR:k < p.length
 ·have t1:(decide ((k:Int) < (p.length:Int)))=true:=by simpa using aR
  obtain ⟨ops,ho⟩:∃ ops,p[k]?=some ops:=⟨_,List.getElem?_eq_getElem aR⟩
  have J1:(p.map fun ops=>[A.r 6 (ops.map dO)])[((k:Int)).toNat]?=some [A.r 6 (ops.map dO)]:=by rw [Int.toNat_natCast,List.getElem?_map,ho];rfl
  obtain ⟨m1,m2⟩:=h2 ops (List.mem_of_getElem? ho)
  repeat (refine gn ?_)
  refine J.jJ 50 6 ?_;refine J.loop (ι:={ q:Nat × Value // q.1≤ops.length }) (fun q=>[(18,.c (.r 6 (ops.map dO))),(19,.c (nI ops.length)),(20,.c (nI q.1.1)),(6,.c (.v q.1.2)),(12,.c (mM p)),(13,.c (nI p.length)),(14,.c (nI k)),(3,.c (.v v))]) (fun q=>[.row q.1.2 50 6 ((ops.take q.1.1).map dO),.row v 43 1 ((p.take k).map fun ops=>[.r 6 (ops.map dO)])]) (fun q=>ops.length - q.1.1) ⟨(0,.slice none 0 0),Nat.zero_le _⟩ (fun X h=>h.aU ⟨rfl,rfl,rfl,rfl,rfl,rfl,rfl,rfl,trivial⟩) (fun q kL=>?_);obtain ⟨⟨j,u⟩,hj⟩:=q;simp only at hj kL ⊢
  by_cases eW:j < ops.length
  ·have t2:(decide ((j:Int) < (ops.length:Int)))=true:=by simpa using eW
   obtain ⟨o,rj⟩:∃ o,ops[j]?=some o:=⟨_,List.getElem?_eq_getElem eW⟩
   have J2:(ops.map dO)[((j:Int)).toNat]?=some (dO o):=by rw [Int.toNat_natCast,List.getElem?_map,rj];rfl
   have m3:=m2 o (List.mem_of_getElem? rj)
   repeat (first | (refine K.bi ?_;first | refine JO.ld (Ld.gE (qb rfl) rfl rfl .read (by (simp;omega))) rfl (fun _=>?_) | ((refine JO.ld (Ld.bY (qb rfl) rfl rfl .cR (by (simp;omega))) rfl (fun _=>?_)))) | refine au ?_ | intro _)
   refine J.eF 1 ?_;refine J.eF 1 ?_;refine J.dZ ?_ ((kL ⟨(j + 1,_),by simp only;omega⟩ (by simp only;omega)).aU ⟨rfl,rfl,rfl,rfl,rfl,rfl,rfl,rfl,trivial⟩);rw [List.take_add_one,rj,List.map_append];rfl
  ·have t2:(decide ((j:Int) < (ops.length:Int)))=false:=by simpa using eW
   obtain rfl:j=ops.length:=by omega
   refine J.jE 6 rfl ?_
   repeat (first | (refine K.bi ?_;refine JO.ld (Ld.bY (qb rfl) rfl rfl .cR (by (simp;omega))) rfl (fun _=>?_)) | refine au ?_ | intro _)
   refine J.eF 1 ?_;refine J.dZ ?_ ((ih ⟨(k + 1,_),by simp only;omega⟩ (by simp only;omega)).aU ⟨rfl,rfl,rfl,rfl,trivial⟩);rw [List.take_add_one,ho,List.map_append,List.take_of_length_le (Nat.le_refl _)];rfl
 ·have t1:(decide ((k:Int) < (p.length:Int)))=false:=by simpa using aR
  obtain rfl:k=p.length:=by omega
  rw [List.take_of_length_le (Nat.le_refl _)]
  repeat (refine gn ?_)
  refine J.jE 2 rfl ?_;exact az Tryz.func121
theorem SD (L:List ai) (x:Gr) (v w:Value) {i j:Nat} (hi:L[i]?=some (.row v 3 1 (di x.ak))) (hj:L[j]?=some (.row w 3 1 (di x.ah)))
  (b1:x.ops.length≤100000) (b2:∀ o∈x.ops,o.cases.length≤1000) (b3:x.order.length≤1000) (b4:x.aC.length≤1000) (b5:x.ak.length≤1000) (b6:x.ah.length≤1000) :
  aq Tryz.prog 58 [.agg (gW x v w)] L (fun _:Unit=>(.agg (eG { x with status:=0,token:=false }),L)):=by
 have C1:=Ez [x.ops] (by simp) (by intro ops ho;obtain rfl:=List.mem_singleton.1 ho;exact ⟨b1,b2⟩);haveI rU:gz L v 3 1 (di x.ak) i:=⟨hi⟩
 haveI lH:gz L w 3 1 (di x.ah) j:=⟨hj⟩
 refine aq.intro Tryz.func58 rfl rfl rfl (fun ok e=>?_);have l5:(di x.ak).length=x.ak.length:=nU _;have l6:(di x.ah).length=x.ah.length:=nU _
 repeat (first | (refine K.indexAddr ?_;refine jx rfl rfl rfl rfl (by omega) (rfl) ?_) | refine aJ (C1) ?_ | (refine K.lit ?_;refine JO.ld (Ld.nt (qb rfl) rfl rfl rfl rfl rfl) rfl (fun _=>?_)) | (refine K.bi ?_;first | refine JO.ld (Ld.gE (qb rfl) rfl rfl .read (by (simp;omega))) rfl (fun _=>?_) | refine JO.ld (Ld.gE (qb rfl) rfl rfl .cR (by (omega))) rfl (fun _=>?_)) | refine au ?_ | intro _)
 (exact J.nQ [_,_] rfl Tryz.func58 rfl (.cons (.cell 0 rfl rfl rfl) .nil) () la rfl)
end Fl
open Go.RowKit
namespace Fl
open Sx
set_option maxRecDepth 100000
structure Fw (s:Sx.St):Prop where
 gs:s.gs.length≤8
 ch:s.an.length≤8
 su:s.aB.length≤64
 dn:s.done.length≤100000
 dr:s.cL.length≤100000
 cl:s.cache.length=s.gs.length
 cb:∀ l∈s.cache,l.length≤1000
 mb:s.middle.length≤1000
 fr:0≤s.fresh
 cp:∀ c∈s.an,0≤c.cap
 op:∀ x∈s.gs,x.ops.length≤100000∧∀ o∈x.ops,o.cases.length≤1000
 JI:∀ x∈s.gs,x.order.length≤1000∧x.aC.length≤1000∧x.ak.length≤1000∧x.ah.length≤1000
theorem JJ (ch:Int) (h0:0≤ch) (h1:ch≤100000):Pure Tryz.prog 70 [.c (nI ch)] (.c (nI (2 * ch - 2))):=by
 refine aq.intro Tryz.func70 rfl rfl rfl (fun ok e=>?_)
 repeat (refine gn ?_)
 exact az Tryz.func70
theorem JK (ch:Int) (h0:0≤ch) (h1:ch≤100000):Pure Tryz.prog 71 [.c (nI ch)] (.c (nI (2 * ch - 1))):=by
 refine aq.intro Tryz.func71 rfl rfl rfl (fun ok e=>?_)
 repeat (refine gn ?_)
 exact az Tryz.func71
theorem EA {s:Sx.St} {k:Nat} (hk:k < s.gs.length):Bc.status (s.gs.map fun x=>(x.status,x.token)) (k:Int)=(Sx.gr s k).status:=by
 have h:(Sx.gr s k)=s.gs[k]:=by unfold Sx.gr;rw [List.getD_eq_getElem?_getD,List.getElem?_eq_getElem hk];rfl
 unfold Bc.status Bc.has Bc.mem;simp [hk,h]
theorem SF {s:Sx.St} {k:Nat} (hk:k < s.gs.length):Bc.token (s.gs.map fun x=>(x.status,x.token)) (k:Int)=(Sx.gr s k).token:=by
 have h:(Sx.gr s k)=s.gs[k]:=by unfold Sx.gr;rw [List.getD_eq_getElem?_getD,List.getElem?_eq_getElem hk];rfl
 unfold Bc.token Bc.has Bc.mem;simp [hk,h]
theorem oM {s:Sx.St} {k:Nat} (hk:k < s.an.length):s.an[k]?=some (cn s ((k:Int) + 1)):=by
 unfold cn;rw [show ((k:Int) + 1 - 1).toNat=k by omega,List.getD_eq_getElem?_getD,List.getElem?_eq_getElem hk];rfl
theorem SG {s:Sx.St} {k:Nat} (hk:k < s.an.length):Lt.owner (s.an.map (·.lock)) (k:Int)=(cn s ((k:Int) + 1)).lock:=by
 have h:=oM hk;unfold Lt.owner Lt.has;rw [List.getElem?_eq_getElem hk] at h;simp at h;simp [hk,h]
theorem EB {u:U} {s:Sx.St} {k:Nat} (hk:k < s.an.length):(nR u s)[k]?=some (u.rs k,(cn s ((k:Int) + 1)).cap.toNat,(cn s ((k:Int) + 1)).buf):=by
 unfold nR;rw [List.getElem?_map,List.getElem?_range hk];rfl
theorem JL {s:Sx.St} {k:Nat} (hk:k < 8):Qu.row (qW s) (2 * ((k:Int) + 1) - 2)=(cn s ((k:Int) + 1)).recv:=by
 have e:2 * ((k:Int) + 1) - 2=((2 * k:Nat):Int):=by omega
 have l:(qW s).length=16:=by simp [qW]
 unfold Qu.row Qu.line;rw [e,l,if_pos (by simp;omega),Int.toNat_natCast];unfold qW;rw [List.getD_eq_getElem?_getD,List.getElem?_map,List.getElem?_range (by omega)];simp
theorem JM {s:Sx.St} {k:Nat} (hk:k < 8):Qu.row (qW s) (2 * ((k:Int) + 1) - 1)=(cn s ((k:Int) + 1)).send:=by
 have e:2 * ((k:Int) + 1) - 1=((2 * k + 1:Nat):Int):=by omega
 have l:(qW s).length=16:=by simp [qW]
 unfold Qu.row Qu.line;rw [e,l,if_pos (by simp;omega),Int.toNat_natCast];unfold qW;rw [List.getD_eq_getElem?_getD,List.getElem?_map,List.getElem?_range (by omega)];have h1:(2 * (k:Int) + 1) / 2=k:=by omega
 simp [h1]
theorem SH {s:Sx.St} {k:Nat} (hk:k < s.cache.length):s.cache[k]?=some (Po.cache s.cache (k:Int)):=by
 unfold Po.cache Po.mB;simp [hk]
def EC (s:Sx.St) (g c k:A):List A:=[nI s.dB,nI s.bN,nI s.step,g,c,.r 7 (s.aB.map eS),k,ints s.middle,nI s.fresh,kE s.cL,nI s.drawn,.r 13 (s.done.map eM)]
end Fl
end Go.Proofs.YtofnbflkhgammaaGreat
