/-
  What the laws need, part D11.
  Conditions: none.
-/
import Derived.Test.YtofnbflkhgammaaGreatD10
set_option linter.unusedVariables false
set_option linter.unusedSimpArgs false
set_option linter.unnecessarySimpa false
set_option maxHeartbeats 2000000
namespace Go.Proofs.YtofnbflkhgammaaGreat
open Go.RowKit
namespace Fl
open Sx Go.Proofs.Tryz
theorem set_perm {r r':ak}:∀ {L:List ak} {j:Nat},L[j]?=some r→(L.set j r').Perm (r' :: L.eraseIdx j)
 | [],j,h=>by simp at h
 | q :: L,0,h=>by simp
 | q :: L,j + 1,h=>by
  simp at h;simp only [List.set_cons_succ,List.eraseIdx_cons_succ];exact ((set_perm h).cons q).trans (List.Perm.swap r' q _)
section
variable {P:Program} {c:Cx} {k:List Item} {f:Fm} {L:List ak} {ops:Array Oper} {l:List Oper} {o:Oper} {T:TypeId} {ps:String} {af:Array Edge} {gd:Option (Nat × Bool)} {t:Nat}
theorem Ld.To (j:Nat) {F:FuncId} {args:List Operand} {tys:Array TypeId} {dm ds:List D} {r:ak} {ι:Type} {dd:ι→D} {r':ι→ak} {L':ι→List ak} [i:aJ P F] (hC:ax P F ds [r] (fun x=>(dd x,[r' x]))) (hj:L[j]?=some r) (ht:t < c.N) (h:iL f args=some dm) (hle:aK dm ds) (hL:∀ x,L.set j (r' x)=L' x) :
  Ld P c ⟨some t,.call ⟨.value (.func F),args.toArray,tys⟩,T,ps,af,gd⟩ f L r.bY (fun x=>(t,dd x) :: f) L':=⟨fun a w s K Q hK=>by
 have hp:=sY L j hj;have h1:=Ld.call (P:=P) (c:=c) (T:=T) (ps:=ps) (af:=af) (gd:=gd) (L:=r :: L.eraseIdx j) (f:=f) (tys:=tys) hC ht h hle (Ll:=[r]) (Lr:=L.eraseIdx j) rfl;refine h1.go a w (s.perm hp) K Q fun x v w' kp sx hf=>?_
 have hq:=set_perm (r':=r' x) hj;rw [hL] at hq;refine hK x v w' (by simpa [aT] using kp) (sx.perm hq) fun y hy=>?_
 rcases hf y ((rN hq y).1 hy) with h | h
 ·exact .inl ((rN hp y).1 h)
 ·exact .inr h⟩
end
class vl (L:List ak) (r:ak) (j:outParam Nat):Prop where h:L[j]?=some r
instance vl.succ {q r:ak} {M:List ak} {j:Nat} [h:vl M r j]:vl (q :: M) r (j + 1):=⟨by simpa using h.h⟩
instance vl.zero {r:ak} {M:List ak}:vl (r :: M) r 0:=⟨rfl⟩
section
variable {P:Program} {c:Cx} {k:List Item} {f:Fm} {L:List ak} {ops:Array Oper} {l:List Oper} {o:Oper} {T:TypeId} {ps:String} {af:Array Edge} {gd:Option (Nat × Bool)} {t:Nat}
theorem Ld.fQ {F:FuncId} {args:List Operand} {tys:Array TypeId} {dm ds:List D} {r:ak} {j:Nat} {ι:Type} {dd:ι→D} {r':ι→ak} {L':ι→List ak} [i:aJ P F] (hC:ax P F ds [r] (fun x=>(dd x,[r' x]))) [hj:vl L r j] [hL:∀ x,lP L j (r' x) (L' x)] (ht:t < c.N) (h:iL f args=some dm) (hle:aK dm ds) :
  Ld P c ⟨some t,.call ⟨.value (.func F),args.toArray,tys⟩,T,ps,af,gd⟩ f L r.bY (fun x=>(t,dd x) :: f) L':=Ld.To j hC hj.h ht h hle fun x=>(hL x).h
theorem Ld.Tp {F:FuncId} {args:List Operand} {tys:Array TypeId} {dm ds:List D} {ι:Type} {dd:ι→D} {L':ι→List ak} [i:aJ P F] (hC:ax P F ds L (fun x=>(dd x,L' x))) (ht:t < c.N) (h:iL f args=some dm) (hle:aK dm ds) :
  Ld P c ⟨some t,.call ⟨.value (.func F),args.toArray,tys⟩,T,ps,af,gd⟩ f L (aT L) (fun x=>(t,dd x) :: f) L':=⟨fun a w s K Q hK =>
 (Ld.call (P:=P) (c:=c) (T:=T) (ps:=ps) (af:=af) (gd:=gd) (tys:=tys) hC ht h hle (Ll:=L) (Lr:=[]) (by simp)).go a w s K Q fun x v w' kp sx hf=>hK x v w' kp (by simpa using sx) (by simpa using hf)⟩
end
section
variable {P:Program} {F:FuncId} {ok:Nat→Prop} {e:World} {L0 L:List ak} {ι:Type} {post:ι→D × List ak} {fn:Func} {N:Nat} {f:Fm} {k:List Item}
theorem Fg (L:List ak):(List.range L.length).map (fun i=>L[i]?)=L.map some:=by
 apply List.ext_getElem?;intro i;rw [List.getElem?_map,List.getElem?_map]
 by_cases h:i < L.length
 ·rw [List.getElem?_range h,List.getElem?_eq_getElem h];simp [List.getElem?_eq_getElem h]
 ·rw [List.getElem?_eq_none (by simpa using h),List.getElem?_eq_none (by omega)];rfl
theorem J.iG (hf:P.funcs[F]?=some fn) {rs:List ResultVar} {ds:List D} (iK:fn.results=rs.toArray) (h:iC P f L rs ds) {d:D} (i:ι) (hle:dB (qo ds) d) (hp:post i=(d,L)):J P (cx F ok e L0 post N) (.code .ret :: k) f L :=
 J.ret hf iK h i hle (List.range L.length) List.nodup_range (Fg L) hp
theorem J.lp (hf:P.funcs[F]?=some fn) {rs:List ResultVar} {ds:List D} (iK:fn.results=rs.toArray) (h:iC P f L rs ds) {d:D} (i:ι) (hle:dB (qo ds) d) (hp:post i=(d,L)):J P (cx F ok e L0 post N) [] f L :=
 J.fin hf iK h i hle (List.range L.length) List.nodup_range (Fg L) hp
theorem Lc (E L:List ak):((List.range L.length).map (· + E.length)).map (fun i=>(E ++ L)[i]?)=L.map some:=by
 rw [List.map_map,← Fg L];refine List.map_congr_left fun i _=>?_
 simp only [Function.comp];rw [List.getElem?_append_right (by omega)]
 congr 1;omega
theorem J.iN (E:List ak) {L':List ak} (hL:L=E ++ L') (hf:P.funcs[F]?=some fn) {rs:List ResultVar} {ds:List D} (iK:fn.results=rs.toArray) (h:iC P f L rs ds) {d:D} (i:ι) (hle:dB (qo ds) d) (hp:post i=(d,L')):J P (cx F ok e L0 post N) (.code .ret :: k) f L:=by
 subst hL;exact J.ret hf iK h i hle ((List.range L'.length).map (· + E.length)) (List.pairwise_map.2 (List.nodup_range.imp (fun h e=>h (by omega)))) (Lc E L') hp
theorem J.BL (E:List ak) {L':List ak} (hL:L=E ++ L') (hf:P.funcs[F]?=some fn) {rs:List ResultVar} {ds:List D} (iK:fn.results=rs.toArray) (h:iC P f L rs ds) {d:D} (i:ι) (hle:dB (qo ds) d) (hp:post i=(d,L')):J P (cx F ok e L0 post N) [] f L:=by
 subst hL;exact J.fin hf iK h i hle ((List.range L'.length).map (· + E.length)) (List.pairwise_map.2 (List.nodup_range.imp (fun h e=>h (by omega)))) (Lc E L') hp
end
structure pG (Φ:World→List Nat→Prop):Prop where
 aY:∀ {w w':World} {S T:List Nat},Φ w S→aq T w w'→(∀ x∈S,x∉T)→Φ w' S
 lt:∀ {w:World} {S:List Nat},Φ w S→∀ x∈S,x < w.heap.size
def aP (Φ:World→List Nat→Prop) (S:List Nat):ak:=.obj S (fun w=>Φ w S)
theorem aP.holds {Φ:World→List Nat→Prop} (h:pG Φ) {ok:Nat→Prop} {w:World} {S:List Nat}:(aP Φ S).holds ok w↔Φ w S:=by
 constructor
 ·rintro ⟨h1,h2⟩;exact h2 w [] (aq.refl _ _) (by simp)
 ·intro h1;exact ⟨h.lt h1,fun w' S' k hn=>h.aY h1 k hn⟩
section
variable {P:Program} {F:FuncId} {ds:List D}
theorem ax.aP {Φ:World→List Nat→Prop} {S:List Nat} {ι:Type} {Ψ:ι→World→List Nat→Prop} {S':ι→List Nat} {d:ι→D} (zq:pG Φ) (Fh:∀ i,pG (Ψ i))
  (h:∀ ok e xs,bU ok e ds xs→Φ e S→Calls P F xs.toArray e fun en w'=>∃ i x,en=.returned x∧aq S e w'∧(∀ y∈S' i,y∈S∨e.heap.size≤y)∧Ψ i w' (S' i)∧RD (fun g=>(ok g∨g∈S∨e.heap.size≤g)∧g∉S' i) w' (d i) x) :
  ax P F ds [Fl.aP Φ S] (fun i=>(d i,[Fl.aP (Ψ i) (S' i)])):=⟨fun ok e xs hd hr _ _=>by
 have h1:=(aP.holds zq).1 (hr _ (List.mem_singleton.2 rfl));refine Calls.mono (h ok e xs hd h1) ?_
 rintro en w' ⟨i,x,rfl,kp,hs,hp,hx⟩
 have fe:∀ (Φ:World→List Nat→Prop) (S:List Nat),aT [Fl.aP Φ S]=S:=fun Φ S=>by simp [aT,Fl.aP,ak.bY]
 refine ⟨i,x,rfl,by rw [fe];exact kp,by rw [fe,fe];exact hs,List.pairwise_singleton _ _,fun r hr=>?_,?_⟩
 ·rw [List.mem_singleton.1 hr];exact (aP.holds (Fh i)).2 hp
 ·have:mz ok e [Fl.aP Φ S] [Fl.aP (Ψ i) (S' i)]=fun g=>(ok g∨g∈S∨e.heap.size≤g)∧g∉S' i:=by
   funext g;unfold mz;rw [fe,fe]
  rw [this];exact hx⟩
theorem ax.ju {Φ Ψ:World→List Nat→Prop} {S:List Nat} {d:D} (zq:pG Φ) (Fh:pG Ψ)
  (h:∀ ok e xs,bU ok e ds xs→Φ e S→Calls P F xs.toArray e fun en w'=>∃ x,en=.returned x∧aq S e w'∧Ψ w' S∧RD (fun g=>(ok g∨g∈S∨e.heap.size≤g)∧g∉S) w' d x) :
  ax P F ds [Fl.aP Φ S] (fun _:Unit=>(d,[Fl.aP Ψ S])) :=
 ax.aP (ι:=Unit) (Ψ:=fun _=>Ψ) (S':=fun _=>S) (d:=fun _=>d) zq (fun _=>Fh) fun ok e xs hd hp=>by
  refine Calls.mono (h ok e xs hd hp) ?_
  rintro en w' ⟨x,h1,h2,h3,h4⟩
  exact ⟨(),x,h1,h2,fun y hy=>.inl hy,h3,h4⟩
theorem ax.plain {d:D} (h:∀ ok e xs,bU ok e ds xs→Calls P F xs.toArray e fun en w'=>∃ x,en=.returned x∧aq [] e w'∧RD (fun g=>ok g∨e.heap.size≤g) w' d x):Pure P F ds d:=⟨fun ok e xs hd _ _ _=>by
 refine Calls.mono (h ok e xs hd) ?_
 rintro en w' ⟨x,rfl,kp,hx⟩
 refine ⟨(),x,rfl,by simpa [aT] using kp,by simp [aT],List.Pairwise.nil,by simp,?_⟩;have:mz ok e [] []=fun g=>ok g∨e.heap.size≤g:=by
  funext g;unfold mz;simp [aT]
 rw [this];exact hx⟩
end
theorem bU.v1 {ok:Nat→Prop} {w:World} {v:Value} {xs:List Value} (h:bU ok w [.c (.v v)] xs):xs=[v]:=by
 unfold bU at h;obtain ⟨x,ys,rfl,h1,h2⟩:=h;unfold bU at h2;unfold RD RA at h1;rw [h2,h1.1]
theorem bU.cv {ok:Nat→Prop} {w:World} {v:Value} {ds:List D} {xs:List Value} (h:bU ok w (.c (.v v) :: ds) xs):∃ ys,xs=v :: ys∧bU ok w ds ys:=by
 unfold bU at h;obtain ⟨x,ys,rfl,h1,h2⟩:=h;unfold RD RA at h1;exact ⟨ys,by rw [h1.1],h2⟩
theorem bU.v2 {ok:Nat→Prop} {w:World} {u v:Value} {xs:List Value} (h:bU ok w [.c (.v u),.c (.v v)] xs):xs=[u,v]:=by
 obtain ⟨ys,e1,h1⟩:=h.cv;rw [e1,h1.v1]
theorem bU.v3 {ok:Nat→Prop} {w:World} {t u v:Value} {xs:List Value} (h:bU ok w [.c (.v t),.c (.v u),.c (.v v)] xs):xs=[t,u,v]:=by
 obtain ⟨ys,e1,h1⟩:=h.cv;rw [e1,h1.v2]
theorem bU.v4 {ok:Nat→Prop} {w:World} {s t u v:Value} {xs:List Value} (h:bU ok w [.c (.v s),.c (.v t),.c (.v u),.c (.v v)] xs):xs=[s,t,u,v]:=by
 obtain ⟨ys,e1,h1⟩:=h.cv;rw [e1,h1.v3]
theorem bU.Le {ok:Nat→Prop} {w:World} {xs:List Value} (h:bU ok w [] xs):xs=[]:=by unfold bU at h;exact h
theorem RD.v {ok:Nat→Prop} {w:World} {v:Value} (h:v.oneCell'=true):RD ok w (.c (.v v)) v:=by unfold RD RA;exact ⟨rfl,h⟩
theorem RD.zu {ok:Nat→Prop} {w:World} {v u:Value} (h:v.oneCell'=true) (k:u.oneCell'=true):RD ok w (.aZ [.c (.v v),.c (.v u)]) (.tuple #[v,u]):=by unfold RD;exact ⟨[v,u],rfl,bU.cons (RD.v h) (bU.cons (RD.v k) bU.nil)⟩
theorem RX.ints {ok:Nat→Prop} {w:World}:∀ (l:List Int),RX ok w 1 (l.map fun n=>[A.v (.int .i64 n)]) (l.map (Value.int .i64))
 | []=>rfl
 | n :: l=>⟨[.int .i64 n],l.map (Value.int .i64),rfl,rfl,RC.cons (by unfold RA;exact ⟨rfl,rfl⟩) RC.nil,RX.ints l⟩
theorem RA.ints {ok:Nat→Prop} {w:World} {v:Value} {l:List Int} {S:List Nat} (h:IV w v l S) (hs:∀ x∈S,ok x):RA ok w (.r 1 (l.map fun n=>[A.v (.int .i64 n)])) v :=
 RA.Bi (ys:=l.map (Value.int .i64)) (S:=S) (by rw [List.length_map];exact h) (RX.ints l) hs
theorem RX.Lf {ok:Nat→Prop} {w:World}:∀ {l:List Int} {xs:List Value},RX ok w 1 (l.map fun n=>[A.v (.int .i64 n)]) xs→xs=l.map (Value.int .i64)
 | [],xs,h=>h
 | n :: l,xs,h=>by
  obtain ⟨vs,ys,rfl,h2,h3,h4⟩:=h;have:=RX.Lf h4;unfold RC at h3;obtain ⟨x,zs,rfl,h5,h6⟩:=h3;unfold RC at h6;unfold RA at h5;rw [h6,h5.1,this];rfl
theorem IV.Fi {ok:Nat→Prop} {w:World} {v:Value} {l:List Int} (h:RA ok w (.r 1 (l.map fun n=>[A.v (.int .i64 n)])) v):∃ S,IV w v l S∧∀ x∈S,ok x:=by
 obtain ⟨ys,S,h1,h2,h3⟩:=h.view;refine ⟨S,?_,h3⟩;rw [RX.Lf h2,List.length_map] at h1;exact h1
end Fl
open Go.RowKit
namespace Fl
open Sx Go.Proofs.Tryz
def tB (p:Value) (l:List (Int × Bool)) (w:World) (S:List Nat):Prop:=Bn w p l S
theorem tB.ok {p:Value} {l:List (Int × Bool)}:pG (tB p l):=⟨fun h k hn=>h.aY k hn,fun h=>h.lt⟩
theorem Tq (p:Value) (l:List (Int × Bool)) (S:List Nat) (i:Int):ax prog 63 [.c (.v p),.c (nI i)] [aP (tB p l) S] (fun _:Unit=>(.c (nI (Bc.status l i)),[aP (tB p l) S])) :=
 ax.ju tB.ok tB.ok fun ok e xs hd h=>by
  obtain rfl:=hd.v2;refine (tw e p l S i h).mono ?_
  rintro en w' ⟨rfl,rfl⟩
  exact ⟨_,rfl,aq.refl _ _,h,RD.v rfl⟩
theorem Tr (p:Value) (l:List (Int × Bool)) (S:List Nat) (i:Int):ax prog 64 [.c (.v p),.c (nI i)] [aP (tB p l) S] (fun _:Unit=>(.c (bI (Bc.token l i)),[aP (tB p l) S])) :=
 ax.ju tB.ok tB.ok fun ok e xs hd h=>by
  obtain rfl:=hd.v2;refine (QY e p l S i h).mono ?_
  rintro en w' ⟨rfl,rfl⟩
  exact ⟨_,rfl,aq.refl _ _,h,RD.v rfl⟩
theorem Ts (p:Value) (l:List (Int × Bool)) (S:List Nat) (i:Int):ax prog 80 [.c (.v p),.c (nI i)] [aP (tB p l) S] (fun _:Unit=>(.c (bI (Bc.rS l i)),[aP (tB p (Bc.tu l i)) S])) :=
 ax.ju tB.ok tB.ok fun ok e xs hd h=>by
  obtain rfl:=hd.v2;refine (QZ e p l S i h).mono ?_
  rintro en w' ⟨rfl,h1,h2⟩
  exact ⟨_,rfl,h2,h1,RD.v rfl⟩
theorem Tt (p:Value) (l:List (Int × Bool)) (S:List Nat) (i:Int):ax prog 83 [.c (.v p),.c (nI i)] [aP (tB p l) S] (fun _:Unit=>(.c (bI (Bc.qF l i)),[aP (tB p (Bc.oe l i)) S])) :=
 ax.ju tB.ok tB.ok fun ok e xs hd h=>by
  obtain rfl:=hd.v2;refine (Q0 e p l S i h).mono ?_
  rintro en w' ⟨rfl,h1,h2⟩
  exact ⟨_,rfl,h2,h1,RD.v rfl⟩
theorem Tu (p:Value) (l:List (Int × Bool)) (S:List Nat) (i s:Int) (t:Bool):ax prog 57 [.c (.v p),.c (nI i),.c (nI s),.c (bI t)] [aP (tB p l) S] (fun _:Unit=>(.c (bI (Bc.kC l i s)),[aP (tB p (Bc.kY l i s t)) S])) :=
 ax.ju tB.ok tB.ok fun ok e xs hd h=>by
  obtain rfl:=hd.v4;refine (Q1 e p l S i s t h).mono ?_
  rintro en w' ⟨rfl,h1,h2⟩
  exact ⟨_,rfl,h2,h1,RD.v rfl⟩
theorem Tv (n:Int):ax prog 51 [.c (nI n)] [] (fun x:Value × List Nat=>(.c (.v x.1),[aP (tB x.1 (Bc.nu n)) x.2])):=⟨fun ok e xs hd _ _ _=>by
 obtain rfl:=hd.v1;refine (Q4 e n).mono ?_
 rintro en w' ⟨p,S,rfl,h1,h2,h3⟩
 refine ⟨(p,S),p,rfl,by simpa [aT] using h1,fun y hy=>.inr (h3 y (by simpa [aT,aP,ak.bY] using hy)),List.pairwise_singleton _ _,fun r hr=>?_,?_⟩
 ·rw [List.mem_singleton.1 hr];exact (aP.holds tB.ok).2 h2
 ·obtain ⟨b,rfl⟩:=h2.shape;exact RD.v rfl⟩
def tL (p:Value) (l:List Int) (w:World) (S:List Nat):Prop:=kV w p l S
theorem tL.ok {p:Value} {l:List Int}:pG (tL p l):=⟨fun h k hn=>h.aY k hn,fun h=>h.lt⟩
theorem Tw (p:Value) (l:List Int) (S:List Nat) (i:Int):ax prog 68 [.c (.v p),.c (nI i)] [aP (tL p l) S] (fun _:Unit=>(.c (nI (Lt.owner l i)),[aP (tL p l) S])) :=
 ax.ju tL.ok tL.ok fun ok e xs hd h=>by
  obtain rfl:=hd.v2;refine (QN e p l S i h).mono ?_
  rintro en w' ⟨rfl,rfl⟩
  exact ⟨_,rfl,aq.refl _ _,h,RD.v rfl⟩
theorem Lg (p:Value) (l:List Int) (S:List Nat) (i g:Int):ax prog 130 [.c (.v p),.c (nI i),.c (nI g)] [aP (tL p l) S] (fun _:Unit=>(.c (bI (Lt.kW l i g)),[aP (tL p (Lt.kX l i g)) S])) :=
 ax.ju tL.ok tL.ok fun ok e xs hd h=>by
  obtain rfl:=hd.v3;refine (QO e p l S i g h).mono ?_
  rintro en w' ⟨rfl,h1,h2⟩
  exact ⟨_,rfl,h2,h1,RD.v rfl⟩
theorem Tx (p:Value) (l:List Int) (S:List Nat) (i g:Int):ax prog 79 [.c (.v p),.c (nI i),.c (nI g)] [aP (tL p l) S] (fun _:Unit=>(.c (bI (Lt.nt l i g)),[aP (tL p (Lt.oa l i g)) S])) :=
 ax.ju tL.ok tL.ok fun ok e xs hd h=>by
  obtain rfl:=hd.v3;refine (QT e p l S i g h).mono ?_
  rintro en w' ⟨rfl,h1,h2⟩
  exact ⟨_,rfl,h2,h1,RD.v rfl⟩
theorem Ty (n:Int):ax prog 52 [.c (nI n)] [] (fun x:Value × List Nat=>(.c (.v x.1),[aP (tL x.1 (Lt.nu n)) x.2])):=⟨fun ok e xs hd _ _ _=>by
 obtain rfl:=hd.v1;refine (QW e n).mono ?_
 rintro en w' ⟨p,S,rfl,h1,h2,h3⟩
 refine ⟨(p,S),p,rfl,by simpa [aT] using h1,fun y hy=>.inr (h3 y (by simpa [aT,aP,ak.bY] using hy)),List.pairwise_singleton _ _,fun r hr=>?_,?_⟩
 ·rw [List.mem_singleton.1 hr];exact (aP.holds tL.ok).2 h2
 ·obtain ⟨b,rfl⟩:=h2.shape;exact RD.v rfl⟩
end Fl
open Go.RowKit
namespace Fl
open Sx Go.Proofs.Tryz
def tQ (p:Value) (n:Nat) (R:List (List Int)) (w:World) (S:List Nat):Prop:=Qq w p n R S
theorem tQ.ok {p:Value} {n:Nat} {R:List (List Int)}:pG (tQ p n R):=⟨fun h k hn=>h.aY k hn,fun h=>h.lt⟩
theorem Tz (p:Value) (n:Nat) (R:List (List Int)) (S:List Nat) (k:Int):ax prog 110 [.c (.v p),.c (nI k)] [aP (tQ p n R) S] (fun _:Unit=>(.aZ [.c (nI (Qu.first R k).1),.c (bI (Qu.first R k).2)],[aP (tQ p n R) S])) :=
 ax.ju tQ.ok tQ.ok fun ok e xs hd h=>by
  obtain rfl:=hd.v2;refine (Rf e p n R S k h).mono ?_
  rintro en w' ⟨rfl,rfl⟩
  exact ⟨_,rfl,aq.refl _ _,h,RD.zu rfl rfl⟩
theorem TA (p:Value) (n:Nat) (R:List (List Int)) (S:List Nat) (k:Int):ax prog 190 [.c (.v p),.c (nI k)] [aP (tQ p n R) S] (fun _:Unit=>(.c (nI (Qu.row R k).length),[aP (tQ p n R) S])) :=
 ax.ju tQ.ok tQ.ok fun ok e xs hd h=>by
  obtain rfl:=hd.v2;refine (Re e p n R S k h).mono ?_
  rintro en w' ⟨rfl,rfl⟩
  exact ⟨_,rfl,aq.refl _ _,h,RD.v rfl⟩
theorem Fj (p:Value) (n:Nat) (R:List (List Int)) (S:List Nat) (k x:Int):ax prog 107 [.c (.v p),.c (nI k),.c (nI x)] [aP (tQ p n R) S] (fun _:Unit=>(.c (bI (Qu.push n R k x).2),[aP (tQ p n (Qu.push n R k x).1) S])) :=
 ax.ju tQ.ok tQ.ok fun ok e xs hd h=>by
  obtain rfl:=hd.v3;refine (Ri e p n R S k x h).mono ?_
  rintro en w' ⟨rfl,h1,h2⟩
  exact ⟨_,rfl,h1,h2,RD.v rfl⟩
theorem TC (p:Value) (n:Nat) (R:List (List Int)) (S:List Nat) (x:Int):ax prog 111 [.c (.v p),.c (nI x)] [aP (tQ p n R) S] (fun _:Unit=>(.c (bI (Qu.drop R x).2),[aP (tQ p n (Qu.drop R x).1) S])) :=
 ax.ju tQ.ok tQ.ok fun ok e xs hd h=>by
  obtain rfl:=hd.v2;refine (RB e p n R S x h).mono ?_
  rintro en w' ⟨rfl,h1,h2⟩
  exact ⟨_,rfl,h1,h2,RD.v rfl⟩
theorem Lh (p:Value) (n:Nat) (R:List (List Int)) (S:List Nat) (k:Int):ax prog 69 [.c (.v p),.c (nI k)] [aP (tQ p n R) S] (fun _:Unit=>(.c (ints (Qu.row R k)),[aP (tQ p n R) S])) :=
 ax.ju tQ.ok tQ.ok fun ok e xs hd h=>by
  obtain rfl:=hd.v2;refine (SB e p n R S k h).mono ?_
  rintro en w' ⟨v,T,rfl,h1,h2,h3⟩
  refine ⟨_,rfl,h1.mono (by simp),h.then h1,?_⟩;unfold RD;exact RA.ints h2 fun x hx=>⟨.inr (.inr (h3 x hx)),fun hs=>by have:=h.lt x hs;have:=h3 x hx;omega⟩
theorem TD (n m:Nat) (h1:n≤64) (h2:m≤64):ax prog 54 [.c (nI n),.c (nI m)] [] (fun x:Value × List Nat=>(.aZ [.c (.v x.1),.c (nI 0)],[aP (tQ x.1 n (List.replicate m [])) x.2])):=⟨fun ok e xs hd _ _ _=>by
 obtain rfl:=hd.v2;refine (SV e n m h1 h2).mono ?_
 rintro en w' ⟨p,S,rfl,h1,h2⟩
 refine ⟨(p,S),_,rfl,by simpa [aT] using h1.1,fun y hy=>.inr (h1.2 y (by simpa [aT,aP,ak.bY] using hy)),List.pairwise_singleton _ _,fun r hr=>?_,?_⟩
 ·rw [List.mem_singleton.1 hr];exact (aP.holds tQ.ok).2 h2
 ·obtain ⟨b,rfl⟩:=Qq.shape h2;exact RD.zu rfl rfl⟩
def tP (p:Value) (size most:Nat) (s:Po.St) (w:World) (S:List Nat):Prop:=PS w p size most s S
theorem tP.ok {p:Value} {size most:Nat} {s:Po.St}:pG (tP p size most s):=⟨fun h k hn=>Pl.aY h k hn,fun h=>Pl.lt h⟩
theorem TE (p:Value) (size most:Nat) (s:Po.St) (S:List Nat) (g:Int) (v:Po.Inv size most s):ax prog 156 [.c (.v p),.c (nI g)] [aP (tP p size most s) S] (fun S':List Nat=>(.aZ [.c (nI (Po.take size most s g).2.1),.c (bI (Po.take size most s g).2.2)],[aP (tP p size most (Po.take size most s g).1) S'])) :=
 ax.aP (ι:=List Nat) (Ψ:=fun _=>tP p size most (Po.take size most s g).1) (S':=fun S'=>S') (d:=fun _=>.aZ [.c (nI (Po.take size most s g).2.1),.c (bI (Po.take size most s g).2.2)]) tP.ok (fun _=>tP.ok) fun ok e xs hd h=>by
  obtain rfl:=hd.v2;refine (R9 e p size most s S g h v).mono ?_
  rintro en w' ⟨rfl,S',h1,h2,h3⟩
  exact ⟨S',_,rfl,h2,h3,h1,RD.zu rfl rfl⟩
theorem TF (p:Value) (size most:Nat) (s:Po.St) (S:List Nat) (g y:Int) (v:Po.Inv size most s):ax prog 81 [.c (.v p),.c (nI g),.c (nI y)] [aP (tP p size most s) S] (fun S':List Nat=>(.c (bI (Po.cq most s g y).2),[aP (tP p size most (Po.cq most s g y).1) S'])) :=
 ax.aP (ι:=List Nat) (Ψ:=fun _=>tP p size most (Po.cq most s g y).1) (S':=fun S'=>S') (d:=fun _=>.c (bI (Po.cq most s g y).2)) tP.ok (fun _=>tP.ok) fun ok e xs hd h=>by
  obtain rfl:=hd.v3;refine (So e p size most s S g y h v).mono ?_
  rintro en w' ⟨rfl,S',h1,h2,h3⟩
  exact ⟨S',_,rfl,h2,h3,h1,RD.v rfl⟩
theorem TG (p:Value) (size most:Nat) (s:Po.St) (S:List Nat) (hM:s.M.length≤1000):ax prog 60 [.c (.v p)] [aP (tP p size most s) S] (fun _:Unit=>(.c (ints s.M),[aP (tP p size most s) S])) :=
 ax.ju tP.ok tP.ok fun ok e xs hd h=>by
  obtain rfl:=hd.v1;refine (Qv e p _ _ _ _ _ _ _ h hM).mono ?_
  rintro en w' ⟨v,T,rfl,h1,h2,h3⟩
  refine ⟨_,rfl,h1.mono (by simp),Pl.then h h1,?_⟩;unfold RD;exact RA.ints h2 fun x hx=>⟨.inr (.inr (h3 x hx)),fun hs=>by have:=Pl.lt h x hs;have:=h3 x hx;omega⟩
theorem TH (p:Value) (size most:Nat) (s:Po.St) (S:List Nat) (g:Int) (hC:∀ l∈s.C,l.length≤1000):ax prog 65 [.c (.v p),.c (nI g)] [aP (tP p size most s) S] (fun _:Unit=>(.c (ints (Po.cache s.C g)),[aP (tP p size most s) S])) :=
 ax.ju tP.ok tP.ok fun ok e xs hd h=>by
  obtain rfl:=hd.v2;refine (Qy e p _ _ _ _ _ _ _ g h hC).mono ?_
  rintro en w' ⟨v,T,rfl,h1,h2,h3⟩
  refine ⟨_,rfl,h1.mono (by simp),Pl.then h h1,?_⟩;unfold RD;exact RA.ints h2 fun x hx=>⟨.inr (.inr (h3 x hx)),fun hs=>by have:=Pl.lt h x hs;have:=h3 x hx;omega⟩
theorem TI (p:Value) (size most:Nat) (s:Po.St) (S:List Nat):ax prog 61 [.c (.v p)] [aP (tP p size most s) S] (fun _:Unit=>(.c (nI s.f),[aP (tP p size most s) S])) :=
 ax.ju tP.ok tP.ok fun ok e xs hd h=>by
  obtain rfl:=hd.v1;refine (Qr e p _ _ _ _ _ _ _ h).mono ?_
  rintro en w' ⟨rfl,rfl⟩
  exact ⟨_,rfl,aq.refl _ _,h,RD.v rfl⟩
def tR (l:List (Value × Nat × List Int)) (w:World) (S:List Nat):Prop :=
 ∃ Ss:List (List Nat),Ss.length=l.length∧S=Ss.flatten∧Ss.Pairwise (fun A B=>∀ x∈A,x∉B)∧∀ (i:Nat) x Si,l[i]?=some x→Ss[i]?=some Si→Rg w x.1 x.2.1 x.2.2 Si
theorem qH {Ss:List (List Nat)} {i:Nat} {Si:List Nat} (h:Ss[i]?=some Si) {x:Nat} (hx:x∈Si):x∈Ss.flatten:=List.mem_flatten.2 ⟨Si,List.mem_of_getElem? h,hx⟩
theorem tR.ok {l:List (Value × Nat × List Int)}:pG (tR l):=by
 refine ⟨?_,?_⟩
 ·rintro w w' S T ⟨Ss,h1,rfl,h3,h4⟩ k hn
  exact ⟨Ss,h1,rfl,h3,fun i x Si hi hs=>(h4 i x Si hi hs).aY k fun y hy=>hn y (qH hs hy)⟩
 ·rintro w S ⟨Ss,h1,rfl,h3,h4⟩ x hx
  obtain ⟨Si,hs,hx⟩:=List.mem_flatten.1 hx;obtain ⟨i,hi⟩:=List.getElem?_of_mem hs;have hl:i < l.length:=by rw [← h1];exact (List.getElem?_eq_some_iff.1 hi).1
  exact (h4 i _ Si (List.getElem?_eq_getElem hl) hi).lt x hx
theorem TJ {Ss:List (List Nat)} (h:Ss.Pairwise (fun A B=>∀ x∈A,x∉B)) {i j:Nat} {A B:List Nat} (hi:Ss[i]?=some A) (hj:Ss[j]?=some B) (bO:i≠j):∀ x∈B,x∉A:=by
 intro x hx hy;obtain ⟨dR,dx⟩:=List.getElem?_eq_some_iff.1 hi;obtain ⟨ye,fy⟩:=List.getElem?_eq_some_iff.1 hj;rcases Nat.lt_or_gt_of_ne bO with c | c
 ·have:=List.pairwise_iff_getElem.1 h i j dR ye c x (dx ▸ hy);exact this (fy ▸ hx)
 ·have:=List.pairwise_iff_getElem.1 h j i ye dR c x (fy ▸ hx);exact this (dx ▸ hy)
theorem tR.at_ {l:List (Value × Nat × List Int)} {w:World} {S:List Nat} (h:tR l w S) {i:Nat} {p:Value} {N:Nat} {b:List Int} (hi:l[i]?=some (p,N,b)) :
  ∃ Si,Rg w p N b Si∧(∀ x∈Si,x∈S)∧∀ w' b',aq Si w w'→Rg w' p N b' Si→tR (l.set i (p,N,b')) w' S:=by
 obtain ⟨Ss,h1,rfl,h3,h4⟩:=h;have hl:=(List.getElem?_eq_some_iff.1 hi).1;have hs:=List.getElem?_eq_getElem (show i < Ss.length by omega);refine ⟨Ss[i]'(by omega),h4 i _ _ hi hs,fun x hx=>qH hs hx,fun w' b' k hr=>⟨Ss,by simp [h1],rfl,h3,fun j x Sj hj BM=>?_⟩⟩
 by_cases e:i=j
 ·subst e;rw [List.getElem?_set_self hl] at hj
  cases hj;rw [hs] at BM;cases BM;exact hr
 ·rw [List.getElem?_set_ne e] at hj;exact (h4 j x Sj hj BM).aY k (TJ h3 hs BM e)
theorem TK (l:List (Value × Nat × List Int)) (S:List Nat) {i:Nat} {p:Value} {N:Nat} {b:List Int} (hi:l[i]?=some (p,N,b)) (v:Int):ax prog 155 [.c (.v p),.c (nI v)] [aP (tR l) S] (fun _:Unit=>(.c (bI (decide (b.length < N))),[aP (tR (l.set i (p,N,Rn.wQ N b v))) S])) :=
 ax.ju tR.ok tR.ok fun ok e xs hd h=>by
  obtain rfl:=hd.v2;obtain ⟨Si,h1,h2,h3⟩:=h.at_ hi;refine (S4 e p N b Si v h1).mono ?_
  rintro en w' ⟨rfl,k1,k2⟩
  exact ⟨_,rfl,k1.mono (fun x hx=>.inl (h2 x hx)),h3 _ _ k1 k2,RD.v rfl⟩
theorem Lj (l:List (Value × Nat × List Int)) (S:List Nat) {i:Nat} {p:Value} {N:Nat} {b:List Int} (hi:l[i]?=some (p,N,b)):ax prog 66 [.c (.v p)] [aP (tR l) S] (fun _:Unit=>(.c (nI N),[aP (tR l) S])) :=
 ax.ju tR.ok tR.ok fun ok e xs hd h=>by
  obtain rfl:=hd.v1;obtain ⟨Si,h1,h2,h3⟩:=h.at_ hi;refine (S0 e p N b Si h1).mono ?_
  rintro en w' ⟨rfl,rfl⟩
  exact ⟨_,rfl,aq.refl _ _,h,RD.v rfl⟩
theorem TM (l:List (Value × Nat × List Int)) (S:List Nat) {i:Nat} {p:Value} {N:Nat} {b:List Int} (hi:l[i]?=some (p,N,b)):ax prog 172 [.c (.v p)] [aP (tR l) S] (fun _:Unit=>(.c (bI (decide (b.length=N))),[aP (tR l) S])) :=
 ax.ju tR.ok tR.ok fun ok e xs hd h=>by
  obtain rfl:=hd.v1;obtain ⟨Si,h1,h2,h3⟩:=h.at_ hi;refine (Fa e p N b Si h1).mono ?_
  rintro en w' ⟨rfl,m,rfl⟩
  have k:aq [] e (e.drewN m):=(aq.refl [] e).drewN m;exact ⟨_,rfl,k.mono (by simp),tR.ok.aY h k (by simp),RD.v rfl⟩
theorem TN (l:List (Value × Nat × List Int)) (S:List Nat) {i:Nat} {p:Value} {N:Nat} {b:List Int} (hi:l[i]?=some (p,N,b)):ax prog 67 [.c (.v p)] [aP (tR l) S] (fun _:Unit=>(.c (ints b),[aP (tR l) S])) :=
 ax.ju tR.ok tR.ok fun ok e xs hd h=>by
  obtain rfl:=hd.v1;obtain ⟨Si,h1,h2,h3⟩:=h.at_ hi;refine (Ta e p N b Si h1).mono ?_
  rintro en w' ⟨v,T,rfl,k1,k2,k3⟩
  refine ⟨_,rfl,k1.mono (by simp),tR.ok.aY h k1 (by simp),?_⟩;unfold RD;exact RA.ints k2 fun x hx=>⟨.inr (.inr (k3 x hx)),fun hs=>by have:=tR.ok.lt h x hs;have:=k3 x hx;omega⟩
end Fl
open Go.RowKit
namespace Fl
open Sx Go.Proofs.Tryz
structure U where
 vG:Value
 pB:Value
 vR:Value
 vC:Value
 pL:Value
 pQ:Value
 vS:Value
 pP:Value
 bD:Nat
 vM:Value
 TB:List Nat
 TL:List Nat
 TQ:List Nat
 TP:List Nat
 TR:List Nat
 H:List Bool
 rs:Nat→Value
 sg:Nat→Value
 wk:Nat→Value
def pt (b:Nat):Value:=.pointer (some ⟨b,0,none⟩)
def gW (x:Gr) (v u:Value):List A :=
  [.r 6 (x.ops.map dH),nI x.at_,nI x.place,nI 0,bI false,nI x.call,bI x.bz,nI x.param,nI x.aH,nI x.hold,nI x.t,nI x.ic,nI x.bQ,nI x.wi,nI x.dL,
   nI x.res.code,nI x.res.cs,nI x.res.v,bI x.res.ok,nI x.res.n,ints x.order,ints x.aF,.v v,.v u,nI x.k]
def fB (u:U) (s:ah):List (List A):=(List.range s.gs.length).map fun g=>gW (aa s g) (u.sg g) (u.wk g)
def dW (s:ah):A:=.r 1 (s.cG.map fun n=>[.v (.int .u16 n)])
def wW (u:U) (s:ah):List A :=
 [nI s.cV,nI s.bN,nI s.step,.v u.vG,.v u.pB,.v u.vR,.v u.vC,.v u.pL,.v u.pQ,.v u.vS,.v u.pP,.v (pt u.bD),dW s,.v u.vM]
def qW (s:ah):List (List Int):=(List.range 16).map fun k=>if k % 2=0 then (cn s ((k / 2:Nat) + 1)).recv else (cn s ((k / 2:Nat) + 1)).send
def ee (u:U) (s:ah):Po.St:=⟨s.cache,s.middle,s.fresh.toNat,u.H⟩
def lu (u:U) (s:ah):List (Value × Nat × List Int):=(List.range s.au.length).map fun i=>(u.rs i,(cn s (i + 1)).cap.toNat,(cn s (i + 1)).buf)
def dI (l:List Int):List (List A):=l.map fun n=>[nI n]
def iq (u:U) (s:ah):List ak:=((List.range s.gs.length).map fun g=>.row (u.sg g) 3 1 (dI (aa s g).ay)) ++ ((List.range s.gs.length).map fun g=>.row (u.wk g) 3 1 (dI (aa s g).an))
@[reducible] def wd (b:Nat) (u:U) (s:ah):List ak :=
 .box b 81 (wW u s) ::
 .row u.vG 47 25 (fB u s) ::
 .row u.vR 110 1 ((List.range s.au.length).map fun i=>[.v (u.rs i)]) ::
 .row u.vC 4 1 (s.au.map fun c=>[bI c.closed]) ::
 .row u.vS 52 7 (s.aC.map eS) ::
 .row u.vM 54 13 (s.done.map eM) ::
 .box u.bD 145 [dW s,nI s.drawn] ::
 aP (tB u.pB (s.gs.map fun x=>(x.status,x.token))) u.TB ::
 aP (tL u.pL (s.au.map (·.lock))) u.TL ::
 aP (tQ u.pQ s.aC.length (qW s)) u.TQ ::
 aP (tP u.pP s.cV.toNat s.bN.toNat (ee u s)) u.TP ::
 aP (tR (lu u s)) u.TR :: iq u s
section
variable {P:Program} {c:Cx} {k:List Item} {f:Fm} {L L2:List ak}
theorem J.perm (hp:L2.Perm L) (h:J P c k f L2):J P c k f L:=⟨fun a w s=>h.go a w (s.perm hp)⟩
end
section
variable {P:Program} {c:Cx} {k:List Item} {f:Fm} {L L2:List ak}
theorem St.oB {e sz:Nat} {a:Act} {w:World} (s:St c f L a w):St c f (.row (.slice none 0 0) e sz [] :: L) a w:=by
 have hf:aT (.row (.slice none 0 0) e sz [] :: L)=aT L:=by simp [aT,ak.bY,c9]
 have ho:bG c (.row (.slice none 0 0) e sz [] :: L)=bG c L:=by funext x;unfold bG;rw [hf]
 refine ⟨s.kp,s.size,s.jV,fun q hq=>?_,fun x hx=>s.fF x (hf ▸ hx),List.pairwise_cons.2 ⟨fun q _ x hx=>by simp [ak.bY,c9] at hx,s.ap⟩,fun t d ht=>by rw [ho];exact s.fr t d ht⟩;rw [ho];rcases List.mem_cons.1 hq with rfl | hq
 ·exact ⟨[],Row.nil w e sz,rfl⟩
 ·exact s.res q hq
theorem Since.iO {T:List Nat} {L0 L:List ak} {r:ak} {i:Nat} [bx:vl L0 r i] (ht:T.contains i=true):Since T L0 L r.bY:=.there bx.h ht
theorem J.oB (e sz:Nat) (h:J P c k f (.row (.slice none 0 0) e sz [] :: L)):J P c k f L:=⟨fun a w s=>h.go a w s.oB⟩
end
theorem wS (u:U) (s:ah):(fB u s).length=s.gs.length:=by simp [fB]
theorem Lm {u:U} {s:ah} {g:Nat} (hg:g < s.gs.length):(fB u s)[g]?=some (gW (aa s g) (u.sg g) (u.wk g)):=by
 unfold fB;rw [List.getElem?_map,List.getElem?_range hg];rfl
theorem Fk {α:Type} {n g:Nat} {h h':Nat→α} {a:α} (hg:g < n) (e1:h' g=a) (e2:∀ k,k≠g→k < n→h' k=h k):((List.range n).map h).set g a=(List.range n).map h':=by
 apply List.ext_getElem?;intro k;rw [List.getElem?_set,List.getElem?_map,List.getElem?_map]
 by_cases hk:k < n
 ·rw [List.getElem?_range hk]
  by_cases c:g=k
  ·subst c;simp [e1,hg]
  ·rw [if_neg c];simp [e2 k (Ne.symm c) hk]
 ·rw [List.getElem?_eq_none (by simpa using hk)]
  split
  ·rw [if_neg (by simp;omega)];simp
  ·simp
theorem Ln {u u':U} {s:ah} {g:Nat} {x:Gr} {v w:Value} (hg:g < s.gs.length) (e1:u'.sg g=v∧u'.wk g=w) (e2:∀ k,k≠g→u'.sg k=u.sg k∧u'.wk k=u.wk k):(fB u s).set g (gW x v w)=fB u' (ai s g x):=by
 unfold fB;have hl:(ai s g x).gs.length=s.gs.length:=by simp [ai]
 rw [hl];refine Fk hg ?_ fun k hk _=>?_
 ·rw [qE s g g x hg,if_pos rfl,e1.1,e1.2]
 ·rw [qE s g k x hg,if_neg hk,(e2 k hk).1,(e2 k hk).2]
theorem Lp {u:U} {s:ah} {g:Nat} {x:Gr} (hg:g < s.gs.length):(fB u s).set g (gW x (u.sg g) (u.wk g))=fB u (ai s g x):=Ln hg ⟨rfl,rfl⟩ fun _ _=>⟨rfl,rfl⟩
theorem Ls {s:ah} {g:Nat} {x:Gr} (hg:g < s.gs.length):((ai s g x).gs.map fun x=>(x.status,x.token))=(s.gs.map fun x=>(x.status,x.token)).set g (x.status,x.token):=by
 simp [ai,List.map_set]
theorem Lu {s:ah} {g:Nat} {x:Gr} (hg:g < s.gs.length) (e:x.status=(aa s g).status∧x.token=(aa s g).token):((ai s g x).gs.map fun x=>(x.status,x.token))=(s.gs.map fun x=>(x.status,x.token)):=by
 rw [Ls hg,e.1,e.2];have:(s.gs.map fun x=>(x.status,x.token))[g]?=some ((aa s g).status,(aa s g).token):=by
  rw [List.getElem?_map];unfold aa;rw [List.getD_eq_getElem?_getD,List.getElem?_eq_getElem hg];rfl
 exact List.ext_getElem? fun k=>by
  rw [List.getElem?_set]
  split
  ·rename_i c;subst c;rw [this];simp [hg]
  ·rfl
theorem TO {u:U} {s:ah} {g:Nat} (hg:g < s.gs.length):(iq u s)[g]?=some (.row (u.sg g) 3 1 (dI (aa s g).ay)):=by
 unfold iq;rw [List.getElem?_append_left (by simpa using hg),List.getElem?_map,List.getElem?_range hg];rfl
theorem zw {u:U} {s:ah} {g:Nat} (hg:g < s.gs.length):(iq u s)[s.gs.length + g]?=some (.row (u.wk g) 3 1 (dI (aa s g).an)):=by
 unfold iq;rw [List.getElem?_append_right (by simp),List.length_map,List.length_range,show s.gs.length + g - s.gs.length=g by omega,List.getElem?_map,List.getElem?_range hg];rfl
theorem Lv {u:U} {s:ah} {g:Nat} {x:Gr} (hg:g < s.gs.length) (e1:x.ay=(aa s g).ay) (e2:x.an=(aa s g).an):iq u (ai s g x)=iq u s:=by
 unfold iq;have hl:(ai s g x).gs.length=s.gs.length:=by simp [ai]
 rw [hl]
 congr 1
 ·refine List.map_congr_left fun k hk=>?_
  rw [qE s g k x hg];split
  ·rename_i c;subst c;rw [e1]
  ·rfl
 ·refine List.map_congr_left fun k hk=>?_
  rw [qE s g k x hg];split
  ·rename_i c;subst c;rw [e2]
  ·rfl
theorem TS {u:U} {s:ah} {g:Nat} {x:Gr} {v:Value} (hg:g < s.gs.length) (e1:x.ay=(aa s g).ay):(iq u s).set (s.gs.length + g) (.row v 3 1 (dI x.an))=iq { u with wk:=fun k=>if k=g then v else u.wk k } (ai s g x):=by
 unfold iq;have hl:(ai s g x).gs.length=s.gs.length:=by simp [ai]
 rw [hl,List.set_append_right _ _ (by simp),List.length_map,List.length_range,show s.gs.length + g - s.gs.length=g by omega]
 congr 1
 ·refine List.map_congr_left fun k hk=>?_
  rw [qE s g k x hg];split
  ·rename_i c;subst c;rw [e1]
  ·rfl
 ·refine Fk hg ?_ fun k hk _=>?_
  ·simp only [if_true];rw [qE s g g x hg,if_pos rfl]
  ·simp only [if_neg hk];rw [qE s g k x hg,if_neg hk]
end Fl
open Go.RowKit
namespace Fl
open Sx Go.Proofs.Tryz
set_option maxRecDepth 100000
theorem wT {u:U} {s:ah} {g:Nat} (hg:g < s.gs.length):(fB u s)[((g:Int)).toNat]?=some (gW (aa s g) (u.sg g) (u.wk g)):=by rw [Int.toNat_natCast];exact Lm hg
section
variable {P:Program} {c:Cx} {f:Fm} {L:List ak} {T:TypeId} {ps:String} {af:Array Edge} {gd:Option (Nat × Bool)} {t:Nat}
theorem Qt.BN (i:Nat) {x:Operand} {X sz:Nat} {v:Value} {l:List (List A)} {e e' rE:Nat} [ie:fG P X e' rE] (h:aU f x=some (.c (.v v))) (hi:L[i]?=some (.row v e sz l)) {n:Nat} (hn:l.length=n):Qt P c [] ⟨t,.call ⟨.builtin .len,#[x],#[X]⟩,T,ps,af,gd⟩ f L (.c (nI n)):=by
 subst hn;haveI:gJ L v e sz l i:=⟨hi⟩
 exact Qt.yu h
end
@[reducible] def wl (b:Nat) (u:U) (s:ah) (G:List (List A)) (B:List (Int × Bool)) (R:List ak):List ak :=
 .box b 81 (wW u s) ::
 .row u.vG 47 25 G ::
 .row u.vR 110 1 ((List.range s.au.length).map fun i=>[.v (u.rs i)]) ::
 .row u.vC 4 1 (s.au.map fun c=>[bI c.closed]) ::
 .row u.vS 52 7 (s.aC.map eS) ::
 .row u.vM 54 13 (s.done.map eM) ::
 .box u.bD 145 [dW s,nI s.drawn] ::
 aP (tB u.pB B) u.TB ::
 aP (tL u.pL (s.au.map (·.lock))) u.TL ::
 aP (tQ u.pQ s.aC.length (qW s)) u.TQ ::
 aP (tP u.pP s.cV.toNat s.bN.toNat (ee u s)) u.TP ::
 aP (tR (lu u s)) u.TR :: R
theorem Fo {b:Nat} {u:U} {s:ah} {g:Nat} (x:Gr) {G:List (List A)} (hg:g < s.gs.length) (hG:G=(fB u s).set g (gW x (u.sg g) (u.wk g))) (e:x.status=(aa s g).status∧x.token=(aa s g).token:=by exact ⟨rfl,rfl⟩) (e1:x.ay=(aa s g).ay:=by rfl) (e2:x.an=(aa s g).an:=by rfl) :
  wd b u (ai s g x)=wl b u s G (s.gs.map fun x=>(x.status,x.token)) (iq u s):=by
 have h1:=Lp (u:=u) (x:=x) hg;have h2:=Lu hg e;have h3:=Lv (u:=u) hg e1 e2
 show wl b u s (fB u (ai s g x)) ((ai s g x).gs.map fun x=>(x.status,x.token)) (iq u (ai s g x))=_;rw [h2,h3,← h1,hG]
theorem Fp (b:Nat) (u:U) (s:ah) (ch:Int) :
  ax prog 19 [.c (.v (pt b)),.c (nI ch)] (wd b u s) (fun _:Unit=>(.c (bI (aN s ch)),wd b u s)):=by
 refine ax.intro func19 rfl rfl rfl (fun ok e=>?_);have hl:((List.range s.au.length).map fun i=>[A.v (u.rs i)]).length=s.au.length:=by simp
 cases h1:(decide (ch ≥ 1)) with
 | true =>
  have h2:(decide (ch≤(s.au.length:Int)))=aN s ch:=by unfold aN;simp at h1;simp [h1]
  repeat (first | (refine K.bi ?_;refine jq rfl rfl rfl (Qt.BN 2 rfl rfl hl) ?_) | refine gn ?_)
  (exact J.iG func19 rfl (.cons (.tmp rfl) .nil) () (by exact .refl) rfl)
 | false =>
  repeat (refine gn ?_)
  have e1:aN s ch=false:=by unfold aN;simp at h1 ⊢;omega
  rw [e1]
  (exact J.iG func19 rfl (.cons (.tmp rfl) .nil) () (by exact .refl) rfl)
theorem oC (l:List Int):(dI l).length=l.length:=by simp [dI]
theorem Lw (b:Nat) (u:U) (s:ah) (g:Nat) (hg:g < s.gs.length) :
  ax prog 82 [.c (.v (pt b)),.c (nI g)] (wd b u s) (fun _:Unit=>(.aZ [],wd b u (Sx.an s g))):=by
 refine ax.intro func82 rfl rfl rfl (fun ok e=>?_);have OW:∀ x:Int,x=g→0≤x∧x < (fB u s).length:=fun x hx=>by rw [wS];omega
 repeat (first | (refine K.load ?_;((refine jq rfl rfl rfl (Qt.cE rfl ((wT hg)) (by exact rfl)) ?_))) | (refine K.indexAddr ?_;refine jq rfl rfl rfl (Qt.bM rfl rfl (OW _ rfl).1 (OW _ rfl).2) ?_) | (refine K.bi ?_;refine jq rfl rfl rfl (Qt.BN (s.gs.length + g + 12) rfl (zw hg) (oC _)) ?_) | refine gn ?_)
 refine J.cond rfl (fun h=>?_) (fun h=>?_)
 ·have h3:Sx.an s g=Sx.aI s g 17:=by unfold Sx.an;rw [if_pos (by simpa using h)]
  rw [h3]
  repeat (first | (refine K.store ?_;refine JO.ld (Ld.dK rfl rfl (by exact rfl) ((wT hg))) rfl (fun _=>?_)) | (refine K.indexAddr ?_;refine jq rfl rfl rfl (Qt.bM rfl rfl (OW _ rfl).1 (OW _ rfl).2) ?_) | refine gn ?_)
  refine J.fK (Fo { aa s g with place:=17 } hg rfl) ?_
  (exact J.lp func82 rfl .nil () (by exact .refl) rfl)
 ·have h3:Sx.an s g=Sx.aI s g 18:=by unfold Sx.an;rw [if_neg (by simpa using h)]
  rw [h3]
  repeat (first | (refine K.store ?_;refine JO.ld (Ld.dK rfl rfl (by exact rfl) ((wT hg))) rfl (fun _=>?_)) | (refine K.indexAddr ?_;refine jq rfl rfl rfl (Qt.bM rfl rfl (OW _ rfl).1 (OW _ rfl).2) ?_) | refine gn ?_)
  refine J.fK (Fo { aa s g with place:=18 } hg rfl) ?_
  (exact J.lp func82 rfl .nil () (by exact .refl) rfl)
end Fl
open Go.RowKit
namespace Fl
open Sx Go.Proofs.Tryz
set_option maxRecDepth 100000
end Fl
open Go.RowKit
namespace Fl
open Sx Go.Proofs.Tryz
set_option maxRecDepth 100000
theorem TT (l:List Int) (hl:l.length≤100000) :
  ax prog 53 [.c (nr l)] [] (fun b:Nat=>(.c (.v (pt b)),[.box b 145 [nr l,nI 0]])):=by
 refine ax.intro func53 rfl rfl rfl (fun ok e=>?_)
 repeat (first | (refine K.bi ?_;refine JO.ld (Ld.copy (qb rfl) rfl rfl ((by simp))) rfl (fun _=>?_)) | (refine K.make ?_;refine JO.ld (Ld.make (l.length) (qb rfl) rfl rfl (by (rfl)) (by omega)) rfl (fun _=>?_)) | refine av ?_ | intro _)
 refine J.Jt 3 12 0 rfl rfl rfl ?_
 (exact J.iG func53 rfl (.cons (.tmp rfl) .nil) _ (by exact .refl) rfl)
theorem TU (b:Nat) (l:List Int) (a:Int) :
  ax prog 62 [.c (.v (pt b))] [.box b 145 [nr l,nI a]] (fun _:Unit=>(.c (nI a),[.box b 145 [nr l,nI a]])):=by
 refine ax.intro func62 rfl rfl rfl (fun ok e=>?_)
 repeat (refine gn ?_)
 (exact J.iG func62 rfl (.cons (.tmp rfl) .nil) () (by exact .refl) rfl)
theorem Lx (b:Nat) (l:List Int) (a:Int) (h0:0≤a) (h1:a≤l.length) (h2:l.length≤100000) :
  ax prog 127 [.c (.v (pt b))] [.box b 145 [nr l,nI a]] (fun _:Unit=>(.c (nI (l.length - a)),[.box b 145 [nr l,nI a]])):=by
 refine ax.intro func127 rfl rfl rfl (fun ok e=>?_);have w1:IntKind.i64.wrap ((l.length:Int) - a)=l.length - a:=eL (by omega) (by omega)
 repeat (refine gn ?_)
 refine J.draw (by kernel_rfl) rfl ?_;refine JW.base none ?_;refine tk 0 ?_;refine tk 1 ?_;refine tk 2 ?_;refine tk 3 ?_;refine tk 4 ?_;refine tk 5 ?_;refine tk 6 ?_;refine tk 7 ?_;refine tk 8 ?_;refine JD.take 9 rfl rfl (by kernel_rfl) rfl (qb rfl) (Qt.dj rfl rfl rfl w1) rfl ?_;refine tk 10 ?_;refine bt ?_
 repeat (fail)
 (exact J.iG func127 rfl (.cons (.tmp rfl) .nil) () (by exact .refl) rfl)
theorem TV (b:Nat) (l:List Int) (n:Int) (h0:0≤n) (h1:n≤l.length) (h2:l.length≤100000) :
  ax prog 56 [.c (.v (pt b)),.c (nI n)] [.box b 145 [nr l,nI 0]] (fun _:Unit=>(.aZ [],[.box b 145 [nr l,nI n]])):=by
 refine ax.intro func56 rfl rfl rfl (fun ok e=>?_);have c1:(decide (n < 0))=false:=decide_eq_false (by omega);have m1:(if (l.length:Int) - 0 < n then (l.length:Int) - 0 else n)=n:=by rw [if_neg (by omega)]
 have w1:IntKind.i64.wrap (0 + n)=n:=by rw [eL (by omega) (by omega),Int.zero_add]
 repeat (refine gn ?_)
 refine J.draw (by kernel_rfl) rfl ?_;refine JW.iS [0] (some 11) ?_;refine tk 0 ?_;refine tk 1 ?_;refine tk 2 ?_;refine tk 4 ?_;refine tk 5 ?_;refine JD.cU (i:=3) (j:=6) (by kernel_rfl) ?_ ?_
 (refine JS.q rfl rfl rfl (qb rfl) (Qt.fR rfl (by exact rfl)) ?_)
 refine jl 6 rfl rfl rfl rfl (Ld.fQ (Lx b l 0 (by omega) (by omega) h2) (qb rfl) rfl (.cons .refl .nil)) (.m9 rfl) (fun _=>?_);refine jk 7 rfl rfl rfl rfl (Qt.min rfl rfl m1) ?_;refine jk 8 rfl rfl rfl rfl (Qt.dj rfl rfl rfl w1) ?_;refine jk 9 rfl rfl rfl rfl (Qt.nilCheck rfl rfl) ?_;refine jk 10 rfl rfl rfl rfl (Qt.fieldAddr rfl rfl) ?_;refine jt 11 rfl rfl (Ld.cZ rfl rfl (by exact rfl)) (fun _=>?_);refine bS ?_
 rotate_left
 refine JS.cz rfl rfl rfl (qb rfl) (Ld.fQ (Lx b l 0 (by omega) (by omega) h2) (qb rfl) rfl (.cons .refl .nil)) (.m9 rfl) (fun _=>?_);refine JD.lV ?_;refine JD.take 7 rfl rfl (by kernel_rfl) rfl (qb rfl) (Qt.min rfl rfl m1) rfl ?_;refine jk 3 rfl rfl rfl rfl (Qt.fR rfl (by exact rfl)) ?_;refine jk 8 rfl rfl rfl rfl (Qt.dj rfl rfl rfl w1) ?_;refine jk 9 rfl rfl rfl rfl (Qt.nilCheck rfl rfl) ?_;refine jk 10 rfl rfl rfl rfl (Qt.fieldAddr rfl rfl) ?_;refine jt 11 rfl rfl (Ld.cZ rfl rfl (by exact rfl)) (fun _=>?_);refine bS ?_
 rotate_left
 all_goals
  repeat (fail)
  (exact J.lp func56 rfl .nil () (by exact .refl) rfl)
end Fl
open Go.RowKit
namespace Fl
open Sx Go.Proofs.Tryz
set_option maxRecDepth 100000
def sw (p:List (List Pn.Op)):A:=.r 1 (p.map fun ops=>[.r 6 (ops.map dH)])
theorem Ly (p:List (List Pn.Op)) (h1:p.length≤1000) (h2:∀ ops∈p,ops.length≤100000∧∀ o∈ops,o.cases.length≤1000) :
  Pure prog 121 [.c (sw p)] (.c (sw p)):=by
 refine ax.intro func121 rfl rfl rfl (fun ok e=>?_)
 repeat (first | (refine K.make ?_;refine JO.ld (Ld.Qn (p.length) (qb rfl) rfl rfl (by (rfl)) (by omega)) rfl (fun _=>?_)) | refine gn ?_)
 refine J.loop (ι:={ q:Nat × Value // q.1≤p.length }) (fun q=>[(12,.c (sw p)),(13,.c (nI p.length)),(14,.c (nI q.1.1)),(3,.c (.v q.1.2))]) (fun q=>[.row q.1.2 43 1 ((p.take q.1.1).map fun ops=>[.r 6 (ops.map dH)])]) (fun q=>p.length - q.1.1) ⟨(0,_),Nat.zero_le _⟩ (fun X h=>h.aW ⟨rfl,rfl,rfl,rfl,trivial⟩) (fun q ih=>?_);obtain ⟨⟨k,v⟩,hk⟩:=q;simp only at hk ih ⊢
 by_cases aQ:k < p.length
 ·have t1:(decide ((k:Int) < (p.length:Int)))=true:=by simpa using aQ
  obtain ⟨ops,ho⟩:∃ ops,p[k]?=some ops:=⟨_,List.getElem?_eq_getElem aQ⟩
  have J1:(p.map fun ops=>[A.r 6 (ops.map dH)])[((k:Int)).toNat]?=some [A.r 6 (ops.map dH)]:=by rw [Int.toNat_natCast,List.getElem?_map,ho];rfl
  obtain ⟨m1,m2⟩:=h2 ops (List.mem_of_getElem? ho)
  repeat (refine gn ?_)
  refine J.oB 50 6 ?_;refine J.loop (ι:={ q:Nat × Value // q.1≤ops.length }) (fun q=>[(18,.c (.r 6 (ops.map dH))),(19,.c (nI ops.length)),(20,.c (nI q.1.1)),(6,.c (.v q.1.2)),(12,.c (sw p)),(13,.c (nI p.length)),(14,.c (nI k)),(3,.c (.v v))]) (fun q=>[.row q.1.2 50 6 ((ops.take q.1.1).map dH),.row v 43 1 ((p.take k).map fun ops=>[.r 6 (ops.map dH)])]) (fun q=>ops.length - q.1.1) ⟨(0,.slice none 0 0),Nat.zero_le _⟩ (fun X h=>h.aW ⟨rfl,rfl,rfl,rfl,rfl,rfl,rfl,rfl,trivial⟩) (fun q iX=>?_);obtain ⟨⟨j,u⟩,hj⟩:=q;simp only at hj iX ⊢
  by_cases fy:j < ops.length
  ·have t2:(decide ((j:Int) < (ops.length:Int)))=true:=by simpa using fy
   obtain ⟨o,zy⟩:∃ o,ops[j]?=some o:=⟨_,List.getElem?_eq_getElem fy⟩
   have J2:(ops.map dH)[((j:Int)).toNat]?=some (dH o):=by rw [Int.toNat_natCast,List.getElem?_map,zy];rfl
   have m3:=m2 o (List.mem_of_getElem? zy)
   repeat (first | (refine K.bi ?_;first | refine JO.ld (Ld.iT (qb rfl) rfl rfl .read (by (simp;omega))) rfl (fun _=>?_) | ((refine JO.ld (Ld.cA (qb rfl) rfl rfl .cY (by (simp;omega))) rfl (fun _=>?_)))) | refine av ?_ | intro _)
   refine J.eP 1 ?_;refine J.eP 1 ?_;refine J.fK ?_ ((iX ⟨(j + 1,_),by simp only;omega⟩ (by simp only;omega)).aW ⟨rfl,rfl,rfl,rfl,rfl,rfl,rfl,rfl,trivial⟩);rw [List.take_add_one,zy,List.map_append];rfl
  ·have t2:(decide ((j:Int) < (ops.length:Int)))=false:=by simpa using fy
   obtain rfl:j=ops.length:=by omega
   refine J.jY 6 rfl ?_
   repeat (first | (refine K.bi ?_;refine JO.ld (Ld.cA (qb rfl) rfl rfl .cY (by (simp;omega))) rfl (fun _=>?_)) | refine av ?_ | intro _)
   refine J.eP 1 ?_;refine J.fK ?_ ((ih ⟨(k + 1,_),by simp only;omega⟩ (by simp only;omega)).aW ⟨rfl,rfl,rfl,rfl,trivial⟩);rw [List.take_add_one,ho,List.map_append,List.take_of_length_le (Nat.le_refl _)];rfl
 ·have t1:(decide ((k:Int) < (p.length:Int)))=false:=by simpa using aQ
  obtain rfl:k=p.length:=by omega
  rw [List.take_of_length_le (Nat.le_refl _)]
  repeat (refine gn ?_)
  refine J.jY 2 rfl ?_;exact aA func121
theorem TW (L:List ak) (x:Gr) (v w:Value) {i j:Nat} (hi:L[i]?=some (.row v 3 1 (dI x.ay))) (hj:L[j]?=some (.row w 3 1 (dI x.an)))
  (b1:x.ops.length≤100000) (b2:∀ o∈x.ops,o.cases.length≤1000) (b3:x.order.length≤1000) (b4:x.aF.length≤1000) (b5:x.ay.length≤1000) (b6:x.an.length≤1000) :
  ax prog 58 [.agg (gW x v w)] L (fun _:Unit=>(.agg (eG { x with status:=0,token:=false }),L)):=by
 have C1:=Ly [x.ops] (by simp) (by intro ops ho;obtain rfl:=List.mem_singleton.1 ho;exact ⟨b1,b2⟩);haveI qh:gJ L v 3 1 (dI x.ay) i:=⟨hi⟩
 haveI mj:gJ L w 3 1 (dI x.an) j:=⟨hj⟩
 refine ax.intro func58 rfl rfl rfl (fun ok e=>?_);have l5:(dI x.ay).length=x.ay.length:=oC _;have l6:(dI x.an).length=x.an.length:=oC _
 repeat (first | (refine K.indexAddr ?_;refine jx rfl rfl rfl rfl (by omega) (rfl) ?_) | refine aO (C1) ?_ | (refine K.lit ?_;refine JO.ld (Ld.oZ (qb rfl) rfl rfl rfl rfl rfl) rfl (fun _=>?_)) | (refine K.bi ?_;first | refine JO.ld (Ld.iT (qb rfl) rfl rfl .read (by (simp;omega))) rfl (fun _=>?_) | refine JO.ld (Ld.iT (qb rfl) rfl rfl .cY (by (omega))) rfl (fun _=>?_)) | refine av ?_ | intro _)
 (exact J.iN [_,_] rfl func58 rfl (.cons (.cell 0 rfl rfl rfl) .nil) () la rfl)
end Fl
open Go.RowKit
namespace Fl
open Sx Go.Proofs.Tryz
set_option maxRecDepth 100000
structure Fw (s:ah):Prop where
 gs:s.gs.length≤8
 ch:s.au.length≤8
 su:s.aC.length≤64
 dn:s.done.length≤100000
 dr:s.cG.length≤100000
 cl:s.cache.length=s.gs.length
 cb:∀ l∈s.cache,l.length≤1000
 mb:s.middle.length≤1000
 fr:0≤s.fresh
 cp:∀ c∈s.au,0≤c.cap
 op:∀ x∈s.gs,x.ops.length≤100000∧∀ o∈x.ops,o.cases.length≤1000
 Lz:∀ x∈s.gs,x.order.length≤1000∧x.aF.length≤1000∧x.ay.length≤1000∧x.an.length≤1000
theorem LA (ch:Int) (h0:0≤ch) (h1:ch≤100000):Pure prog 70 [.c (nI ch)] (.c (nI (2 * ch - 2))):=by
 refine ax.intro func70 rfl rfl rfl (fun ok e=>?_)
 repeat (refine gn ?_)
 exact aA func70
theorem LB (ch:Int) (h0:0≤ch) (h1:ch≤100000):Pure prog 71 [.c (nI ch)] (.c (nI (2 * ch - 1))):=by
 refine ax.intro func71 rfl rfl rfl (fun ok e=>?_)
 repeat (refine gn ?_)
 exact aA func71
theorem Fq {s:ah} {k:Nat} (hk:k < s.gs.length):Bc.status (s.gs.map fun x=>(x.status,x.token)) (k:Int)=(aa s k).status:=by
 have h:(aa s k)=s.gs[k]:=by unfold aa;rw [List.getD_eq_getElem?_getD,List.getElem?_eq_getElem hk];rfl
 unfold Bc.status Bc.has Bc.mem;simp [hk,h]
theorem TX {s:ah} {k:Nat} (hk:k < s.gs.length):Bc.token (s.gs.map fun x=>(x.status,x.token)) (k:Int)=(aa s k).token:=by
 have h:(aa s k)=s.gs[k]:=by unfold aa;rw [List.getD_eq_getElem?_getD,List.getElem?_eq_getElem hk];rfl
 unfold Bc.token Bc.has Bc.mem;simp [hk,h]
theorem oD {s:ah} {k:Nat} (hk:k < s.au.length):s.au[k]?=some (cn s ((k:Int) + 1)):=by
 unfold cn;rw [show ((k:Int) + 1 - 1).toNat=k by omega,List.getD_eq_getElem?_getD,List.getElem?_eq_getElem hk];rfl
theorem TY {s:ah} {k:Nat} (hk:k < s.au.length):Lt.owner (s.au.map (·.lock)) (k:Int)=(cn s ((k:Int) + 1)).lock:=by
 have h:=oD hk;unfold Lt.owner Lt.has;rw [List.getElem?_eq_getElem hk] at h;simp at h;simp [hk,h]
theorem wU {u:U} {s:ah} {k:Nat} (hk:k < s.au.length):(lu u s)[k]?=some (u.rs k,(cn s ((k:Int) + 1)).cap.toNat,(cn s ((k:Int) + 1)).buf):=by
 unfold lu;rw [List.getElem?_map,List.getElem?_range hk];rfl
theorem BO {s:ah} {k:Nat} (hk:k < 8):Qu.row (qW s) (2 * ((k:Int) + 1) - 2)=(cn s ((k:Int) + 1)).recv:=by
 have e:2 * ((k:Int) + 1) - 2=((2 * k:Nat):Int):=by omega
 have l:(qW s).length=16:=by simp [qW]
 unfold Qu.row Qu.line;rw [e,l,if_pos (by simp;omega),Int.toNat_natCast];unfold qW;rw [List.getD_eq_getElem?_getD,List.getElem?_map,List.getElem?_range (by omega)];simp
theorem Fs {s:ah} {k:Nat} (hk:k < 8):Qu.row (qW s) (2 * ((k:Int) + 1) - 1)=(cn s ((k:Int) + 1)).send:=by
 have e:2 * ((k:Int) + 1) - 1=((2 * k + 1:Nat):Int):=by omega
 have l:(qW s).length=16:=by simp [qW]
 unfold Qu.row Qu.line;rw [e,l,if_pos (by simp;omega),Int.toNat_natCast];unfold qW;rw [List.getD_eq_getElem?_getD,List.getElem?_map,List.getElem?_range (by omega)];have h1:(2 * (k:Int) + 1) / 2=k:=by omega
 simp [h1]
theorem TZ {s:ah} {k:Nat} (hk:k < s.cache.length):s.cache[k]?=some (Po.cache s.cache (k:Int)):=by
 unfold Po.cache Po.ko;simp [hk]
def Ft (s:ah) (g c k:A):List A:=[nI s.cV,nI s.bN,nI s.step,g,c,.r 7 (s.aC.map eS),k,ints s.middle,nI s.fresh,nr s.cG,nI s.drawn,.r 13 (s.done.map eM)]
end Fl
end Go.Proofs.YtofnbflkhgammaaGreat
