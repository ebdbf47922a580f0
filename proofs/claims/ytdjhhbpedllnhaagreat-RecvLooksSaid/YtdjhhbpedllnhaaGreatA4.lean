/-
  What the laws need, part A4.
  Conditions: none.
-/
import Derived.Test.YtdjhhbpedllnhaaGreatA3
set_option linter.unusedVariables false
set_option linter.unusedSimpArgs false
set_option linter.unnecessarySimpa false
set_option maxHeartbeats 2000000
namespace Go.Proofs.YtdjhhbpedllnhaaGreat
open Go.RowKit
namespace Fl
theorem oS (L M:List an) (x:Nat):x∈bq (L ++ M)↔x∈bq L∨x∈bq M:=by simp [bq]
def iR (f:Fm):List Operand→Option (List D)
 | []=>some []
 | x :: xs=>match bg f x,iR f xs with
  | some d,some ds=>some (d :: ds)
  | _,_=>none
section
variable {P:Program} {c:Cx} {k:List Item} {f:Fm} {L:List an} {ops:Array Oper} {l:List Oper} {o:Oper} {T X:TypeId} {ps:String} {af:Array Edge} {gd:Option (Nat × Bool)} {t:Nat}
theorem St.IS {a:Act} {w:World} (s:St c f L a w):∀ {xs:List Operand} {ds:List D},iR f xs=some ds→ck (bF c L) w ds (xs.map a.eval)
 | [],ds,h=>by simp [iR] at h;subst h;exact ck.nil
 | x :: xs,ds,h=>by
  unfold iR at h
  cases h1:bg f x with
  | none=>rw [h1] at h;cases h
  | some d =>
   cases h2:iR f xs with
   | none=>rw [h1,h2] at h;cases h
   | some wE=>rw [h1,h2] at h;cases h;exact ck.cons (s.ev h1) (St.IS s h2)
theorem Qn {F:FuncId} (h:DQ P F=true) (args:Array Value) (w:World):(callFunc F args).run P w=.ok (.enter F args) w:=by
 unfold DQ at h
 cases hf:P.funcs[F]? with
 | none=>rw [hf] at h;cases h
 | some fn =>
  rw [hf] at h;simp at h;have h2:fn.body≠none:=by intro hb;simp [hb] at h
  simp [callFunc,Sem.run_bind,hf,h.1,h2]
theorem Ld.call {F:FuncId} {args:List Operand} {tys:Array TypeId} {dB ds:List D} {Ll Lr:List an} {ι:Type} {post:ι→D × List an} [i:aJ P F] (hC:av P F ds Ll post) (ht:t < c.N) (h:iR f args=some dB) (hle:aW dB ds) (hL:L=Ll ++ Lr) :
  Ld P c ⟨some t,.call ⟨.value (.func F),args.toArray,tys⟩,T,ps,af,gd⟩ f L (bq Ll) (fun i=>(t,(post i).1) :: f) (fun i=>(post i).2 ++ Lr):=⟨fun a w s K Q hK=>by
 have Qo:=hle.rep (s.IS h);have gJ:(execOp a.eval ⟨some t,.call ⟨.value (.func F),args.toArray,tys⟩,T,ps,af,gd⟩).run P w=.ok (.enter F (args.map a.eval).toArray) w:=by
  simp [execOp,resolve,Deferred.ofValue,invoke,Act.eval,Sem.run_bind,Qn i.h]
 unfold Oper.wp;rw [gJ];have oT:=List.pairwise_append.1 (show List.Pairwise _ (Ll ++ Lr) from hL ▸ s.ap);have Qp:∀ r∈Ll,r∈L:=fun r hr=>hL ▸ List.mem_append_left Lr hr
 have Qr:∀ r∈Lr,r∈L:=fun r hr=>hL ▸ List.mem_append_right Ll hr
 have lp:∀ x,x∈bq Ll→x∈bq L:=fun x hx=>by rw [hL,oS];exact .inl hx
 have qj:∀ x,x∈bq Lr→x∈bq L:=fun x hx=>by rw [hL,oS];exact .inr hx
 have rG:∀ x,x∈bq Ll→x∉bq Lr:=fun x hx fN=>by
  obtain ⟨q,hq,h1⟩:=dz.1 hx;obtain ⟨r,hr,h2⟩:=dz.1 fN;exact oT.2.2 q hq r hr x h1 h2
 refine Calls.mono (hC.go (bF c L) w (args.map a.eval) Qo (fun r hr=>s.res r (Qp r hr)) oT.1 (fun x hx ho=>ho.2 (lp x hx))) ?_
 rintro en w' ⟨i,x,rfl,kp,g1,g2,g3,g4⟩
 have j7:∀ g,g < w'.heap.size→mJ (bF c L) w Ll (post i).2 g→bF c ((post i).2 ++ Lr) g:=fun g _ hg=>by
  obtain ⟨hg,hn⟩:=hg;rcases hg with hg | hg | hg
  ·exact ⟨hg.1,fun hx=>by rcases (oS _ _ _).1 hx with hx | hx;exact hn hx;exact hg.2 (qj g hx)⟩
  ·exact ⟨.inr (s.fL g (lp g hg)),fun hx=>by rcases (oS _ _ _).1 hx with hx | hx;exact hn hx;exact rG g hg hx⟩
  ·exact ⟨.inr (.inr (Nat.le_trans s.kp.size hg)),fun hx=>by
    rcases (oS _ _ _).1 hx with hx | hx
    ·exact hn hx
    ·have:=s.lt g (qj g hx);omega⟩
 have m1:Mon (mJ (bF c L) w Ll (post i).2) (bF c ((post i).2 ++ Lr)) w' w':=⟨Nat.le_refl _,fun g hg ho=>⟨j7 g hg ho,rfl⟩⟩
 have mg:∀ y,y∈bq (post i).2→y∈bq Ll∨w.heap.size≤y:=g1;have m2:Mon (bF c L) (bF c ((post i).2 ++ Lr)) w w':=Mon.lV kp fun g hg ho=>⟨⟨ho.1,fun hx=>by
  rcases (oS _ _ _).1 hx with hx | hx
  ·rcases mg g hx with h | h
   ·exact ho.2 (lp g h)
   ·omega
  ·exact ho.2 (qj g hx)⟩,fun hx=>ho.2 (lp g hx)⟩
 refine hK i _ _ kp (s.put ht (RD.cY m1 _ _ g4) (s.kp.trans kp (fun x hx=>s.fL x (lp x hx))) ?_ ?_ ?_ m2) (fun y hy=>by
  rcases (oS _ _ _).1 hy with hy | hy
  ·rcases mg y hy with h | h
   ·exact .inl (lp y h)
   ·exact .inr h
  ·exact .inl (qj y hy))
 ·intro q hq;rcases List.mem_append.1 hq with hq | hq
  ·exact (g3 q hq).cY (aq.refl [] w') m1 (by simp)
  ·exact (s.res q (Qr q hq)).cY kp m2 (fun x hx fN=>rG x fN (dz.2 ⟨q,hq,hx⟩))
 ·intro x hx;rcases (oS _ _ _).1 hx with hx | hx
  ·rcases mg x hx with h | h
   ·exact s.fL x (lp x h)
   ·exact .inr (Nat.le_trans s.kp.size h)
  ·exact s.fL x (qj x hx)
 ·refine List.pairwise_append.2 ⟨g2,oT.2.1,fun q hq r hr x hx fN=>?_⟩;have rH:x∈bq Lr:=dz.2 ⟨r,hr,fN⟩;rcases mg x (dz.2 ⟨q,hq,hx⟩) with h | h
  ·exact rG x h rH
  ·have:=s.lt x (qj x rH);omega⟩
theorem JO.alloc {zs:List Value} [i:aX P X zs] (hw:ee ops ⟨some t,.alloc X,T,ps,af,gd⟩ f=true) (ht:t < c.N) (h:∀ b,JO P c ops l k ((t,.c (.v (.pointer (some ⟨b,0,none⟩)))) :: f) (.box b X (vs zs) :: L)):JO P c ops (⟨some t,.alloc X,T,ps,af,gd⟩ :: l) k f L :=
 JO.ld (Ld.alloc ht) hw h
theorem JO.box {x:Operand} {d:D} {cs:List A} (hw:ee ops ⟨some t,.box X x,T,ps,af,gd⟩ f=true) (ht:t < c.N) (hx:bg f x=some d) (hc:iz d=some cs) (h:∀ b,JO P c ops l k ((t,.c (.v (.pointer (some ⟨b,0,none⟩)))) :: f) (.box b X cs :: L)):JO P c ops (⟨some t,.box X x,T,ps,af,gd⟩ :: l) k f L :=
 JO.ld (Ld.box ht hx hc) hw h
theorem Ld.bh {x y:Operand} {b n B i:Nat} {cs es:List A} {d:D} {L':List an} [it:fE P X n] [bx:lY L b B cs i] [st:lZ L i (.box b B es) L'] (hx:bg f x=some (.c (.v (.pointer (some ⟨b,0,none⟩))))) (hy:bg f y=some d) (hd:iz d=some es) (hn:es.length=n) (hl:cs.length=n) :
  Ld P c ⟨none,.store X x y,T,ps,af,gd⟩ f L [b] (fun _:Unit=>f) (fun _=>L'):=by
 have h:=Ld.DR (P:=P) (c:=c) (T:=T) (X:=X) (ps:=ps) (af:=af) (gd:=gd) i hx bx.h hy hd hn (by rw [hl,Nat.zero_add];exact Nat.ble_self_eq_true _);rw [IG (hn.trans hl.symm),st.h] at h;exact h
theorem Ld.di {x y:Operand} {b o B i:Nat} {cs:List A} {e:A} {L':List an} [it:fE P X 1] [bx:lY L b B cs i] [st:lZ L i (.box b B (cs.set o e)) L'] (hx:bg f x=some (.c (.v (.pointer (some ⟨b,o,none⟩))))) (hy:bg f y=some (.c e)) (hl:Nat.ble (o + 1) cs.length=true) :
  Ld P c ⟨none,.store X x y,T,ps,af,gd⟩ f L [b] (fun _:Unit=>f) (fun _=>L'):=by
 have h:=Ld.DR (P:=P) (c:=c) (T:=T) (X:=X) (ps:=ps) (af:=af) (gd:=gd) i hx bx.h hy rfl rfl hl;rw [II (Nat.le_of_ble_eq_true hl),st.h] at h;exact h
theorem Ld.rI {x y:Operand} {b o n B i:Nat} {cs es:List A} {d:D} {L':List an} [it:fE P X n] [bx:lY L b B cs i] [st:lZ L i (.box b B (jn cs o es)) L'] (hx:bg f x=some (.c (.v (.pointer (some ⟨b,o,none⟩))))) (hy:bg f y=some d) (hd:iz d=some es) (hn:es.length=n) (hl:Nat.ble (o + n) cs.length=true) :
  Ld P c ⟨none,.store X x y,T,ps,af,gd⟩ f L [b] (fun _:Unit=>f) (fun _=>L'):=by
 have h:=Ld.DR (P:=P) (c:=c) (T:=T) (X:=X) (ps:=ps) (af:=af) (gd:=gd) i hx bx.h hy hd hn hl;rw [st.h] at h;exact h
theorem Ld.gz {x y:Operand} {v:Value} {sz q e i:Nat} {ll:List (List A)} {es:List A} {d:D} {L':List an} [it:fE P X sz] [bx:gU L v e sz ll i] [st:lZ L i (.row v e sz (ll.set q es)) L'] (hx:bg f x=some (.ow v sz q 0)) (hy:bg f y=some d) (hd:iz d=some es) (hn:es.length=sz) (hq:q < ll.length) :
  Ld P c ⟨none,.store X x y,T,ps,af,gd⟩ f L (dx v) (fun _:Unit=>f) (fun _=>L'):=⟨fun a w s=>by
 obtain ⟨xs,h1,h2⟩:=s.res _ (List.mem_of_getElem? bx.h);have hl:=RX.DS h2 (List.getElem?_eq_getElem hq);have h:=Ld.DT (P:=P) (c:=c) (T:=T) (X:=X) (ps:=ps) (af:=af) (gd:=gd) i hx bx.h (List.getElem?_eq_getElem hq) hy hd hn (by rw [Nat.zero_add];exact Nat.ble_self_eq_true _);rw [IG (hn.trans hl.symm),st.h] at h;exact h.go a w s⟩
theorem Ld.bQ {x y:Operand} {v:Value} {sz q o e i:Nat} {ll:List (List A)} {cs:List A} {u:A} {L':List an} [it:fE P X 1] [bx:gU L v e sz ll i] [st:lZ L i (.row v e sz (ll.set q (cs.set o u))) L'] (hx:bg f x=some (.ow v sz q o)) (hy:bg f y=some (.c u)) (hl:Nat.ble (o + 1) sz=true) (hq:ll[q]?=some cs) :
  Ld P c ⟨none,.store X x y,T,ps,af,gd⟩ f L (dx v) (fun _:Unit=>f) (fun _=>L'):=⟨fun a w s=>by
 obtain ⟨xs,h1,h2⟩:=s.res _ (List.mem_of_getElem? bx.h);have hle:=RX.DS h2 hq;have h:=Ld.DT (P:=P) (c:=c) (T:=T) (X:=X) (ps:=ps) (af:=af) (gd:=gd) i hx bx.h hq hy rfl rfl hl;rw [II (by have:=Nat.le_of_ble_eq_true hl;omega),st.h] at h;exact h.go a w s⟩
theorem Ld.qm {x y:Operand} {v:Value} {sz q o e n i:Nat} {ll:List (List A)} {cs es:List A} {d:D} {L':List an} [it:fE P X n] [bx:gU L v e sz ll i] [st:lZ L i (.row v e sz (ll.set q (jn cs o es))) L'] (hx:bg f x=some (.ow v sz q o)) (hy:bg f y=some d) (hd:iz d=some es) (hn:es.length=n) (hl:Nat.ble (o + n) sz=true) (hq:ll[q]?=some cs) :
  Ld P c ⟨none,.store X x y,T,ps,af,gd⟩ f L (dx v) (fun _:Unit=>f) (fun _=>L'):=by
 have h:=Ld.DT (P:=P) (c:=c) (T:=T) (X:=X) (ps:=ps) (af:=af) (gd:=gd) i hx bx.h hq hy hd hn hl;rw [st.h] at h;exact h
theorem Ld.pure {F:FuncId} {args:List Operand} {tys:Array TypeId} {dB ds:List D} {d:D} [i:aJ P F] (hC:Pure P F ds d) (ht:t < c.N) (h:iR f args=some dB) (hle:aW dB ds) :
  Ld P c ⟨some t,.call ⟨.value (.func F),args.toArray,tys⟩,T,ps,af,gd⟩ f L [] (fun _:Unit=>(t,d) :: f) (fun _=>L):=Ld.call hC ht h hle (Ll:=[]) (Lr:=L) rfl
theorem JO.gR {e sz:Nat} [i:fM P X e sz] (hw:ee ops ⟨some t,.buildSlice X 0 #[],T,ps,af,gd⟩ f=true) (ht:t < c.N) (h:∀ b,JO P c ops l k ((t,.c (.v (.slice (some ⟨b,0,none⟩) 0 0))) :: f) (.row (.slice (some ⟨b,0,none⟩) 0 0) e sz [] :: L)):JO P c ops (⟨some t,.buildSlice X 0 #[],T,ps,af,gd⟩ :: l) k f L :=
 JO.ld (Ld.gR ht) hw h
theorem JO.fO {e sz:Nat} {x:Operand} {d:D} {cs:List A} {zs:List Value} [i:fM P X e sz] [z:aX P e zs] (hw:ee ops ⟨some t,.buildSlice X 1 #[(0,x)],T,ps,af,gd⟩ f=true) (ht:t < c.N) (hx:bg f x=some d) (hc:iz d=some cs) (hn:cs.length=sz) (h0:Nat.ble 1 sz=true) (hs:Nat.ble sz 1000=true)
  (h:∀ b,JO P c ops l k ((t,.c (.v (.slice (some ⟨b,0,none⟩) 1 1))) :: f) (.row (.slice (some ⟨b,0,none⟩) 1 1) e sz [cs] :: L)):JO P c ops (⟨some t,.buildSlice X 1 #[(0,x)],T,ps,af,gd⟩ :: l) k f L :=
 JO.ld (Ld.fO ht hx hc hn h0 hs) hw h
theorem JO.call {F:FuncId} {args:List Operand} {tys:Array TypeId} {dB ds:List D} {Ll Lr:List an} {ι:Type} {post:ι→D × List an} [i:aJ P F] (hC:av P F ds Ll post) (hw:ee ops ⟨some t,.call ⟨.value (.func F),args.toArray,tys⟩,T,ps,af,gd⟩ f=true) (ht:t < c.N) (h:iR f args=some dB) (hle:aW dB ds) (hL:L=Ll ++ Lr)
  (hk:∀ i,JO P c ops l k ((t,(post i).1) :: f) ((post i).2 ++ Lr)):JO P c ops (⟨some t,.call ⟨.value (.func F),args.toArray,tys⟩,T,ps,af,gd⟩ :: l) k f L :=
 JO.ld (Ld.call hC ht h hle hL) hw hk
theorem JO.pure {F:FuncId} {args:List Operand} {tys:Array TypeId} {dB ds:List D} {d:D} [i:aJ P F] (hC:Pure P F ds d) (hw:ee ops ⟨some t,.call ⟨.value (.func F),args.toArray,tys⟩,T,ps,af,gd⟩ f=true) (ht:t < c.N) (h:iR f args=some dB) (hle:aW dB ds)
  (hk:JO P c ops l k ((t,d) :: f) L):JO P c ops (⟨some t,.call ⟨.value (.func F),args.toArray,tys⟩,T,ps,af,gd⟩ :: l) k f L :=
 JO.call hC hw ht h hle (Ll:=[]) (Lr:=L) rfl fun _=>hk
theorem J.wF (i j n:Nat) {v:Value} {e:TypeId} {sz:Nat} {ll:List (List A)} {b:Nat} {B:TypeId} {cs:List A} (hi:L[i]?=some (.row v e sz ll)) (hj:L[j]?=some (.box b B cs)) (hc:cs[n]?=some (.v v))
  (h:J P c k f ((L.set j (.box b B (cs.set n (.r sz ll)))).eraseIdx i)):J P c k f L:=⟨fun a w s=>by
 have bG:i≠j:=fun e=>by subst e;rw [hi] at hj;cases hj
 have cJ:=(List.getElem?_eq_some_iff.1 hj).1;have hm:∀ q,q∈L.eraseIdx i→q∈L:=fun q hq=>List.mem_of_mem_eraseIdx hq
 have ho:∀ q∈L.eraseIdx i,∀ x∈q.bT,x∉dx v:=fun q hq x hx fN=>by
  obtain ⟨m,ta⟩:=List.mem_iff_getElem?.1 hq;rw [List.getElem?_eraseIdx] at ta
  split at ta
  ·exact fq.ne s.ap hi ta (by omega) x fN hx
  ·exact fq.ne s.ap hi ta (by omega) x fN hx
 have hf:∀ x,x∈bq (L.eraseIdx i)→x∈bq L:=fun x hx=>by
  obtain ⟨q,hq,hx⟩:=dz.1 hx;exact dz.2 ⟨q,hm q hq,hx⟩
 have mo:Mon (bF c L) (bF c (L.eraseIdx i)) w w:=⟨Nat.le_refl _,fun g _ hg=>⟨⟨hg.1,fun hx=>hg.2 (hf g hx)⟩,rfl⟩⟩
 have s1:St c f (L.eraseIdx i) a w:=⟨s.kp,s.size,s.j5,fun q hq=>(s.res q (hm q hq)).cY (aq.refl [] w) mo (by simp),fun x hx=>s.fL x (hf x hx),s.ap.sublist (List.eraseIdx_sublist L i),fun t d ht=>RD.cY mo d _ (s.fr t d ht)⟩
 obtain ⟨xs,r1,r2⟩:=s.res _ (List.mem_of_getElem? hi);have hR:RA (bF c (L.eraseIdx i)) w (.r sz ll) v:=RA.Bp r1.view (RX.cY mo _ _ r2) fun g hg=>⟨.inr (s.fL g (dz.2 ⟨_,List.mem_of_getElem? hi,hg⟩)),fun hx=>by
  obtain ⟨q,hq,l9⟩:=dz.1 hx;exact ho q hq g l9 hg⟩
 have Qv:∃ j',(L.eraseIdx i)[j']?=some (.box b B cs)∧(L.set j (.box b B (cs.set n (.r sz ll)))).eraseIdx i=(L.eraseIdx i).set j' (.box b B (cs.set n (.r sz ll))):=by
  by_cases rJ:j < i
  ·refine ⟨j,by rw [List.getElem?_eraseIdx,if_pos rJ];exact hj,?_⟩;apply List.ext_getElem?;intro m;rw [List.getElem?_eraseIdx,List.getElem?_set,List.getElem?_set,List.getElem?_set,List.getElem?_eraseIdx,List.length_eraseIdx];have lu:=(List.getElem?_eq_some_iff.1 hi).1
   split <;> split <;> (try split) <;> (try split) <;> (try split) <;> first | rfl | omega
  ·refine ⟨j - 1,by rw [List.getElem?_eraseIdx,if_neg (by omega),show j - 1 + 1=j by omega];exact hj,?_⟩;apply List.ext_getElem?;intro m;rw [List.getElem?_eraseIdx,List.getElem?_set,List.getElem?_set,List.getElem?_set,List.getElem?_eraseIdx,List.length_eraseIdx];have lu:=(List.getElem?_eq_some_iff.1 hi).1
   split <;> split <;> (try split) <;> (try split) <;> (try split) <;> first | rfl | omega
 obtain ⟨j',e1,e2⟩:=Qv;rw [e2] at h;obtain ⟨vs,b1,b2⟩:=s1.res _ (List.mem_of_getElem? e1);refine h.go a w (s1.set e1 rfl (aq.refl _ w) ⟨vs,b1,?_⟩);have cP:=b2.get n (by exact hc);obtain ⟨x,hx,IT⟩:=cP;unfold RA at IT;obtain ⟨rfl,_⟩:=IT;have:=RC.set n b2 hR;have e3:vs.set n x=vs:=by
  apply List.ext_getElem?;intro m;rw [List.getElem?_set]
  split
  ·rename_i e;subst e
   split
   ·exact hx.symm
   ·rename_i hn;rw [List.getElem?_eq_none (by omega)] at hx;cases hx
  ·rfl
 rw [e3] at this;exact this⟩
end
end Fl
open Go.RowKit
namespace Fl
section
variable {P:Program} {ops:Array Oper} {Q:Exit→Act→World→Prop} {md:Region.Mode} {S:World→Prop} {m:Option Nat}
def Gx (P:Program) (md:Region.Mode) (ops:Array Oper) (Q:Exit→Act→World→Prop) (S:World→Prop) (m:Option Nat):Nat→Array Bool→Act→World→Prop
 | 0,aM,a,w=>Region.ready md ops aM=[]∧Q .normal a w
 | n + 1,aM,a,w=>(Region.ready md ops aM=[]→Q .normal a w) ∧
  ∀ i∈Region.ready md ops aM,wpOp P ops Q i (fun a' w'=>(some i=m∧wpAny P md ops Q n (aM.setIfInBounds i true) a' w')∨(S w'∧Gx P md ops Q S m n (aM.setIfInBounds i true) a' w')) a w
theorem Gx.any:∀ (n:Nat) (aM:Array Bool) (a:Act) (w:World),Gx P md ops Q S m n aM a w→wpAny P md ops Q n aM a w
 | 0,_,_,_,h=>h
 | n + 1,_,_,_,h=>⟨h.1,fun i hi=>wpOp_mono (fun a' w' h'=>h'.elim (·.2) (fun h'=>Gx.any n _ a' w' h'.2)) (h.2 i hi)⟩
def DY (md:Region.Mode) (ops:Array Oper) (m:Option Nat) (i:Nat):Bool:=match m with
 | none=>true
 | some j=>waitsFor md ops j i
theorem Gx.first {i:Nat} {oi:Oper} {v:Value} (hi:ops[i]?=some oi) (uK:∀ (j:Nat) (o:Oper) cs b,ops[j]?=some o→o.op≠.select cs b) (hQ:∀ c a w,Q (.panic c) (a.put oi.dst v) w→Q (.panic c) a w) (hm:DY md ops m i=true) :
  ∀ (n:Nat) (aM:Array Bool) (a:Act) (w:World),(∀ (j:Nat) oj,ops[j]?=some oj→j≠i→aM.getD j true=false→(∀ e∈oj.after,Region.binds md e=true→e.on≠i)→oi.apart ops oj=true) →
   i∈Region.ready md ops aM→YieldsIf P ops S oi v a→S w→Gx P md ops Q S m n (aM.setIfInBounds i true) (a.put oi.dst v) w→Gx P md ops Q S m (n + 1) aM a w
 | n,aM,a,w,yu,hr,hy,hS,H=>by
  refine ⟨fun h=>(by rw [h] at hr;cases hr),fun j hj=>?_⟩
  by_cases mh:j=i
  ·subst mh;exact hy.wpOp hi hS (.inr ⟨hS,H⟩)
  ·cases n with
   | zero =>
    have:=ready_mono hj mh;rw [H.1] at this
    cases this
   | succ n =>
    obtain ⟨yw,oj,oe,kZ⟩:=mem_ready.1 hj;have qn:=DN hr kZ;have nt:some j≠m:=fun e=>by
     subst e;unfold DY waitsFor at hm;simp only at hm;rw [oe] at hm;obtain ⟨x,hx,hp⟩:=Array.any_eq_true'.1 hm;simp only [Bool.and_eq_true,beq_iff_eq] at hp;exact qn x hx hp.2 hp.1
    have h2:=wpOp_putIf oe (yu j oj oe mh yw qn) (fun cs b=>uK i oi cs b hi) (fun cs b=>uK j oj cs b oe) hQ hy (H.2 j (ready_mono hj mh));have gB:i∈Region.ready md ops (aM.setIfInBounds j true):=ready_mono hr (Ne.symm mh);refine wpOp_mono (fun a' w' h3=>?_) h2;have DZ:=Array.setIfInBounds_comm (xs:=aM) true true mh;obtain ⟨h4,h5⟩:S w'∧_:=h3.2.resolve_left (fun h=>nt h.1);exact .inr ⟨h4,Gx.first hi uK hQ hm n (aM.setIfInBounds j true) a' w' (fun k ok hk D6 yx qn=>by
     refine yu k ok hk D6 ?_ qn
     by_cases yy:j=k
     ·subst yy;exact yw
     ·rw [getD_set_ne true yy] at yx;exact yx) gB h3.1 h4 (by rw [DZ];exact h5)⟩
end
def yz (md:Region.Mode) (ops:Array Oper) (m:Option Nat) (aM:Array Bool) (i:Nat):Bool :=
 Region.noSelect ops && Region.free md ops aM i && (Region.ready md ops aM).contains i && DY md ops m i
def jM (L:List an) (T:List Nat):List Nat:=T.flatMap fun i=>match L[i]? with
 | some r=>r.bT
 | none=>[]
theorem yA {L:List an} {T:List Nat} {x:Nat}:x∈jM L T↔∃ i∈T,∃ r,L[i]?=some r∧x∈r.bT:=by
 unfold jM;rw [List.mem_flatMap]
 constructor
 ·rintro ⟨i,hi,hx⟩
  cases h:L[i]? with
  | none=>rw [h] at hx;cases hx
  | some r=>rw [h] at hx;exact ⟨i,hi,r,h,hx⟩
 ·rintro ⟨i,hi,r,h,hx⟩
  exact ⟨i,hi,by rw [h];exact hx⟩
theorem Bq {L:List an} {T:List Nat} {x:Nat} (h:x∈jM L T):x∈bq L:=by
 obtain ⟨i,_,r,hr,hx⟩:=yA.1 h;exact dz.2 ⟨r,List.mem_of_getElem? hr,hx⟩
section
variable (P:Program) (c:Cx)
structure JW (ops:Array Oper) (n:Nat) (aM:Array Bool) (k:List Item) (f:Fm) (L:List an):Prop where
 go:∀ a w,St c f L a w→wpAny P .any ops (fun e a' w'=>e=.normal∧kC P c k a' w') n aM a w
structure JD (ops:Array Oper) (m:Option Nat) (T:List Nat) (n:Nat) (aM:Array Bool) (k:List Item) (f:Fm) (L:List an) (f0:Fm) (L0:List an):Prop where
 go:∀ a w w0,St c f L a w→St c f0 L0 a w0→aq (jM L0 T) w0 w→(∀ x∈bq L,x∈bq L0∨w0.heap.size≤x)→Gx P .any ops (fun e a' w'=>e=.normal∧kC P c k a' w') (fun w'=>aq (jM L0 T) w0 w') m n aM a w
end
section
variable {P:Program} {c:Cx} {k:List Item} {f f0:Fm} {L L0:List an} {ops:Array Oper} {l:List Oper} {o:Oper} {m:Option Nat} {T:List Nat} {n:Nat} {aM:Array Bool}
theorem J.draw {id:Nat} (hm:P.follows .mixedOrders=true) (hn:l.length=n) (h:JW P c l.toArray n (Array.replicate n false) k f L):J P c (.code (.region id l.toArray true) :: k) f L:=⟨fun a w s=>by
 refine kC.wp (wp_region_any hm ?_);have s':St c f L a w.drew:=⟨s.kp.drew,s.size,s.j5,fun r hr=>(s.res r hr).cY ((aq.refl [] w).drew) (Mon.lV ((aq.refl [] w).drew) fun g _ hg=>⟨hg,by simp⟩) (by simp),s.fL,s.ap,fun t d ht=>RD.cY (Mon.lV ((aq.refl [] w).drew) fun g _ hg=>⟨hg,by simp⟩) d _ (s.fr t d ht)⟩
 have:=h.go a w.drew s';subst hn;simpa using this⟩
theorem JW.iU (T:List Nat) (m:Option Nat) (h:JD P c ops m T n aM k f L f L):JW P c ops n aM k f L:=⟨fun a w s =>
 Gx.any (S:=fun w'=>aq (jM L T) w w') (m:=m) _ _ _ _ (h.go a w w s s (aq.refl _ _) (fun g hg=>.inl hg))⟩
theorem JW.base (m:Option Nat) (h:JD P c ops m [] n aM k f L f L):JW P c ops n aM k f L:=JW.iU [] m h
theorem JW.done (hl:Region.ready .any ops aM=[]) (h:J P c k f L):JW P c ops n aM k f L:=⟨fun a w s=>wpAny_done hl ⟨rfl,h.go _ w s⟩ n⟩
theorem St.undef {a:Act} {w:World} {t:Nat} (s:St c f L a w) (ht:t < c.N):St c ((t,.aZ []) :: f) L (a.put (some t) Go.undef) w:=s.lX ht (by unfold RD;exact ⟨[],rfl,rfl⟩)
theorem JD.take (i:Nat) {t:Nat} {d:D} {U:List Nat} (hi:ops[i]?=some o) (hd:o.dst=some t) (hk:yz .any ops m aM i=true) (hw:ee ops o f0=true) (ht:t < c.N) (q:Qt P c U o f0 L0 d) (hu:(U.all fun j=>!T.contains j)=true) (h:JD P c ops m T n (aM.setIfInBounds i true) k ((t,d) :: f) L ((t,d) :: f0) L0):JD P c ops m T (n + 1) aM k f L f0 L0:=⟨fun a w w0 s s0 kp ho=>by
 obtain ⟨v,h1,h2⟩:=q.go a w0 s0;unfold yz at hk;simp only [Bool.and_eq_true] at hk;obtain ⟨⟨⟨k1,k2⟩,k3⟩,k4⟩:=hk;have m1:Mon (bF c L0) (bF c L) w0 w:=Mon.lV kp fun g hg gL=>⟨⟨gL.1,fun hx=>by rcases ho g hx with h | h;exact gL.2 h;omega⟩,fun hm=>gL.2 (Bq hm)⟩
 have D7:∀ w',aq (jM L0 T) w0 w'→rD L0 U w0 w':=fun w' uL=>⟨_,uL,fun x hx=>Bq hx,fun x hx j hj r hr rH=>by
  obtain ⟨i,hi,r2,gB,rF⟩:=yA.1 hx;have rJ:j≠i:=fun e=>by
   subst e;have:=List.all_eq_true.1 hu j hj;simp [hi] at this
  exact fq.ne s0.ap hr gB rJ x rH rF⟩
 refine Gx.first hi (Region.noSelect_spec k1) (fun c a w h=>by cases h.1) k4 n aM a w (Region.free_spec hi k2) (by simpa using k3) (v:=v) (.inl ⟨ee.run hw s0,fun w' uL=>h2 w' (D7 w' uL)⟩) kp ?_
 have:=h.go (a.put o.dst v) w w0 (by rw [hd];exact s.lX ht (RD.cY m1 _ _ h1)) (by rw [hd];exact s0.lX ht h1) kp ho;exact this⟩
theorem JD.skip (i:Nat) {t:Nat} (hi:ops[i]?=some o) (hd:o.dst=some t) (hk:yz .any ops m aM i=true) (hw:uE ops o f0=true) (ht:t < c.N) (h:JD P c ops m T n (aM.setIfInBounds i true) k ((t,.aZ []) :: f) L ((t,.aZ []) :: f0) L0):JD P c ops m T (n + 1) aM k f L f0 L0:=⟨fun a w w0 s s0 kp ho=>by
 unfold yz at hk;simp only [Bool.and_eq_true] at hk;obtain ⟨⟨⟨k1,k2⟩,k3⟩,k4⟩:=hk;refine Gx.first hi (Region.noSelect_spec k1) (fun c a w h=>by cases h.1) k4 n aM a w (Region.free_spec hi k2) (by simpa using k3) (v:=undef) (.inr ⟨uE.run hw s0,rfl⟩) kp ?_
 have:=h.go (a.put o.dst undef) w w0 (by rw [hd];exact s.undef ht) (by rw [hd];exact s0.undef ht) kp ho;exact this⟩
def stays:D→D
 | .c (.v x)=>.c (.v x)
 | _=>.any
theorem stays.rep {d:D} {ok gy:Nat→Prop} {w w':World} {x:Value} (h:RD ok w d x):RD gy w' (stays d) x:=by
 unfold stays
 split
 ·unfold RD RA at h ⊢;exact h
 ·unfold RD;trivial
inductive rK (L0:List an):List an→Prop
 | refl:rK L0 L0
 | cons {r L}:rK L0 L→rK L0 (r :: L)
theorem rK.mem {L0 L:List an} (h:rK L0 L):∀ q∈L0,q∈L:=by
 induction h with
 | refl=>exact fun _ h=>h
 | cons _ ih=>exact fun q hq=>List.mem_cons_of_mem _ (ih q hq)
inductive Since (T:List Nat) (L0 L:List an):List Nat→Prop
 | none:Since T L0 L []
 | nil:Since T L0 L (dx (.slice none 0 0))
 | first {v e sz m Lr}:L=.row v e sz m :: Lr→rK L0 Lr→Since T L0 L (dx v)
 | any {r i Lr}:L[i]?=some r→L.eraseIdx i=Lr→rK L0 Lr→Since T L0 L r.bT
 | there {r j}:L0[j]?=some r→T.contains j=true→Since T L0 L r.bT
theorem Since.row {L0 L L':List an} {v:Value} {e sz i:Nat} {m:List (List A)} [bx:gU L v e sz m i] [er:mI L i L'] (ht:rK L0 L'):Since T L0 L (dx v):=.any bx.h er.h ht
theorem Since.uM {L0 L:List an} {v:Value} {e sz i:Nat} {m:List (List A)} [bx:gU L0 v e sz m i] (ht:T.contains i=true):Since T L0 L (dx v):=.there bx.h ht
theorem Since.nu {L0 L:List an} {b B i:Nat} {cs:List A} [bx:lY L0 b B cs i] (ht:T.contains i=true):Since T L0 L [b]:=.there bx.h ht
theorem Since.keeps {S:List Nat} (hS:Since T L0 L S) {a:Act} {w w0 w':World} (s:St c f L a w) (kp:aq (jM L0 T) w0 w) (ho:∀ x∈bq L,x∈bq L0∨w0.heap.size≤x) (qo:aq S w w'):aq (jM L0 T) w0 w':=by
 refine kp.trans qo fun x hx=>?_
 cases hS with
 | none=>cases hx
 | nil=>cases hx
 | first e ht =>
  subst e;rcases ho x (dz.2 ⟨_,List.mem_cons_self ..,hx⟩) with h | h
  ·obtain ⟨q,hq,l9⟩:=dz.1 h;exact absurd l9 ((List.pairwise_cons.1 s.ap).1 q (ht.mem q hq) x hx)
  ·exact .inr h
 | any h1 e ht =>
  rcases ho x (dz.2 ⟨_,List.mem_of_getElem? h1,hx⟩) with h | h
  ·obtain ⟨q,hq,l9⟩:=dz.1 h;have hm:=ht.mem q hq;rw [← e] at hm;obtain ⟨j,hj⟩:=List.mem_iff_getElem?.1 hm;rw [List.getElem?_eraseIdx] at hj
   exfalso
   split at hj
   ·exact fq.ne s.ap h1 hj (by omega) x hx l9
   ·exact fq.ne s.ap h1 hj (by omega) x hx l9
  ·exact .inr h
 | there h1 ht=>exact .inl (yA.2 ⟨_,by simpa using ht,_,h1,hx⟩)
structure JS (P:Program) (c:Cx) (ops:Array Oper) (m:Option Nat) (T:List Nat) (n:Nat) (aM:Array Bool) (k:List Item) (f:Fm) (L:List an) (f0:Fm) (L0:List an) (i:Nat):Prop where
 go:∀ a w w0,St c f L a w→St c f0 L0 a w0→aq (jM L0 T) w0 w→(∀ x∈bq L,x∈bq L0∨w0.heap.size≤x) →
  wpOp P ops (fun e a' w'=>e=.normal∧kC P c k a' w') i (fun a' w'=>(some i=m∧wpAny P .any ops (fun e a' w'=>e=.normal∧kC P c k a' w') n (aM.setIfInBounds i true) a' w')∨(aq (jM L0 T) w0 w'∧Gx P .any ops (fun e a' w'=>e=.normal∧kC P c k a' w') (fun w'=>aq (jM L0 T) w0 w') m n (aM.setIfInBounds i true) a' w')) a w
theorem JS.cK {S:List Nat} {i t:Nat} {ι:Type} {g:ι→D} {L':ι→List an} (hi:ops[i]?=some o) (hd:o.dst=some t) (hw:ee ops o f=true) (ht:t < c.N) (q:Ld P c o f L S (fun x=>(t,g x) :: f) L') (hS:Since T L0 L S)
  (h:∀ x,JD P c ops m T n (aM.setIfInBounds i true) k ((t,g x) :: f) (L' x) ((t,stays (g x)) :: f0) L0):JS P c ops m T n aM k f L f0 L0 i:=⟨fun a w w0 s s0 kp ho=>by
 refine wpOp_step hi (fun K hK=>?_);rw [ee.run hw s,if_pos rfl];refine q.go a w s K _ fun x v w' qo sx hf=>?_
 have oU:=hS.keeps s kp ho qo;refine hK _ _ (.inr ⟨oU,(h x).go _ w' w0 sx ?_ oU ?_⟩)
 ·rw [hd];exact s0.lX ht (stays.rep (by
   have h1:=sx.fr t (g x) (qg _ _ _);have h2:=s.size;rw [hd] at h1;simpa [Act.put,Array.getD_eq_getD_getElem?,Array.getElem?_setIfInBounds,h2,ht] using h1))
 ·intro y hy;rcases hf y hy with h1 | h1
  ·exact ho y h1
  ·exact .inr (Nat.le_trans kp.size h1)⟩
theorem JS.st {S:List Nat} {i:Nat} {ι:Type} {L':ι→List an} (hi:ops[i]?=some o) (hd:o.dst=none) (hw:ee ops o f=true) (q:Ld P c o f L S (fun _=>f) L') (hS:Since T L0 L S)
  (h:∀ x,JD P c ops m T n (aM.setIfInBounds i true) k f (L' x) f0 L0):JS P c ops m T n aM k f L f0 L0 i:=⟨fun a w w0 s s0 kp ho=>by
 refine wpOp_step hi (fun K hK=>?_);rw [ee.run hw s,if_pos rfl];refine q.go a w s K _ fun x v w' qo sx hf=>?_
 have oU:=hS.keeps s kp ho qo;refine hK _ _ (.inr ⟨oU,(h x).go _ w' w0 sx (by rw [hd];exact s0) oU ?_⟩);intro y hy;rcases hf y hy with h1 | h1
 ·exact ho y h1
 ·exact .inr (Nat.le_trans kp.size h1)⟩
theorem JS.q {i t:Nat} {d:D} {U:List Nat} (hi:ops[i]?=some o) (hd:o.dst=some t) (hw:ee ops o f=true) (ht:t < c.N) (q:Qt P c U o f L d)
  (h:JD P c ops m T n (aM.setIfInBounds i true) k ((t,d) :: f) L ((t,stays d) :: f0) L0):JS P c ops m T n aM k f L f0 L0 i:=⟨fun a w w0 s s0 kp ho=>by
 obtain ⟨v,h1,h2⟩:=q.go a w s;refine wpOp_step hi (fun K hK=>?_);rw [ee.run hw s,if_pos rfl];simp only [Oper.wp,h2 w (rD.now _ _ _),Oper.upon];exact hK _ _ (.inr ⟨kp,h.go _ w w0 (by rw [hd];exact s.lX ht h1) (by rw [hd];exact s0.lX ht (stays.rep h1)) kp ho⟩)⟩
theorem JS.last {i:Nat} {ι:Type} {f':ι→Fm} {L':ι→List an} {S:List Nat} (hi:ops[i]?=some o) (hw:ee ops o f=true) (q:Ld P c o f L S f' L') (h:∀ x,JW P c ops n (aM.setIfInBounds i true) k (f' x) (L' x)):JS P c ops (some i) T n aM k f L f0 L0 i:=⟨fun a w w0 s s0 kp ho=>by
 refine wpOp_step hi (fun K hK=>?_);rw [ee.run hw s,if_pos rfl];exact q.go a w s K _ fun x v w' qo sx hf=>hK _ _ (.inl ⟨rfl,(h x).go _ w' sx⟩)⟩
theorem JD.gD {i:Nat} (hr:Region.ready .any ops aM=[i]) (h:JS P c ops m T n aM k f L f0 L0 i):JD P c ops m T (n + 1) aM k f L f0 L0:=⟨fun a w w0 s s0 kp ho=>by
 refine ⟨fun h0=>(by rw [hr] at h0;cases h0),fun j hj=>?_⟩;rw [hr] at hj;simp at hj;subst hj;exact h.go a w w0 s s0 kp ho⟩
theorem JD.dA {i j:Nat} (hr:Region.ready .any ops aM=[i,j]) (h1:JS P c ops m T n aM k f L f0 L0 i) (h2:JS P c ops m T n aM k f L f0 L0 j):JD P c ops m T (n + 1) aM k f L f0 L0:=⟨fun a w w0 s s0 kp ho=>by
 refine ⟨fun h0=>(by rw [hr] at h0;cases h0),fun j hj=>?_⟩;rw [hr] at hj;simp at hj;rcases hj with rfl | rfl
 ·exact h1.go a w w0 s s0 kp ho
 ·exact h2.go a w w0 s s0 kp ho⟩
theorem JD.D8 {i j q:Nat} (hr:Region.ready .any ops aM=[i,j,q]) (h1:JS P c ops m T n aM k f L f0 L0 i) (h2:JS P c ops m T n aM k f L f0 L0 j) (h3:JS P c ops m T n aM k f L f0 L0 q):JD P c ops m T (n + 1) aM k f L f0 L0:=⟨fun a w w0 s s0 kp ho=>by
 refine ⟨fun h0=>(by rw [hr] at h0;cases h0),fun j hj=>?_⟩;rw [hr] at hj;simp at hj;rcases hj with rfl | rfl | rfl
 ·exact h1.go a w w0 s s0 kp ho
 ·exact h2.go a w w0 s s0 kp ho
 ·exact h3.go a w w0 s s0 kp ho⟩
theorem JD.done (hl:Region.ready .any ops aM=[]) (h:J P c k f L):JD P c ops m T n aM k f L f0 L0:=⟨fun a w w0 s s0 kp ho=>by
 have hq:=h.go _ w s
 cases n with
 | zero=>exact ⟨hl,rfl,hq⟩
 | succ n=>exact ⟨fun _=>⟨rfl,hq⟩,fun k hk=>by rw [hl] at hk;cases hk⟩⟩
end
end Fl
open Go.RowKit
namespace Fl
def wG (P:Program) (T:TypeId):Option (List (Nat × Nat)):=match P.underlying T with
 | some (.struct fs)=>fs.toList.mapM fun f=>(P.info? f.type).map fun i=>(f.offset,i.size)
 | _=>none
class nv (P:Program) (T:TypeId) (pl:outParam (List (Nat × Nat))):Prop where h:wG P T=some pl:=by kernel_rfl
def td (pl:List (Nat × Nat)):List A→List (Nat × List A)→Option (List A)
 | cs,[]=>some cs
 | cs,(i,es) :: r=>match pl[i]? with
  | none=>none
  | some (off,size)=>cond (Nat.beq es.length size && Nat.ble (off + es.length) cs.length) (td pl (jn cs off es) r) none
def yB:List (Nat × Nat)→Nat→List (Nat × List A)→List A→List A
 | [],_,_,_=>[]
 | (_,n) :: pl,k,[],zs=>zs.take n ++ yB pl (k + 1) [] (zs.drop n)
 | (_,n) :: pl,k,(i,es) :: r,zs=>cond (Nat.beq i k) (es ++ yB pl (k + 1) r (zs.drop n)) (zs.take n ++ yB pl (k + 1) ((i,es) :: r) (zs.drop n))
theorem Qw (l:List Value):∀ (k:Nat) (z:Array Value),k + l.length≤z.size→∀ off,off≤k→(l.zipIdx (k - off)).foldl (fun cs x=>cs.setIfInBounds (off + x.2) x.1) z=(z.toList.take k ++ l ++ z.toList.drop (k + l.length)).toArray:=by
 induction l with
 | nil=>intro k z hz off ho;simp
 | cons x l ih =>
  intro k z hz off ho;simp only [List.length_cons] at hz;rw [List.zipIdx_cons,List.foldl_cons];have:=ih (k + 1) (z.setIfInBounds (off + (k - off)) x) (by simp;omega) off (by omega);rw [show k + 1 - off=k - off + 1 by omega] at this;rw [this];simp only [show off + (k - off)=k by omega];apply congrArg;simp only [Array.toList_setIfInBounds,List.length_cons];rw [List.take_add_one,List.take_set,List.getElem?_set_self (by simp;omega)];rw [List.set_eq_of_length_le (by simp;omega),List.drop_set,if_pos (by omega)];simp only [Option.toList_some,List.append_assoc,List.singleton_append,List.cons_append,List.nil_append];rw [show k + (l.length + 1)=k + 1 + l.length by omega]
theorem td.run {ok:Nat→Prop} {w:World} {pl:List (Nat × Nat)}:∀ (ps:List (Nat × List A)) (xs:List (Nat × Value)) (cs j4:List A) (us:Array Value),td pl cs ps=some j4→RC ok w cs us.toList→xs.map (·.1)=ps.map (·.1)→(∀ (j:Nat) (p:Nat × List A) (x:Nat × Value),ps[j]?=some p→xs[j]?=some x→RC ok w p.2 x.2.cells.toList) →
  ∃ Br,Instr.fill (pl.toArray[·]?) us xs=some Br∧RC ok w j4 Br.toList
 | [],xs,cs,j4,us,h,hr,hm,hx=>by
  have:xs=[]:=by simpa using hm
  subst this;simp [td] at h;subst h;exact ⟨us,rfl,hr⟩
 | (i,es) :: ps,[],cs,j4,us,h,hr,hm,hx=>by simp at hm
 | (i,es) :: ps,(i',x) :: xs,cs,j4,us,h,hr,hm,hx=>by
  simp only [List.map_cons,List.cons.injEq] at hm;obtain ⟨rfl,hm⟩:=hm;have D9:=hx 0 _ _ rfl rfl;simp only at D9;unfold td at h
  cases hp:pl[i']? with
  | none=>rw [hp] at h;cases h
  | some q =>
   obtain ⟨off,size⟩:=q;rw [hp] at h;simp only at h
   cases hc:(Nat.beq es.length size && Nat.ble (off + es.length) cs.length) with
   | false=>rw [hc] at h;cases h
   | true =>
    rw [hc] at h;simp only [Bool.and_eq_true] at hc;have h1:=Nat.eq_of_beq_eq_true hc.1;have h2:=Nat.le_of_ble_eq_true hc.2;have rL:=D9.len;have j8:=hr.len;simp only [Array.length_toList] at rL j8;have hf:=Qw x.cells.toList off us (by simp;omega) off (Nat.le_refl _);rw [Nat.sub_self] at hf;have gB:RC ok w (jn cs off es) (us.toList.take off ++ x.cells.toList ++ us.toList.drop (off + x.cells.toList.length)):=by
     unfold jn;have:es.length=x.cells.toList.length:=by simp;omega
     rw [this];exact RC.app (RC.app (hr.take off) D9) (hr.drop _)
    obtain ⟨Br,g1,g2⟩:=td.run ps xs _ j4 ((us.toList.take off ++ x.cells.toList ++ us.toList.drop (off + x.cells.toList.length)).toArray) h (by simpa using gB) hm (fun j p x hp fN=>hx (j + 1) p x (by simpa using hp) (by simpa using fN));refine ⟨Br,?_,g2⟩;have Qx:pl.toArray[i']?=some (off,size):=by simpa using hp
    unfold Instr.fill;rw [Qx];simp only;rw [if_neg (by simp;omega)];rw [← g1]
    congr 1
    rw [← Array.foldl_toList,Array.toList_zipIdx];exact hf
section
variable {P:Program}
theorem wG.run {T:Nat} {pl:List (Nat × Nat)} (h:wG P T=some pl):∃ fs,P.underlying T=some (.struct fs)∧∀ w,(fs.mapM fun f=>do pure (f.offset,← sizeOf f.type):Sem (Array (Nat × Nat))).run P w=.ok pl.toArray w:=by
 unfold wG at h
 cases hu:P.underlying T with
 | none=>rw [hu] at h;cases h
 | some d =>
  rw [hu] at h
  cases d with
  | struct fs =>
   simp only at h;refine ⟨fs,rfl,fun w=>?_⟩;have key:∀ (l:List Field) (pl:List (Nat × Nat)),(l.mapM fun f=>(P.info? f.type).map fun i=>(f.offset,i.size))=some pl→(l.mapM fun f=>do pure (f.offset,← sizeOf f.type):Sem (List (Nat × Nat))).run P w=.ok pl w:=by
    intro l
    induction l with
    | nil=>intro pl h;simp at h;subst h;simp
    | cons f l ih =>
     intro pl h;rw [List.mapM_cons] at h
     cases hi:P.info? f.type with
     | none=>rw [hi] at h;cases h
     | some i =>
      rw [hi] at h;simp only [Option.map_some,Option.bind_eq_bind,Option.bind_some] at h
      cases hm:(l.mapM fun f=>(P.info? f.type).map fun i=>(f.offset,i.size)) with
      | none=>rw [hm] at h;cases h
      | some q =>
       rw [hm] at h;simp at h;subst h;have h5:=ih q hm;have h6:(sizeOf f.type).run P w=.ok i.size w:=by simp [sizeOf,typeInfo,Sem.run_bind,hi]
       rw [List.mapM_cons,Sem.run_bind,Sem.run_bind,h6];simp only [Result.andThen_ok,Sem.run_pure,Sem.run_bind,h5]
   have h2:=key fs.toList pl h;have e:(fs.mapM fun f=>do pure (f.offset,← sizeOf f.type):Sem (Array (Nat × Nat)))=(do let l ← (fs.toList.mapM fun f=>do pure (f.offset,← sizeOf f.type));pure l.toArray):=by
    rw [Array.mapM_eq_mapM_toList,map_eq_pure_bind]
   rw [e,Sem.run_bind,h2];rfl
  | _=>cases h
end
def IU (P:Program) (X k:Nat):Bool:=match P.underlying X with
  | some (.struct fs)=>match fs[k]? with
   | some fd=>mG P fd.type == some false
   | none=>false
  | _=>false
theorem IW {α β:Type} {g:α→Option β}:∀ {l:List α} {q:List β},l.mapM g=some q→∀ {k:Nat} {a:α},l[k]?=some a→∃ b,q[k]?=some b∧g a=some b
  | [],q,h,k,a,e=>by simp at e
  | x :: l,q,h,k,a,e=>by
   rw [List.mapM_cons] at h
   cases hx:g x with
   | none=>rw [hx] at h;cases h
   | some b =>
    rw [hx] at h;simp only [Option.bind_eq_bind,Option.bind_some] at h
    cases hl:l.mapM g with
    | none=>rw [hl] at h;cases h
    | some r =>
     rw [hl] at h;simp at h;subst h
     cases k with
     | zero=>simp at e;subst e;exact ⟨b,rfl,hx⟩
     | succ k=>simp at e;simpa using IW hl e
def rM (f:Fm):List (Nat × Operand)→Option (List (Nat × List A))
 | []=>some []
 | (i,x) :: r=>match bg f x with
  | none=>none
  | some d=>match iz d,rM f r with
   | some cs,some l=>some ((i,cs) :: l)
   | _,_=>none
section
variable {P:Program} {c:Cx} {f:Fm} {L:List an} {t:Option Tmp} {T:TypeId} {ps:String} {af:Array Edge} {gd:Option (Nat × Bool)}
theorem rM.rep {a:Act} {w:World} (s:St c f L a w):∀ {parts:List (Nat × Operand)} {l:List (Nat × List A)},rM f parts=some l→(parts.map fun p=>(p.1,a.eval p.2)).map (·.1)=l.map (·.1)∧∀ (j:Nat) (p:Nat × List A) (x:Nat × Value),l[j]?=some p→(parts.map fun p=>(p.1,a.eval p.2))[j]?=some x→RC (bF c L) w p.2 x.2.cells.toList
 | [],l,h=>by simp [rM] at h;subst h;simp
 | (i,x) :: r,l,h=>by
  unfold rM at h
  cases h1:bg f x with
  | none=>rw [h1] at h;cases h
  | some d =>
   rw [h1] at h;simp only at h
   cases h2:iz d with
   | none=>rw [h2] at h;cases h
   | some cs =>
    cases h3:rM f r with
    | none=>rw [h2,h3] at h;cases h
    | some l' =>
     rw [h2,h3] at h
     cases h;obtain ⟨g1,g2⟩:=rM.rep s h3;refine ⟨by simpa using g1,fun j p x hp hx=>?_⟩
     cases j with
     | zero=>simp at hp hx;subst hp;subst hx;exact iz.rep h2 (s.ev h1)
     | succ j=>exact g2 j p x (by simpa using hp) (by simpa using hx)
theorem Qt.build {X:Nat} {parts:List (Nat × Operand)} {pl:List (Nat × Nat)} {zs:List Value} {l:List (Nat × List A)} [z:aX P X zs] [i:nv P X pl] (h:rM f parts=some l) (hf:td pl (vs zs) l=some (yB pl 0 l (vs zs))):Qt P c [] ⟨t,.build X parts.toArray,T,ps,af,gd⟩ f L (.agg (yB pl 0 l (vs zs))):=⟨fun a w s=>by
 obtain ⟨g1,g2⟩:=rM.rep s h;obtain ⟨zv,Bo,wB⟩:=qf.run z.h;obtain ⟨fs,u1,u2⟩:=wG.run i.h;obtain ⟨us,r1,r2⟩:=td.run (ok:=bF c L) (w:=w) l (parts.map fun p=>(p.1,a.eval p.2)) (vs zs) _ zv.cells hf (by rw [Bo];exact RC.vs z.o) g1 g2;refine ⟨.agg us,by unfold RD;exact ⟨us.toList,by simp,r2⟩,fun w' k=>?_⟩;have e:(parts.toArray.map fun (i,x)=>(i,a.eval x)).toList=parts.map fun p=>(p.1,a.eval p.2):=by simp
 simp only [execOp,Instr.build,Sem.run_bind,wB,Result.andThen_ok,run_underlying u1,u2,e,r1,Sem.run_pure]⟩
theorem Qt.field {x:Operand} {X k off:Nat} {cs:List A} {e:A} {pl:List (Nat × Nat)} [i:nv P X pl] (h:bg f x=some (.agg cs)) (hp:pl[k]?=some (off,1)) (hv:IU P X k=true) (he:cs[off]?=some e):Qt P c [] ⟨t,.field X x k,T,ps,af,gd⟩ f L (.c e):=⟨fun a w s=>by
 have r:=s.ev h;unfold RD at r;obtain ⟨vs,hx,hr⟩:=r;obtain ⟨y,hy,Qy⟩:=hr.get off he;refine ⟨y,by unfold RD;exact Qy,fun w' k'=>?_⟩;unfold IU at hv;have hi:=i.h;unfold wG at hi
 cases hu:P.underlying X with
 | none=>rw [hu] at hi;cases hi
 | some d =>
  rw [hu] at hi hv
  cases d with
  | struct fs =>
   simp only at hi hv
   cases hf:fs[k]? with
   | none=>rw [hf] at hv;cases hv
   | some fd =>
    rw [hf] at hv;simp only [beq_iff_eq] at hv;have Qz:fd.offset=off:=by
     have h3:=IW hi (k:=k) (a:=fd) (by simpa using hf);obtain ⟨q,IX,og⟩:=h3;rw [hp] at IX;cases IX
     cases jJ:P.info? fd.type with
     | none=>rw [jJ] at og;cases og
     | some ii=>rw [jJ] at og;simp at og;exact og.1
    simp [execOp,Instr.field,Sem.run_bind,run_underlying hu,hf,hx,asAgg,part,mG.DO hv,Qz,hy]
  | _=>cases hv⟩
def oV (f:Fm) (x:Option Operand) (n:Int):Option Int:=match x with
 | none=>some n
 | some y=>match bg f y with
  | some (.c (.v (.int _ m)))=>some m
  | _=>none
theorem oV.run {a:Act} {w:World} (s:St c f L a w) {x:Option Operand} {n m:Int} (h:oV f x n=some m):(x=none∧m=n)∨∃ y k,x=some y∧a.eval y=.int k m:=by
 unfold oV at h
 cases x with
 | none=>simp at h;exact .inl ⟨rfl,h.symm⟩
 | some y =>
  simp only at h
  split at h
  ·rename_i k q e
   cases h;exact .inr ⟨y,k,rfl,s.val e⟩
  ·cases h
theorem Qt.qp {x:Operand} {lo hi:Option Operand} {X e sz:Nat} {l:List (List A)} {m n:Int} [i:fM P X e sz] (h:bg f x=some (.c (.r sz l))) (Ea:oV f lo 0=some m) (Eb:oV f hi l.length=some n) (h1:0≤m) (h2:m≤n) (h3:n≤l.length):Qt P c [] ⟨t,.slice X x lo hi none,T,ps,af,gd⟩ f L (.c (.r sz ((l.take n.toNat).drop m.toNat))):=⟨fun a w s=>by
 have r:=s.ev h;unfold RD RA at r;obtain ⟨ao,cap,hx,g1,g2,g3⟩:=r;have hn:n.toNat≤l.length:=by omega
 refine ⟨.slice (if cap=m.toNat then ao else ao.map (·.add (m.toNat * sz))) (n.toNat - m.toNat) (cap - m.toNat),?_,fun w' k=>?_⟩
 ·unfold RD RA;refine ⟨if cap=m.toNat then ao else ao.map (·.add (m.toNat * sz)),cap - m.toNat,by simp [hn],by simp;omega,by omega,?_⟩
  by_cases hz:((l.take n.toNat).drop m.toNat)=[]
  ·exact .inl hz
  ·have bG:l≠[]:=fun e=>hz (by simp [e])
   rcases g3 with g3 | ⟨g,off,rfl,g5,g6,g7⟩
   ·exact absurd g3 bG
   ·have cJ:m.toNat < cap:=by
     rcases Nat.lt_or_ge m.toNat cap with h | h
     ·exact h
     ·exact absurd (List.eq_nil_of_length_eq_zero (by simp;omega)) hz
    refine .inr ⟨g,off + m.toNat * sz,by rw [if_neg (by omega)];simp [Addr.add_mid],g5,g6,?_⟩;exact (g7.take n.toNat).drop m.toNat
 ·have Ec:∀ w,(match lo.map a.eval with | some v=>Instr.sliceBound v n.toNat .sliceB | none=>pure 0:Sem Nat).run P w=.ok m.toNat w:=fun w=>by
   rcases oV.run s Ea with ⟨rfl,rfl⟩ | ⟨y,kd,rfl,hy⟩
   ·simp
   ·simp only [Option.map_some,hy,Instr.sliceBound,asIntOf,Sem.run_bind,Sem.run_pure,Result.andThen_ok];rw [if_pos ⟨h1,by omega⟩];rfl
  have Ed:∀ w,(match hi.map a.eval,(none:Option Value) with | some v,some _=>Instr.sliceBound v cap .slice3B | some v,none=>Instr.sliceBound v cap (if true then .sliceAcap else .sliceAlen) | none,none=>pure l.length | none,some _=>stuck "Slice: max without high":Sem Nat).run P w=.ok n.toNat w:=fun w=>by
   rcases oV.run s Eb with ⟨rfl,rfl⟩ | ⟨y,kd,rfl,hy⟩
   ·simp
   ·simp only [Option.map_some,hy,Instr.sliceBound,asIntOf,Sem.run_bind,Sem.run_pure,Result.andThen_ok];rw [if_pos ⟨by omega,by omega⟩];rfl
  have Ee:∀ w,(Instr.sliceBounds true l.length cap (lo.map a.eval) (hi.map a.eval) none).run P w=.ok (m.toNat,n.toNat,cap) w:=fun w=>by
   unfold Instr.sliceBounds;simp only [Sem.run_bind,Sem.run_pure,Result.andThen_ok,Option.isSome_none,Bool.false_eq_true,↓reduceIte];have a1:=Ed w;have a2:=Ec w
   cases Ef:hi.map a.eval <;> cases Eg:lo.map a.eval <;> rw [Ef] at a1 <;> rw [Eg] at a2 <;> simp only [↓reduceIte,Sem.run_pure,Result.ok.injEq,and_true] at a1 a2 <;> simp [Sem.run_bind,a1,a2]
  simp only [execOp,Option.map_none,Instr.sliceAt,Instr.slice,hx,Sem.run_bind,run_underlying (lW.kE i.h),Result.andThen_ok,Ee,jK.run i.s,Sem.run_pure]⟩
theorem Qt.eq {U:List Nat} {o:Oper} {d d':D} (q:Qt P c U o f L d) (h:d=d'):Qt P c U o f L d':=h ▸ q
theorem eK {n:Int} (h1:-9223372036854775808≤n) (h2:n≤9223372036854775807):IntKind.i64.wrap n=n:=IntWalk.i64_in n ⟨h1,h2⟩
end
section
variable {P:Program} {c:Cx} {k:List Item} {f:Fm} {L L2:List an} {o:Oper}
theorem rN (hp:L2.Perm L) (x:Nat):x∈bq L2↔x∈bq L:=by
 rw [dz,dz];exact ⟨fun ⟨q,hq,hx⟩=>⟨q,hp.mem_iff.1 hq,hx⟩,fun ⟨q,hq,hx⟩=>⟨q,hp.mem_iff.2 hq,hx⟩⟩
theorem St.perm (hp:L2.Perm L) {a:Act} {w:World} (s:St c f L a w):St c f L2 a w:=by
 have ho:bF c L2=bF c L:=by
  funext x;unfold bF;rw [rN hp]
 exact ⟨s.kp,s.size,s.j5,fun q hq=>by rw [ho];exact s.res q (hp.mem_iff.1 hq),fun x hx=>s.fL x ((rN hp x).1 hx),(hp.pairwise_iff (fun {x y} mF z hz rC=>mF z rC hz)).2 s.ap,fun u d hu=>by rw [ho];exact s.fr u d hu⟩
theorem Ld.perm (hp:L2.Perm L) {S:List Nat} {ι:Type} {f':ι→Fm} {L':ι→List an} (h:Ld P c o f L2 S f' L'):Ld P c o f L S f' L':=⟨fun a w s K Q hK =>
 h.go a w (s.perm hp) K Q fun x v w' kp sx hf=>hK x v w' kp sx fun y hy=>by
  rcases hf y hy with h | h
  ·exact .inl ((rN hp y).1 h)
  ·exact .inr h⟩
theorem Eh {r:an} {i:Nat} {L':List an} (h:L[i]?=some r) (e:L.eraseIdx i=L'):(r :: L').Perm L:=e ▸ sZ L i h
variable {T X:TypeId} {ps:String} {af:Array Edge} {gd:Option (Nat × Bool)} {t:Nat} {e sz bytes i:Nat} {z:Value} {x y:Operand} {v:Value} {l1 l2:List (List A)} {L':List an} {d2:D}
theorem oa.de {j e':Nat} {u:Value} {m:List (List A)} [bx:gU L' u e' sz m j]:oa L' sz (.c (.v u)) m:=.own j bx.h
theorem Ld.cB [E:ia P X e sz bytes z] [bx:gU L v e sz l1 i] [er:mI L i L'] (ht:t < c.N) (h1:bg f x=some (.c (.v v))) (h2:bg f y=some d2) (hs:oa L' sz d2 l2) (hb:(l1.length + l2.length) * bytes≤140737488355328) :
  Ld P c ⟨some t,.call ⟨.builtin .append,#[x,y],#[X,X]⟩,T,ps,af,gd⟩ f L (dx v) (fun v':Value=>(t,.c (.v v')) :: f) (fun v'=>.row v' e sz (l1 ++ l2) :: L') :=
 Ld.perm (Eh bx.h er.h) (Ld.DW ht h1 (.own rfl) h2 hs hb)
theorem Ld.fP [E:ia P X e sz bytes z] [bx:gU L v e sz l1 i] [er:mI L i L'] (ht:t < c.N) (h1:bg f x=some (.c (.v v))) (h2:bg f y=some d2) (hs:oa L' sz d2 l2) (hb:(l1.length + l2.length) * bytes≤140737488355328) :
  Ld P c ⟨some t,.call ⟨.builtin .append,#[x,y],#[X,X]⟩,T,ps,af,gd⟩ f L (dx v) (fun _:Unit=>(t,.c (.r sz (l1 ++ l2))) :: f) (fun _=>L') :=
 Ld.perm (Eh bx.h er.h) (Ld.IK ht h1 (.own rfl) h2 hs hb)
theorem Ld.yC [E:ia P X e sz bytes z] (ht:t < c.N) (h1:bg f x=some (.c (.v (.slice none 0 0)))) (h2:bg f y=some d2) (hs:oa L sz d2 l2) (hb:l2.length * bytes≤140737488355328) :
  Ld P c ⟨some t,.call ⟨.builtin .append,#[x,y],#[X,X]⟩,T,ps,af,gd⟩ f L (dx (.slice none 0 0)) (fun v':Value=>(t,.c (.v v')) :: f) (fun v'=>.row v' e sz l2 :: L) :=
 Ld.DW ht h1 .nil h2 hs (by simpa using hb)
theorem Ld.iV [E:ia P X e sz bytes z] (ht:t < c.N) (h1:bg f x=some (.c (.v (.slice none 0 0)))) (h2:bg f y=some d2) (hs:oa L sz d2 l2) (hb:l2.length * bytes≤140737488355328) :
  Ld P c ⟨some t,.call ⟨.builtin .append,#[x,y],#[X,X]⟩,T,ps,af,gd⟩ f L (dx (.slice none 0 0)) (fun _:Unit=>(t,.c (.r sz l2)) :: f) (fun _=>L) :=
 Ld.IK ht h1 .nil h2 hs (by simpa using hb)
end
section
variable {P:Program} {c:Cx} {k:List Item} {f:Fm} {L:List an}
theorem J.bO {f':Fm} (h:J P c k f' L) (ho:wj f f'):J P c k f L:=J.only f' ho h
theorem J.fQ {L':List an} (e:L'=L) (h:J P c k f L'):J P c k f L:=e ▸ h
theorem J.j9 (t:Nat) {v:Value} {e sz i:Nat} {l:List (List A)} {L':List an} [bx:gU L v e sz l i] [er:mI L i L'] (h1:look f t=some (.c (.v v))) (h:J P c k ((t,.c (.r sz l)) :: f) L'):J P c k f L:=⟨fun a w s=>by
 have hp:(an.row v e sz l :: L').Perm L:=by rw [← er.h];exact sZ L i bx.h
 have hm:∀ x,x∈bq (an.row v e sz l :: L')↔x∈bq L:=fun x=>by
  rw [dz,dz];exact ⟨fun ⟨q,hq,hx⟩=>⟨q,hp.mem_iff.1 hq,hx⟩,fun ⟨q,hq,hx⟩=>⟨q,hp.mem_iff.2 hq,hx⟩⟩
 have ho:bF c (an.row v e sz l :: L')=bF c L:=by
  funext x;unfold bF;rw [hm]
 have s1:St c ((t,.c (.v v)) :: f) (an.row v e sz l :: L') a w:=by
  refine ⟨s.kp,s.size,s.j5,fun q hq=>by rw [ho];exact s.res q (hp.mem_iff.1 hq),fun x hx=>s.fL x ((hm x).1 hx),(hp.pairwise_iff (fun {x y} mF z hz rC=>mF z rC hz)).2 s.ap,fun u d hu=>?_⟩;rw [ho]
  by_cases e1:t=u
  ·subst e1;rw [qg] at hu;cases hu;exact s.fr t _ h1
  ·rw [uF e1] at hu;exact s.fr u d hu
 exact h.go a w s1.freeze⟩
end
namespace K
section
variable {P:Program} {c:Cx} {k:List Item} {f:Fm} {L:List an} {ops:Array Oper} {l:List Oper} {t:Option Tmp} {T:TypeId} {ps:String} {af:Array Edge} {gd:Option (Nat × Bool)}
theorem load {X:TypeId} {x:Operand} (h:JO P c ops (⟨t,.load X x,T,ps,af,gd⟩ :: l) k f L):JO P c ops (⟨t,.load X x,T,ps,af,gd⟩ :: l) k f L:=h
theorem store {X:TypeId} {x y:Operand} (h:JO P c ops (⟨t,.store X x y,T,ps,af,gd⟩ :: l) k f L):JO P c ops (⟨t,.store X x y,T,ps,af,gd⟩ :: l) k f L:=h
theorem move {x:Operand} (h:JO P c ops (⟨t,.move x,T,ps,af,gd⟩ :: l) k f L):JO P c ops (⟨t,.move x,T,ps,af,gd⟩ :: l) k f L:=h
theorem assign {x:Operand} (h:JO P c ops (⟨t,.assign x,T,ps,af,gd⟩ :: l) k f L):JO P c ops (⟨t,.assign x,T,ps,af,gd⟩ :: l) k f L:=h
theorem fieldAddr {X:TypeId} {x:Operand} {n:Nat} (h:JO P c ops (⟨t,.fieldAddr X x n,T,ps,af,gd⟩ :: l) k f L):JO P c ops (⟨t,.fieldAddr X x n,T,ps,af,gd⟩ :: l) k f L:=h
theorem indexAddr {X:TypeId} {x y:Operand} (h:JO P c ops (⟨t,.indexAddr X x y,T,ps,af,gd⟩ :: l) k f L):JO P c ops (⟨t,.indexAddr X x y,T,ps,af,gd⟩ :: l) k f L:=h
theorem binOp {b:BinOp} {X Y:TypeId} {x y:Operand} (h:JO P c ops (⟨t,.binOp b X x y Y,T,ps,af,gd⟩ :: l) k f L):JO P c ops (⟨t,.binOp b X x y Y,T,ps,af,gd⟩ :: l) k f L:=h
theorem unOp {b:UnOp} {X:TypeId} {x:Operand} (h:JO P c ops (⟨t,.unOp b X x,T,ps,af,gd⟩ :: l) k f L):JO P c ops (⟨t,.unOp b X x,T,ps,af,gd⟩ :: l) k f L:=h
theorem call {x:Operand} {fA:Array Operand} {tys:Array TypeId} (h:JO P c ops (⟨t,.call ⟨.value x,fA,tys⟩,T,ps,af,gd⟩ :: l) k f L):JO P c ops (⟨t,.call ⟨.value x,fA,tys⟩,T,ps,af,gd⟩ :: l) k f L:=h
theorem bi {b:Builtin} {fA:Array Operand} {tys:Array TypeId} (h:JO P c ops (⟨t,.call ⟨.builtin b,fA,tys⟩,T,ps,af,gd⟩ :: l) k f L):JO P c ops (⟨t,.call ⟨.builtin b,fA,tys⟩,T,ps,af,gd⟩ :: l) k f L:=h
theorem extract {x:Operand} {n:Nat} (h:JO P c ops (⟨t,.extract x n,T,ps,af,gd⟩ :: l) k f L):JO P c ops (⟨t,.extract x n,T,ps,af,gd⟩ :: l) k f L:=h
theorem build {X:TypeId} {fA:Array (Nat × Operand)} (h:JO P c ops (⟨t,.build X fA,T,ps,af,gd⟩ :: l) k f L):JO P c ops (⟨t,.build X fA,T,ps,af,gd⟩ :: l) k f L:=h
theorem lit {X:TypeId} {n:Nat} {fA:Array (Nat × Operand)} (h:JO P c ops (⟨t,.buildSlice X n fA,T,ps,af,gd⟩ :: l) k f L):JO P c ops (⟨t,.buildSlice X n fA,T,ps,af,gd⟩ :: l) k f L:=h
theorem slice {X:TypeId} {x:Operand} {lo hi mx:Option Operand} (h:JO P c ops (⟨t,.slice X x lo hi mx,T,ps,af,gd⟩ :: l) k f L):JO P c ops (⟨t,.slice X x lo hi mx,T,ps,af,gd⟩ :: l) k f L:=h
theorem pick {x y z:Operand} (h:JO P c ops (⟨t,.pick x y z,T,ps,af,gd⟩ :: l) k f L):JO P c ops (⟨t,.pick x y z,T,ps,af,gd⟩ :: l) k f L:=h
theorem nilCheck {x:Operand} (h:JO P c ops (⟨t,.nilCheck x,T,ps,af,gd⟩ :: l) k f L):JO P c ops (⟨t,.nilCheck x,T,ps,af,gd⟩ :: l) k f L:=h
theorem convert {X Y:TypeId} {x:Operand} (h:JO P c ops (⟨t,.convert X Y x,T,ps,af,gd⟩ :: l) k f L):JO P c ops (⟨t,.convert X Y x,T,ps,af,gd⟩ :: l) k f L:=h
theorem field {X:TypeId} {x:Operand} {n:Nat} (h:JO P c ops (⟨t,.field X x n,T,ps,af,gd⟩ :: l) k f L):JO P c ops (⟨t,.field X x n,T,ps,af,gd⟩ :: l) k f L:=h
theorem make {X:TypeId} {x y:Operand} (h:JO P c ops (⟨t,.makeSlice X x y,T,ps,af,gd⟩ :: l) k f L):JO P c ops (⟨t,.makeSlice X x y,T,ps,af,gd⟩ :: l) k f L:=h
end
end K
end Fl
end Go.Proofs.YtdjhhbpedllnhaaGreat
