/-
  What the laws need, part D3.
  Conditions: none.
-/
import Derived.Test.YtofnbflkhgammaaGreatD2
set_option linter.unusedVariables false
set_option linter.unusedSimpArgs false
set_option linter.unnecessarySimpa false
set_option maxHeartbeats 2000000
namespace Go.Proofs.YtofnbflkhgammaaGreat
open Go.RowKit
namespace Fl
class bp (P:Program) (T:TypeId) (zs:outParam (List Value)):Prop where
 h:qn P T=some zs:=by kernel_rfl
 o:zs.all (·.oneCell')=true:=by kernel_rfl
 s:iR P T=some zs.length:=by kernel_rfl
class gK (P:Program) (T:TypeId) (e:outParam TypeId) (sz bytes:outParam Nat) (z:outParam Value):Prop where h:j9 P T e sz bytes z
def DI (P:Program) (F:FuncId):Bool:=match P.funcs[F]? with
 | some fn=>fn.name != "runtime.NumGoroutine" && fn.body.isSome
 | none=>false
class aJ (P:Program) (F:FuncId):Prop where h:DI P F=true:=by kernel_rfl
def vs (zs:List Value):List A:=zs.map A.v
theorem RC.vs {ok:Nat→Prop} {w:World}:∀ {zs:List Value},zs.all (·.oneCell')=true→RC ok w (vs zs) zs
 | [],_=>RC.nil
 | z :: zs,h=>by
  simp only [List.all_cons,Bool.and_eq_true] at h;exact RC.cons (by unfold RA;exact ⟨rfl,h.1⟩) (RC.vs h.2)
section
variable (P:Program) (c:Cx)
structure Ld (o:Oper) (f:Fm) (L:List ak) (S:List Nat) {ι:Type} (f':ι→Fm) (L':ι→List ak):Prop where
 go:∀ a w,St c f L a w→∀ (K:Act→World→Prop) (Q:Exit→Act→World→Prop),(∀ x v w',aq S w w'→St c (f' x) (L' x) (a.put o.dst v) w'→(∀ y∈aT (L' x),y∈aT L∨w.heap.size≤y)→K (a.put o.dst v) w')→o.wp P a w K Q
end
section
variable {P:Program} {c:Cx} {k:List Item} {f:Fm} {L:List ak} {ops:Array Oper} {l:List Oper} {o:Oper}
theorem JO.ld {S:List Nat} {ι:Type} {f':ι→Fm} {L':ι→List ak} (h:Ld P c o f L S f' L') (hw:dM ops o f=true) (hr:∀ x,JO P c ops l k (f' x) (L' x)):JO P c ops (o :: l) k f L:=⟨fun a w s=>by
 refine wpList_step fun K hK=>?_
 rw [dM.run hw s];simp only [↓reduceIte];exact h.go a w s K _ fun x v w' _ hp _=>hK _ _ ((hr x).go _ w' hp)⟩
theorem Ba {r:ak} {w:World} (hr:∀ x∈r.bY,w.heap.size≤x):∀ g,g < w.heap.size→bG c L g→bG c (r :: L) g:=fun g hg ho =>
 ⟨ho.1,fun hm=>by
  obtain ⟨q,hq,hx⟩:=di.1 hm;rcases List.mem_cons.1 hq with rfl | hq
  ·have:=hr g hx;omega
  ·exact ho.2 (di.2 ⟨q,hq,hx⟩)⟩
theorem St.new {a:Act} {w w':World} {t:Nat} {d:D} {v:Value} {r:ak} (s:St c f L a w) (ht:t < c.N) (k:aq [] w w') (hr:∀ x∈r.bY,w.heap.size≤x) (h:r.holds (bG c (r :: L)) w') (hd:RD (bG c (r :: L)) w' d v):St c ((t,d) :: f) (r :: L) (a.put (some t) v) w':=by
 have m:Mon (bG c L) (bG c (r :: L)) w w':=Mon.lJ k fun g hg ho=>⟨Ba hr g hg ho,by simp⟩
 refine s.put ht hd (s.kp.then k) ?_ ?_ ?_ m
 ·intro q hq;rcases List.mem_cons.1 hq with rfl | hq
  ·exact h
  ·exact (s.res q hq).cS k m (by simp)
 ·intro x hx;obtain ⟨q,hq,lQ⟩:=di.1 hx;rcases List.mem_cons.1 hq with e | hq
  ·exact .inr (Nat.le_trans s.kp.size (hr x (e ▸ lQ)))
  ·exact s.fF x (di.2 ⟨q,hq,lQ⟩)
 ·refine List.pairwise_cons.2 ⟨fun q hq x hx fI=>?_,s.ap⟩;have h1:=hr x hx;have h2:=s.lt x (di.2 ⟨q,hq,fI⟩);omega
theorem uA {r:ak} {w:World} (hr:∀ x∈r.bY,w.heap.size≤x):∀ y∈aT (r :: L),y∈aT L∨w.heap.size≤y:=fun y hy=>by
 obtain ⟨q,hq,h⟩:=di.1 hy;rcases List.mem_cons.1 hq with e | hq
 ·exact .inr (hr y (e ▸ h))
 ·exact .inl (di.2 ⟨q,hq,h⟩)
theorem qn.run {T:Nat} {zs:List Value} (h:qn P T=some zs):∃ z:Value,z.cells.toList=zs∧∀ w,(zeroValue T).run P w=.ok z w:=by
 unfold qn at h
 cases hi:P.info? T with
 | none=>rw [hi] at h;cases h
 | some i =>
  rw [hi] at h
  cases hz:i.zero with
  | none=>simp [hz] at h
  | some z=>simp [hz] at h;exact ⟨z,h,fun w=>by simp [zeroValue,typeInfo,Sem.run_bind,hi,hz]⟩
variable {T X:TypeId} {ps:String} {af:Array Edge} {gd:Option (Nat × Bool)} {t:Nat}
theorem Ld.alloc {zs:List Value} [i:bp P X zs] (ht:t < c.N):Ld P c ⟨some t,.alloc X,T,ps,af,gd⟩ f L [] (fun b:Nat=>(t,.c (.v (.pointer (some ⟨b,0,none⟩)))) :: f) (fun b=>.box b X (vs zs) :: L):=⟨fun a w s K Q hK=>by
 obtain ⟨z,hz,hr⟩:=qn.run i.h;have hk:aq [] w (w.alloc (.cells z.cells X)):=(aq.refl [] w).alloc _;have fO:(execOp a.eval ⟨some t,.alloc X,T,ps,af,gd⟩).run P w=.ok (.value (.pointer (some ⟨w.heap.size,0,none⟩))) (w.alloc (.cells z.cells X)):=by
  simp [execOp,Instr.alloc,Sem.run_bind,hr,newVar,newRow]
 unfold Oper.wp;rw [fO];refine hK w.heap.size _ _ hk (s.new ht hk (by simp [ak.bY]) ⟨zs,?_,RC.vs i.o⟩ (by unfold RD RA;exact ⟨rfl,rfl⟩)) (uA (by simp [ak.bY]));subst hz;have:=cJ.new w z.cells.toList X;simpa using this⟩
def g9:D→Option (List A)
 | .c a=>some [a]
 | .agg cs=>some cs
 | _=>none
theorem g9.rep {d:D} {cs:List A} (h:g9 d=some cs) {ok:Nat→Prop} {w:World} {x:Value} (r:RD ok w d x):RC ok w cs x.cells.toList:=by
 unfold g9 at h
 split at h
 ·cases h;unfold RD at r;have h1:=r.one;have:x.cells.toList=[x]:=by cases x <;> first | rfl | (cases h1;done)
  rw [this];exact RC.cons r RC.nil
 ·cases h;unfold RD at r;obtain ⟨vs,rfl,h⟩:=r;simpa [Value.cells] using h
 ·cases h
theorem Ld.box {x:Operand} {d:D} {cs:List A} (ht:t < c.N) (h:aU f x=some d) (hc:g9 d=some cs):Ld P c ⟨some t,.box X x,T,ps,af,gd⟩ f L [] (fun b:Nat=>(t,.c (.v (.pointer (some ⟨b,0,none⟩)))) :: f) (fun b=>.box b X cs :: L):=⟨fun a w s K Q hK=>by
 have hr:=g9.rep hc (s.ev h);have hk:aq [] w (w.alloc (.cells (a.eval x).cells X)):=(aq.refl [] w).alloc _;have fO:(execOp a.eval ⟨some t,.box X x,T,ps,af,gd⟩).run P w=.ok (.value (.pointer (some ⟨w.heap.size,0,none⟩))) (w.alloc (.cells (a.eval x).cells X)):=by
  simp [execOp,Instr.box,Sem.run_bind,newVar,newRow]
 unfold Oper.wp;rw [fO];have hf:∀ y∈(ak.box w.heap.size X cs).bY,w.heap.size≤y:=by simp [ak.bY]
 refine hK w.heap.size _ _ hk (s.new ht hk hf ⟨(a.eval x).cells.toList,?_,?_⟩ (by unfold RD RA;exact ⟨rfl,rfl⟩)) (uA hf)
 ·have:=cJ.new w (a.eval x).cells.toList X;simpa using this
 ·exact RC.cS (Mon.lJ hk fun g hg ho=>⟨Ba hf g hg ho,by simp⟩) cs _ hr⟩
theorem yx {i:Nat} {r r':ak} (hi:L[i]?=some r) (hf:r'.bY=r.bY) (x:Nat):x∈aT (L.set i r')↔x∈aT L:=by
 have:(L.set i r').map ak.bY=L.map ak.bY:=by
  rw [List.map_set];apply List.ext_getElem?;intro j;rw [List.getElem?_set]
  split
  ·rename_i e;subst e
   split
   ·rw [List.getElem?_map,hi];simp [hf]
   ·rename_i hn;simp at hn;rw [List.getElem?_eq_none (by simpa using hn)]
  ·rfl
 unfold aT;rw [List.flatMap_def,List.flatMap_def,this]
theorem PG {i:Nat} {r r':ak} (hi:L[i]?=some r) (hf:r'.bY=r.bY):bG c (L.set i r')=bG c L:=by
 funext x;unfold bG;rw [yx hi hf]
theorem Jb:∀ {L:List ak} {i:Nat} {r r':ak},L[i]?=some r→(∀ x,x∈r'.bY→x∈r.bY)→eY L→eY (L.set i r')
 | [],i,r,r',h,hf,ha=>by simp at h
 | q :: L,0,r,r',h,hf,ha=>by
  simp at h;subst h;have:=List.pairwise_cons.1 ha;exact List.pairwise_cons.2 ⟨fun s hs x hx=>this.1 s hs x (hf x hx),this.2⟩
 | q :: L,i + 1,r,r',h,hf,ha=>by
  simp at h;have:=List.pairwise_cons.1 ha;simp only [List.set_cons_succ];refine List.pairwise_cons.2 ⟨fun s hs x hx fI=>?_,Jb h hf this.2⟩;rcases List.mem_or_eq_of_mem_set hs with hs | rfl
  ·exact this.1 s hs x hx fI
  ·exact this.1 r (List.mem_of_getElem? h) x hx (hf x fI)
theorem eY.ne:∀ {L:List ak} {i j:Nat} {r q:ak},eY L→L[i]?=some r→L[j]?=some q→i≠j→∀ x∈r.bY,x∉q.bY
 | [],i,j,r,q,ha,hi,hj,hn,x,hx=>by simp at hi
 | p :: L,0,0,r,q,ha,hi,hj,hn,x,hx=>by simp at hn
 | p :: L,0,j + 1,r,q,ha,hi,hj,hn,x,hx=>by
  simp at hi hj;subst hi;exact (List.pairwise_cons.1 ha).1 q (List.mem_of_getElem? hj) x hx
 | p :: L,i + 1,0,r,q,ha,hi,hj,hn,x,hx=>fun fI=>by
  simp at hi hj;subst hj;exact (List.pairwise_cons.1 ha).1 r (List.mem_of_getElem? hi) x fI hx
 | p :: L,i + 1,j + 1,r,q,ha,hi,hj,hn,x,hx=>by
  simp at hi hj;exact eY.ne (List.pairwise_cons.1 ha).2 hi hj (by omega) x hx
theorem St.set {a:Act} {w w':World} {i:Nat} {r r':ak} (s:St c f L a w) (hi:L[i]?=some r) (hf:r'.bY=r.bY) (k:aq r.bY w w') (h:r'.holds (bG c L) w'):St c f (L.set i r') a w':=by
 have ho:=PG (c:=c) hi hf;have hJ:∀ x∈r.bY,x∈aT L:=fun x hx=>di.2 ⟨r,List.mem_of_getElem? hi,hx⟩
 have m:Mon (bG c L) (bG c L) w w':=Mon.lJ k fun g hg gz=>⟨gz,fun hm=>gz.2 (hJ g hm)⟩
 refine ⟨s.kp.trans k (fun x hx=>s.fF x (hJ x hx)),s.size,s.jV,fun q hq=>?_,fun x hx=>s.fF x ((yx hi hf x).1 hx),Jb hi (fun x hx=>hf ▸ hx) s.ap,fun t d hd=>by rw [ho];exact RD.cS m d _ (s.fr t d hd)⟩;rw [ho];obtain ⟨j,hj⟩:=List.getElem?_of_mem hq;rw [List.getElem?_set] at hj
 split at hj
 ·split at hj
  ·simp at hj;subst hj;exact h
  ·cases hj
 ·rename_i bO;exact (s.res q (List.mem_of_getElem? hj)).cS k m (fun x hx hm=>eY.ne s.ap hi hj bO x hm hx)
theorem cJ.eu {t:TypeId} {g:Nat}:∀ (cs p z q:List Value) (w:World),z.length=cs.length→cJ w g (p ++ z ++ q) t→cJ (w.setCells g p.length cs) g (p ++ cs ++ q) t∧aq [g] w (w.setCells g p.length cs)
 | [],p,z,q,w,h,hb=>by
  have:z=[]:=List.length_eq_zero_iff.1 h;subst this;exact ⟨hb,aq.refl _ _⟩
 | c :: cs,p,[],q,w,h,hb=>by simp at h
 | c :: cs,p,x :: z,q,w,h,hb=>by
  have h1:=hb.set p.length c;have e:(p ++ x :: z ++ q).set p.length c=(p ++ [c]) ++ z ++ q:=by simp
  rw [e] at h1;obtain ⟨h2,k2⟩:=cJ.eu cs (p ++ [c]) z q (w.setCell ⟨g,p.length,none⟩ c) (by simpa using h) h1;simp only [List.length_append,List.length_cons,List.length_nil,Nat.zero_add] at h2 k2;rw [World.setCells];refine ⟨by simpa using h2,((aq.refl [g] w).setCell (by simp) c).trans k2 (fun x hx=>.inl hx)⟩
def je (cs:List A) (o:Nat) (new:List A):List A:=cs.take o ++ new ++ cs.drop (o + new.length)
theorem Jc {T n:Nat} (hn:iR P T=some n) (w:World) (b o:Nat) (x:Value) (hx:x.cells.size=n) (ht:w.there b o n) (h1:∀ v∈x.cells.toList,v.oneCell'=true):(storeVar T ⟨b,o,none⟩ x).run P w=.ok () (w.setCells b o x.cells.toList):=by
 have:=run_storeCells_cells (P:=P) b o x.cells.toList 0 w (fun j hj=>by simpa using (ht j (by simpa [hx] using hj)).1) (fun j hj=>by simpa using (ht j (by simpa [hx] using hj)).2) h1;simp only [Nat.add_zero] at this;simp [storeVar,Sem.run_bind,iR.run hn,hx,this]
theorem Ld.DJ (i:Nat) {x y:Operand} {b o n:Nat} {B:TypeId} {cs es:List A} {d:D} [it:ff P X n] (hx:aU f x=some (.c (.v (.pointer (some ⟨b,o,none⟩))))) (hi:L[i]?=some (.box b B cs)) (hy:aU f y=some d) (hd:g9 d=some es) (hn:es.length=n) (hl:Nat.ble (o + n) cs.length=true) :
  Ld P c ⟨none,.store X x y,T,ps,af,gd⟩ f L [b] (fun _:Unit=>f) (fun _=>L.set i (.box b B (je cs o es))):=⟨fun a w s K Q hK=>by
 have Bb:o + n≤cs.length:=Nat.le_of_ble_eq_true hl;have rx:=s.val hx;have ry:=g9.rep hd (s.ev hy);obtain ⟨us,h1,h2⟩:=s.res _ (List.mem_of_getElem? hi);have hlen:=h2.len;have jT:(a.eval y).cells.size=n:=by have:=ry.len;simp at this;omega
 have hb:cJ w b (us.take o ++ (us.drop o).take n ++ us.drop (o + n)) B:=by
  have e:us.take o ++ (us.drop o).take n ++ us.drop (o + n)=us:=by
   rw [← List.drop_drop,List.append_assoc,List.take_append_drop,List.take_append_drop]
  rw [e];exact h1
 have hp:=cJ.eu (a.eval y).cells.toList (us.take o) ((us.drop o).take n) (us.drop (o + n)) w (by simp;omega) hb;have ho:(us.take o).length=o:=by simp;omega
 rw [ho] at hp;have fO:=Jc it.h w b o (a.eval y) jT (fun j hj=>⟨by rw [h1.cell];simp;omega,h1.free _⟩) ry.one;have gu:(execOp a.eval ⟨none,.store X x y,T,ps,af,gd⟩).run P w=.ok .skip (w.setCells b o (a.eval y).cells.toList):=by
  simp [execOp,Sem.run_bind,Instr.storeAt,rx,Instr.sureAddr,fO]
 unfold Oper.wp;rw [gu];refine hK () undef _ hp.2 (s.set hi rfl hp.2 ⟨_,hp.1,?_⟩) (fun y hy=>.inl ((yx (r':=.box b B (je cs o es)) hi rfl y).1 hy));have m:Mon (bG c L) (bG c L) w (w.setCells b o (a.eval y).cells.toList):=Mon.lJ hp.2 fun g hg gz=>⟨gz,fun hm=>gz.2 (di.2 ⟨_,List.mem_of_getElem? hi,by simpa [ak.bY] using hm⟩)⟩
 unfold je;rw [hn];exact RC.app (RC.app (RC.cS m _ _ (h2.take o)) (RC.cS m _ _ ry)) (RC.cS m _ _ (h2.drop (o + n)))⟩
theorem Jd {cs es:List A} (h:es.length=cs.length):je cs 0 es=es:=by simp [je,h]
theorem Je {cs:List A} {o:Nat} {a:A} (h:o < cs.length):je cs o [a]=cs.set o a:=by
 unfold je;apply List.ext_getElem?;intro j;simp only [List.length_cons,List.length_nil,Nat.zero_add];rcases Nat.lt_trichotomy j o with hj | hj | hj
 ·rw [List.append_assoc,List.getElem?_append_left (by simp;omega),List.getElem?_take,if_pos hj,List.getElem?_set_ne (by omega)]
 ·subst hj;rw [List.append_assoc,List.getElem?_append_right (by simp;omega),List.getElem?_set_self h];have:j - (List.take j cs).length=0:=by simp;omega
  rw [this];rfl
 ·rw [List.getElem?_append_right (by simp;omega),List.getElem?_set_ne (by omega),List.getElem?_drop]
  congr 1;simp;omega
end
end Fl
open Go.RowKit
namespace Fl
theorem PI (cs:List A) (o:Nat) (a:A) (es:List A) (h:o < cs.length):je cs o (a :: es)=je (cs.set o a) (o + 1) es:=by
 unfold je;rw [List.take_add_one,List.take_set,List.getElem?_set_self h];simp only [List.length_cons,Option.toList_some];rw [List.set_eq_of_length_le (by simp;omega),List.drop_set,if_pos (by omega)];simp only [List.append_assoc,List.singleton_append,List.cons_append,List.nil_append];rw [show o + (es.length + 1)=o + 1 + es.length by omega]
theorem PJ (cs:List A) (o:Nat):je cs o []=cs:=by simp [je]
theorem RX.put {ok:Nat→Prop} {w:World} {sz:Nat} {k:Nat}:∀ (es:List A) (us:List Value) {l:List (List A)} {xs:List Value} {cs:List A} (o:Nat),RX ok w sz l xs→l[k]?=some cs→cs.length=sz→RC ok w es us→o + es.length≤sz→RX ok w sz (l.set k (je cs o es)) (setFrom xs (k * sz + o) us)
 | [],us,l,xs,cs,o,h,e,hc,hr,ho=>by
  unfold RC at hr;subst hr;rw [PJ,setFrom,List.PK e];exact h
 | a :: es,us,l,xs,cs,o,h,e,hc,hr,ho=>by
  unfold RC at hr;obtain ⟨x,ys,rfl,h1,h2⟩:=hr;simp only [List.length_cons] at ho;have ck:=(List.getElem?_eq_some_iff.1 e).1;have h3:=RX.set k o h e (by omega) h1;have:=RX.put es ys (o + 1) h3 (List.getElem?_set_self ck) (by simpa using hc) h2 (by omega);rw [List.set_set] at this;rw [PI cs o a es (by omega),setFrom];exact this
where
 List.PK {α:Type} {l:List α} {k:Nat} {a:α} (e:l[k]?=some a):l.set k a=l:=by
  apply List.ext_getElem?;intro j;rw [List.getElem?_set]
  split
  ·rename_i h;subst h
   split
   ·exact e.symm
   ·rename_i hn;rw [List.getElem?_eq_none (by omega)] at e;cases e
  ·rfl
theorem RX.DK {ok:Nat→Prop} {w:World} {sz:Nat} {l:List (List A)} {xs:List Value} {k:Nat} {cs:List A} (h:RX ok w sz l xs) (e:l[k]?=some cs):cs.length=sz:=by
 obtain ⟨vs,h1,_,h3⟩:=h.get k e;rw [← h3.len,h1]
section
variable {P:Program} {c:Cx} {k:List Item} {f:Fm} {L:List ak} {ops:Array Oper} {l:List Oper} {o:Oper} {T X:TypeId} {ps:String} {af:Array Edge} {gd:Option (Nat × Bool)} {t:Nat}
theorem Ld.DL (i:Nat) {x y:Operand} {v:Value} {sz q o n:Nat} {e:TypeId} {ll:List (List A)} {cs es:List A} {d:D} [it:ff P X n] (hx:aU f x=some (.ow v sz q o)) (hi:L[i]?=some (.row v e sz ll)) (hq:ll[q]?=some cs) (hy:aU f y=some d) (hd:g9 d=some es) (hn:es.length=n) (hl:Nat.ble (o + n) sz=true) :
  Ld P c ⟨none,.store X x y,T,ps,af,gd⟩ f L (c9 v) (fun _:Unit=>f) (fun _=>L.set i (.row v e sz (ll.set q (je cs o es)))):=⟨fun a w s K Q hK=>by
 have Bb:o + n≤sz:=Nat.le_of_ble_eq_true hl;have rx:=s.ev hx;have ry:=g9.rep hd (s.ev hy);unfold RD at rx;obtain ⟨g,off,mm,cap,rfl,rx⟩:=rx;obtain ⟨xs,h1,h2⟩:=s.res _ (List.mem_of_getElem? hi);have hlen:=RX.len h2;have yy:=(List.getElem?_eq_some_iff.1 hq).1;have PL:=RX.DK h2 hq;have jT:(a.eval y).cells.size=n:=by have:=ry.len;simp at this;omega
 have Be:(q + 1) * sz≤ll.length * sz:=Nat.mul_le_mul_right _ yy;rw [Nat.add_mul] at Be;obtain ⟨r1,r2⟩:=Row.eu (a.eval y).cells.toList w xs (q * sz + o) h1 (by simp;omega);obtain ⟨g',xZ,e1,e2,hg,hc,hf⟩:=h1.cells (by omega);obtain ⟨rfl,rfl⟩:=by simpa using e1
 rw [← Nat.add_assoc] at r1 r2;have fO:=Jc it.h w g (off + q * sz + o) (a.eval y) jT (fun j hj=>⟨by
  rw [show off + q * sz + o + j=off + (q * sz + o + j) by omega,hc _ (by omega)];simp;omega,by
  rw [show off + q * sz + o + j=off + (q * sz + o + j) by omega];exact hf _⟩) ry.one
 have gu:(execOp a.eval ⟨none,.store X x y,T,ps,af,gd⟩).run P w=.ok .skip (w.setCells g (off + q * sz + o) (a.eval y).cells.toList):=by
  simp [execOp,Sem.run_bind,Instr.storeAt,rx,Instr.sureAddr,fO]
 unfold Oper.wp;rw [gu];have m:Mon (bG c L) (bG c L) w (w.setCells g (off + q * sz + o) (a.eval y).cells.toList):=Mon.lJ r2 fun g' hg gz=>⟨gz,fun hm=>gz.2 (di.2 ⟨_,List.mem_of_getElem? hi,by simpa [ak.bY] using hm⟩)⟩
 refine hK () undef _ r2 (s.set hi rfl r2 ⟨_,by rw [List.length_set];exact r1,?_⟩) (fun y hy=>.inl ((yx (r':=.row (.slice (some ⟨g,off,none⟩) mm cap) e sz (ll.set q (je cs o es))) hi rfl y).1 hy));exact RX.put es _ o (RX.cS m _ _ h2) hq PL (RC.cS m _ _ ry) (by omega)⟩
theorem Ld.ia {e sz:Nat} [i:fG P X e sz] (ht:t < c.N):Ld P c ⟨some t,.buildSlice X 0 #[],T,ps,af,gd⟩ f L [] (fun b:Nat=>(t,.c (.v (.slice (some ⟨b,0,none⟩) 0 0))) :: f) (fun b=>.row (.slice (some ⟨b,0,none⟩) 0 0) e sz [] :: L):=⟨fun a w s K Q hK=>by
 have hk:aq [] w (w.alloc (.cells #[] e)):=(aq.refl [] w).alloc _;have fO:(execOp a.eval ⟨some t,.buildSlice X 0 #[],T,ps,af,gd⟩).run P w=.ok (.value (.slice (some ⟨w.heap.size,0,none⟩) 0 0)) (w.alloc (.cells #[] e)):=by
  simp [execOp,Instr.buildSlice,Sem.run_bind,run_underlying (lM.kn i.h),iR.run i.s,Instr.fill,newRow,Array.range_zero']
 unfold Oper.wp;rw [fO];refine hK w.heap.size _ _ hk (s.new ht hk (by simp [ak.bY,c9]) ⟨[],Row.lit w [] e sz 0 (by simp) (by simp [maxLen]),rfl⟩ (by unfold RD RA;exact ⟨rfl,rfl⟩)) (uA (by simp [ak.bY,c9]))⟩
theorem Ld.fJ {e sz:Nat} {x:Operand} {d:D} {cs:List A} {zs:List Value} [i:fG P X e sz] [z:bp P e zs] (ht:t < c.N) (h:aU f x=some d) (hc:g9 d=some cs) (hn:cs.length=sz) (h0:Nat.ble 1 sz=true) (hs:Nat.ble sz 1000=true):Ld P c ⟨some t,.buildSlice X 1 #[(0,x)],T,ps,af,gd⟩ f L [] (fun b:Nat=>(t,.c (.v (.slice (some ⟨b,0,none⟩) 1 1))) :: f) (fun b=>.row (.slice (some ⟨b,0,none⟩) 1 1) e sz [cs] :: L):=⟨fun a w s K Q hK=>by
 have PM:1≤sz:=Nat.le_of_ble_eq_true h0;have Jf:sz≤1000:=Nat.le_of_ble_eq_true hs;have ry:=g9.rep hc (s.ev h);have jT:(a.eval x).cells.size=sz:=by have:=ry.len;simp at this;omega
 obtain ⟨zv,Bf,wq⟩:=qn.run z.h;have yg:zv.cells.size=sz:=by
  have h1:=z.s.symm.trans i.s;simp at h1;rw [← Bf] at h1;simpa using h1
 have hk:aq [] w (w.alloc (.cells (a.eval x).cells e)):=(aq.refl [] w).alloc _;have DM:Instr.fill (fun j=>some (j * sz,sz)) ((Array.range sz).map (zv.cells[· % zv.cells.size]!)) [(0,a.eval x)]=some (a.eval x).cells:=by
  have e1:=PN (a.eval x).cells ((Array.range sz).map (zv.cells[· % zv.cells.size]!)) (by simp [jT]);simp only [Nat.zero_add] at e1;simpa [Instr.fill,jT] using e1
 have fO:(execOp a.eval ⟨some t,.buildSlice X 1 #[(0,x)],T,ps,af,gd⟩).run P w=.ok (.value (.slice (some ⟨w.heap.size,0,none⟩) 1 1)) (w.alloc (.cells (a.eval x).cells e)):=by
  have h1:¬ sz > 2 ^ 24:=by omega
  have h2:¬ sz=0:=by omega
  simp only [execOp,Instr.buildSlice,Sem.run_bind,run_underlying (lM.kn i.h),iR.run i.s,Result.andThen_ok,Nat.one_mul,h1,h2,↓reduceIte,wq,Sem.run_pure,List.map_toArray,List.map_cons,List.map_nil,DM,newRow,run_newObj_alloc]
 unfold Oper.wp;rw [fO];have hf:∀ y∈(ak.row (.slice (some ⟨w.heap.size,0,none⟩) 1 1) e sz [cs]).bY,w.heap.size≤y:=by simp [ak.bY,c9]
 refine hK w.heap.size _ _ hk (s.new ht hk hf ⟨(a.eval x).cells.toList,?_,?_⟩ (by unfold RD RA;exact ⟨rfl,rfl⟩)) (uA hf)
 ·have:=Row.lit w (a.eval x).cells.toList e sz 1 (by simp [jT]) (by simp [maxLen]);simpa [c9] using this
 ·refine ⟨(a.eval x).cells.toList,[],by simp,by simpa using jT,?_,rfl⟩;exact RC.cS (Mon.lJ hk fun g hg ho=>⟨Ba hf g hg ho,by simp⟩) cs _ ry⟩
where
 PN (u z:Array Value) (h:z.size=u.size):u.zipIdx.foldl (fun cs x=>cs.setIfInBounds (0 + x.2) x.1) z=u:=by
  have key:∀ (l:List Value) (k:Nat) (z:Array Value),k + l.length≤z.size→(l.zipIdx k).foldl (fun cs x=>cs.setIfInBounds (0 + x.2) x.1) z=(z.toList.take k ++ l ++ z.toList.drop (k + l.length)).toArray:=by
   intro l
   induction l with
   | nil=>intro k z hz;simp
   | cons x l ih =>
    intro k z hz;simp only [List.length_cons] at hz;rw [List.zipIdx_cons,List.foldl_cons,ih (k + 1) _ (by simp;omega)];simp only [Nat.zero_add];apply congrArg;simp only [Array.toList_setIfInBounds,List.length_cons];rw [List.take_add_one,List.take_set,List.getElem?_set_self (by simp;omega)];rw [List.set_eq_of_length_le (by simp;omega),List.drop_set,if_pos (by omega)];simp only [Option.toList_some,List.append_assoc,List.singleton_append,List.cons_append,List.nil_append];rw [show k + (l.length + 1)=k + 1 + l.length by omega]
  rw [← Array.foldl_toList,Array.toList_zipIdx,key u.toList 0 z (by simp [h])];have:List.drop u.size z.toList=[]:=List.drop_eq_nil_of_le (by simp [h]);simp [this]
end
end Fl
open Go.RowKit
namespace Fl
theorem jf (r:ak) (L:List ak) (x:Nat):x∈aT (r :: L)↔x∈r.bY∨x∈aT L:=by simp [aT]
theorem RA.view {ok:Nat→Prop} {w:World} {sz:Nat} {l:List (List A)} {x:Value} (h:RA ok w (.r sz l) x):∃ ys S,View w x sz l.length ys S∧RX ok w sz l ys∧∀ g∈S,ok g:=by
 unfold RA at h;obtain ⟨ao,cap,rfl,h1,h2,h3⟩:=h;rcases h3 with rfl | ⟨g,off,rfl,nU,hg,hl⟩
 ·exact ⟨[],[],⟨by simp,ao,cap,rfl,by simpa using h1,h2,.inl ⟨rfl,rfl⟩⟩,rfl,by simp⟩
 ·have key:∀ (l:List (List A)) (off:Nat),RL ok w l g off sz→∃ ys:List Value,ys.length=l.length * sz∧w.rangeAt g off ys∧RX ok w sz l ys:=by
   intro l
   induction l with
   | nil=>intro off _;exact ⟨[],by simp,fun j v hj=>by simp at hj,rfl⟩
   | cons cs l ih =>
    intro off h;unfold RL at h;obtain ⟨⟨vs,a1,a2,a3⟩,h4⟩:=h;obtain ⟨ys,b1,b2,b3⟩:=ih _ h4;refine ⟨vs ++ ys,by simp [a1,b1,Nat.add_mul,Nat.add_comm],fun j v hj=>?_,vs,ys,rfl,a1,a3,b3⟩
    by_cases ck:j < vs.length
    ·rw [List.getElem?_append_left ck] at hj;exact a2 j v hj
    ·rw [List.getElem?_append_right (by omega)] at hj;have:=b2 _ v hj;rw [show off + sz + (j - vs.length)=off + j by omega] at this;exact this
  obtain ⟨ys,b1,b2,b3⟩:=key l off hl;exact ⟨ys,[g],⟨b1,_,cap,rfl,h1,h2,.inr ⟨g,off,rfl,rfl,hg,fun j hj=>by rw [List.getElem?_eq_getElem hj];exact b2 j _ (List.getElem?_eq_getElem hj)⟩⟩,b3,by simpa using nU⟩
theorem RA.Bi {ok:Nat→Prop} {w:World} {sz:Nat} {l:List (List A)} {x:Value} {ys:List Value} {S:List Nat} (h:View w x sz l.length ys S) (hr:RX ok w sz l ys) (hS:∀ g∈S,ok g):RA ok w (.r sz l) x:=by
 unfold RA;obtain ⟨hl,ao,cap,rfl,h1,h2,h3⟩:=h;refine ⟨ao,cap,rfl,h1,h2,?_⟩;rcases h3 with ⟨h3,_⟩ | ⟨g,off,rfl,rfl,hg,hc⟩
 ·exact .inl (List.length_eq_zero_iff.1 h3)
 ·refine .inr ⟨g,off,rfl,hS g (by simp),hg,?_⟩;have key:∀ (l:List (List A)) (ys:List Value) (off:Nat),w.rangeAt g off ys→RX ok w sz l ys→RL ok w l g off sz:=by
   intro l
   induction l with
   | nil=>intro ys off _ _;unfold RL;trivial
   | cons cs l ih =>
    intro ys off hc h;obtain ⟨vs,us,rfl,a1,a2,a3⟩:=h;unfold RL;refine ⟨⟨vs,a1,fun j v hj=>hc j v (by rw [List.getElem?_append_left (List.getElem?_eq_some_iff.1 hj).1];exact hj),a2⟩,ih us (off + sz) (fun j v hj=>?_) a3⟩;have:=hc (sz + j) v (by rw [List.getElem?_append_right (by omega),a1,Nat.add_sub_cancel_left];exact hj);rw [Nat.add_assoc];exact this
  exact key l ys off (fun j v hj=>by rw [hc j (List.getElem?_eq_some_iff.1 hj).1];exact hj) hr
theorem PO {w:World} {v:Value} {e:TypeId} {sz n:Nat} {xs:List Value} {S:List Nat} (h:Row w v e sz n xs S):c9 v=S:=by
 obtain ⟨h0,ao,cap,rfl,h2,h3,h4⟩:=h;rcases h4 with ⟨rfl,_,_,rfl⟩ | ⟨g,off,cur,rfl,rfl,_⟩ <;> rfl
section
variable {P:Program} {c:Cx} {k:List Item} {f:Fm} {L:List ak} {ops:Array Oper} {l:List Oper} {o:Oper} {T X:TypeId} {ps:String} {af:Array Edge} {gd:Option (Nat × Bool)} {t:Nat}
inductive yz (L:List ak) (e:TypeId) (sz:Nat):Value→List (List A)→List ak→Prop
 | own {v m L'}:L=.row v e sz m :: L'→yz L e sz v m L'
 | nil:yz L e sz (.slice none 0 0) [] L
inductive nV (L:List ak) (sz:Nat):D→List (List A)→Prop
 | read {m}:nV L sz (.c (.r sz m)) m
 | own (i:Nat) {v e m}:L[i]?=some (.row v e sz m)→nV L sz (.c (.v v)) m
 | nil:nV L sz (.c (.v (.slice none 0 0))) []
theorem Ld.PR {e sz bytes:Nat} {z:Value} [E:gK P X e sz bytes z] {x y:Operand} {v:Value} {l1 l2:List (List A)} {L':List ak} {d2:D} (h1:aU f x=some (.c (.v v))) (hd:yz L e sz v l1 L') (h2:aU f y=some d2) (hs:nV L' sz d2 l2) (hb:(l1.length + l2.length) * bytes≤140737488355328)
  {a:Act} {w:World} (s:St c f L a w):∃ v' w',(execOp a.eval ⟨some t,.call ⟨.builtin .append,#[x,y],#[X,X]⟩,T,ps,af,gd⟩).run P w=.ok (.value v') w'∧aq (c9 v) w w'∧Mon (bG c L) (bG c (.row v' e sz (l1 ++ l2) :: L')) w w'∧(ak.row v' e sz (l1 ++ l2)).holds (bG c (.row v' e sz (l1 ++ l2) :: L')) w'∧(∀ g∈c9 v',g∈c9 v∨w.heap.size≤g)∧(∀ q∈L',q∈L∧∀ g∈q.bY,g∉c9 v)∧eY L'∧(∀ g∈c9 v,g∈aT L):=by
 have rx:=s.val h1;have ry:=s.ev h2;have hD:∃ xs,Row w v e sz l1.length xs (c9 v)∧RX (bG c L) w sz l1 xs∧(∀ q∈L',q∈L∧∀ g∈q.bY,g∉c9 v)∧eY L'∧(∀ g∈c9 v,g∈aT L):=by
  cases hd with
  | own e1 =>
   subst e1;obtain ⟨xs,g1,g2⟩:=s.res _ (List.mem_cons_self ..);have ap:=List.pairwise_cons.1 s.ap;exact ⟨xs,g1,g2,fun q hq=>⟨List.mem_cons_of_mem _ hq,fun g hg gz=>ap.1 q hq g gz hg⟩,ap.2,fun g hg=>di.2 ⟨_,List.mem_cons_self ..,hg⟩⟩
  | nil=>exact ⟨[],Row.nil w e sz,rfl,fun q hq=>⟨hq,fun g _ hg=>by simp [c9] at hg⟩,s.ap,fun g hg=>by simp [c9] at hg⟩
 obtain ⟨xs,r1,r2,r3,r4,r5⟩:=hD;have hS:∃ ys S,View w (a.eval y) sz l2.length ys S∧RX (bG c L) w sz l2 ys:=by
  cases hs with
  | read=>unfold RD at ry;obtain ⟨ys,S,g1,g2,_⟩:=ry.view;exact ⟨ys,S,g1,g2⟩
  | own i hi =>
   obtain ⟨ys,g1,g2⟩:=s.res _ (r3 _ (List.mem_of_getElem? hi)).1;unfold RD RA at ry;rw [ry.1];exact ⟨ys,_,g1.view,g2⟩
  | nil =>
   unfold RD RA at ry;rw [ry.1];exact ⟨[],[],View.nil w sz,rfl⟩
 obtain ⟨ys,S,s1,s2⟩:=hS;obtain ⟨ao,cap,w',S',fO,g1,g2,g3,_⟩:=Du E.h T r1 s1 s2.one hb;have DN:=PO g1;have hm:Mon (bG c L) (bG c (.row (.slice ao (l1.length + l2.length) cap) e sz (l1 ++ l2) :: L')) w w':=by
  refine Mon.lJ g2 fun g hg ho=>⟨⟨ho.1,fun hJ=>?_⟩,fun hJ=>ho.2 (r5 g hJ)⟩
  rcases (jf _ _ _).1 hJ with hJ | hJ
  ·rw [ak.bY,DN] at hJ;rcases g3 g hJ with h | h
   ·exact ho.2 (r5 g h)
   ·omega
  ·obtain ⟨q,hq,PT⟩:=di.1 hJ;exact ho.2 (di.2 ⟨q,(r3 q hq).1,PT⟩)
 refine ⟨.slice ao (l1.length + l2.length) cap,w',?_,g2,hm,⟨xs ++ ys,by rw [DN,List.length_append];exact g1,RX.app (RX.cS hm _ _ r2) (RX.cS hm _ _ s2)⟩,fun g hg=>by rw [DN] at hg;exact g3 g hg,r3,r4,r5⟩;simp [execOp,resolve,invoke,builtin,rx,Sem.run_bind,fO]
theorem St.PU {e sz:Nat} {v v':Value} {l1 l2:List (List A)} {L':List ak} {a:Act} {w w':World} (s:St c f L a w) (ht:t < c.N) (k:aq (c9 v) w w') (m:Mon (bG c L) (bG c (.row v' e sz (l1 ++ l2) :: L')) w w') (hh:(ak.row v' e sz (l1 ++ l2)).holds (bG c (.row v' e sz (l1 ++ l2) :: L')) w') (hv:∀ g∈c9 v',g∈c9 v∨w.heap.size≤g) (h3:∀ q∈L',q∈L∧∀ g∈q.bY,g∉c9 v) (h4:eY L') (h5:∀ g∈c9 v,g∈aT L) (h1:v'.oneCell'=true) :
  St c ((t,.c (.v v')) :: f) (.row v' e sz (l1 ++ l2) :: L') (a.put (some t) v') w':=by
 refine s.put ht (by unfold RD RA;exact ⟨rfl,h1⟩) (s.kp.trans k (fun g hg=>s.fF g (h5 g hg))) ?_ ?_ ?_ m
 ·intro q hq;rcases List.mem_cons.1 hq with rfl | hq
  ·exact hh
  ·exact (s.res q (h3 q hq).1).cS k m (fun g hg gz=>(h3 q hq).2 g hg gz)
 ·intro x hx;rcases (jf _ _ _).1 hx with hx | hx
  ·rcases hv x hx with h | h
   ·exact s.fF x (h5 x h)
   ·exact .inr (Nat.le_trans s.kp.size h)
  ·obtain ⟨q,hq,lQ⟩:=di.1 hx;exact s.fF x (di.2 ⟨q,(h3 q hq).1,lQ⟩)
 ·refine List.pairwise_cons.2 ⟨fun q hq x hx fI=>?_,h4⟩;rcases hv x hx with h | h
  ·exact (h3 q hq).2 x fI h
  ·have:=s.lt x (di.2 ⟨q,(h3 q hq).1,fI⟩);omega
theorem Ld.DO {e sz bytes:Nat} {z:Value} [E:gK P X e sz bytes z] {x y:Operand} {v:Value} {l1 l2:List (List A)} {L':List ak} {d2:D} (ht:t < c.N) (h1:aU f x=some (.c (.v v))) (hd:yz L e sz v l1 L') (h2:aU f y=some d2) (hs:nV L' sz d2 l2) (hb:(l1.length + l2.length) * bytes≤140737488355328) :
  Ld P c ⟨some t,.call ⟨.builtin .append,#[x,y],#[X,X]⟩,T,ps,af,gd⟩ f L (c9 v) (fun v':Value=>(t,.c (.v v')) :: f) (fun v'=>.row v' e sz (l1 ++ l2) :: L'):=⟨fun a w s K Q hK=>by
 obtain ⟨v',w',fO,g1,g2,g3,g4,g5,g6,g7⟩:=Ld.PR (P:=P) (X:=X) (t:=t) (T:=T) (ps:=ps) (af:=af) (gd:=gd) h1 hd h2 hs hb s;unfold Oper.wp;rw [fO];have PV:v'.oneCell'=true:=by
  obtain ⟨xs,r,_⟩:=g3;obtain ⟨ao,cap,rfl⟩:=r.shape;rfl
 exact hK v' _ _ g1 (s.PU ht g1 g2 g3 g4 g5 g6 g7 PV) fun y hy=>by
  rcases (jf _ _ _).1 hy with hy | hy
  ·rcases g4 y hy with h | h
   ·exact .inl (g7 y h)
   ·exact .inr h
  ·obtain ⟨q,hq,PW⟩:=di.1 hy;exact .inl (di.2 ⟨q,(g5 q hq).1,PW⟩)⟩
theorem St.freeze {e sz:Nat} {v:Value} {l:List (List A)} {a:Act} {w:World} (s:St c ((t,.c (.v v)) :: f) (.row v e sz l :: L) a w):St c ((t,.c (.r sz l)) :: f) L a w:=by
 have m:Mon (bG c (.row v e sz l :: L)) (bG c L) w w:=⟨Nat.le_refl _,fun g _ ho=>⟨⟨ho.1,fun hx=>ho.2 ((jf _ _ _).2 (.inr hx))⟩,rfl⟩⟩
 have ap:=List.pairwise_cons.1 s.ap;refine ⟨s.kp,s.size,s.jV,fun q hq=>(s.res q (List.mem_cons_of_mem _ hq)).cS (aq.refl [] w) m (by simp),fun x hx=>s.fF x ((jf _ _ _).2 (.inr hx)),ap.2,fun u e' hu=>?_⟩
 by_cases e1:t=u
 ·subst e1;rw [oV] at hu;cases hu;have hv:=s.fr t _ (oV _ _ _);obtain ⟨xs,r1,r2⟩:=s.res _ (List.mem_cons_self ..);unfold RD RA at hv;rw [hv.1];unfold RD;refine RA.Bi r1.view (RX.cS m _ _ r2) fun g hg=>⟨.inr (s.fF g ((jf _ _ _).2 (.inl hg))),fun hx=>?_⟩
  obtain ⟨q,hq,lQ⟩:=di.1 hx;exact ap.1 q hq g hg lQ
 ·rw [uy e1] at hu;exact RD.cS m e' _ (s.fr u e' (by rw [uy e1];exact hu))
theorem Ld.Jg {e sz bytes:Nat} {z:Value} [E:gK P X e sz bytes z] {x y:Operand} {v:Value} {l1 l2:List (List A)} {L':List ak} {d2:D} (ht:t < c.N) (h1:aU f x=some (.c (.v v))) (hd:yz L e sz v l1 L') (h2:aU f y=some d2) (hs:nV L' sz d2 l2) (hb:(l1.length + l2.length) * bytes≤140737488355328) :
  Ld P c ⟨some t,.call ⟨.builtin .append,#[x,y],#[X,X]⟩,T,ps,af,gd⟩ f L (c9 v) (fun _:Unit=>(t,.c (.r sz (l1 ++ l2))) :: f) (fun _=>L'):=⟨fun a w s K Q hK =>
 (Ld.DO ht h1 hd h2 hs hb).go a w s K Q fun v' u w' k' s' hf=>hK () u w' k' s'.freeze fun y hy=>hf y ((jf _ _ _).2 (.inr hy))⟩
end
end Fl
open Go.RowKit
namespace Fl
inductive lR:A→A→Prop
 | refl {a}:lR a a
 | nil {sz}:lR (.v (.slice none 0 0)) (.r sz [])
inductive jg:List A→List A→Prop
 | nil:jg [] []
 | cons {a b xs ys}:lR a b→jg xs ys→jg (a :: xs) (b :: ys)
 | refl {xs}:jg xs xs
mutual
inductive dB:D→D→Prop
 | refl {d}:dB d d
 | c {a b}:lR a b→dB (.c a) (.c b)
 | agg {a b}:jg a b→dB (.agg a) (.agg b)
 | any {d}:dB d .any
 | aZ {a b}:aK a b→dB (.aZ a) (.aZ b)
inductive aK:List D→List D→Prop
 | nil:aK [] []
 | cons {a b xs ys}:dB a b→aK xs ys→aK (a :: xs) (b :: ys)
end
theorem dB.of_eq {a b:D} (h:a=b):dB a b:=h ▸ .refl
section
variable {ok:Nat→Prop} {w:World}
theorem lR.rep {a b:A} (h:lR a b) {x:Value} (r:RA ok w a x):RA ok w b x:=by
 cases h with
 | refl=>exact r
 | nil=>unfold RA at r ⊢;exact ⟨none,0,r.1,by simp,by simp [maxLen],.inl rfl⟩
theorem jg.rep {a b:List A} (h:jg a b):∀ {x:List Value},RC ok w a x→RC ok w b x:=by
 induction h with
 | nil=>exact id
 | refl=>exact id
 | cons h1 h2 ih=>intro x r;unfold RC at r;obtain ⟨y,ys,rfl,r1,r2⟩:=r;exact RC.cons (h1.rep r1) (ih r2)
mutual
theorem dB.rep {a b:D}:dB a b→∀ {x:Value},RD ok w a x→RD ok w b x
 | .refl,x,r=>r
 | .c h,x,r=>by unfold RD at r ⊢;exact h.rep r
 | .agg h,x,r=>by unfold RD at r ⊢;obtain ⟨vs,h1,h2⟩:=r;exact ⟨vs,h1,h.rep h2⟩
 | .any,x,r=>by unfold RD;trivial
 | .aZ h,x,r=>by unfold RD at r ⊢;obtain ⟨vs,h1,h2⟩:=r;exact ⟨vs,h1,aK.rep h h2⟩
theorem aK.rep {a b:List D}:aK a b→∀ {x:List Value},bU ok w a x→bU ok w b x
 | .nil,x,r=>r
 | .cons h1 h2,x,r=>by unfold bU at r;obtain ⟨y,ys,rfl,r1,r2⟩:=r;exact bU.cons (dB.rep h1 r1) (aK.rep h2 r2)
end
end
def mz (ok:Nat→Prop) (e:World) (L pL:List ak) (g:Nat):Prop:=(ok g∨g∈aT L∨e.heap.size≤g)∧g∉aT pL
def PX (ok:Nat→Prop) (e:World) (L:List ak) (pd:D) (pL:List ak) (en:Ending) (w':World):Prop :=
 ∃ x,en=.returned x∧aq (aT L) e w'∧(∀ y∈aT pL,y∈aT L∨e.heap.size≤y)∧eY pL∧(∀ r∈pL,r.holds (mz ok e L pL) w')∧RD (mz ok e L pL) w' pd x
def DP {ι:Type} (ok:Nat→Prop) (e:World) (L:List ak) (post:ι→D × List ak) (en:Ending) (w':World):Prop:=∃ i,PX ok e L (post i).1 (post i).2 en w'
structure ax (P:Program) (F:FuncId) (ds:List D) (L:List ak) {ι:Type} (post:ι→D × List ak):Prop where
 go:∀ (ok:Nat→Prop) (e:World) (xs:List Value),bU ok e ds xs→(∀ r∈L,r.holds ok e)→eY L→(∀ x∈aT L,¬ ok x)→Calls P F xs.toArray e (DP ok e L post)
abbrev Pure (P:Program) (F:FuncId) (ds:List D) (d:D):Prop:=ax P F ds [] (fun _:Unit=>(d,[]))
def cx (F:FuncId) {ι:Type} (ok:Nat→Prop) (e:World) (L:List ak) (post:ι→D × List ak) (N:Nat):Cx:=⟨F,DP ok e L post,aT L,ok,e,N⟩
def wu:Nat→List D→Fm
 | _,[]=>[]
 | k,d :: ds=>(k,d) :: wu (k + 1) ds
theorem Jh:∀ (ds:List D) (k t:Nat) (d:D),look (wu k ds) t=some d→k≤t∧ds[t - k]?=some d
 | [],k,t,d,h=>by simp [wu,look] at h
 | x :: ds,k,t,d,h=>by
  simp only [wu,look] at h
  cases hb:Nat.beq k t with
  | true =>
   rw [hb] at h;have:=Nat.eq_of_beq_eq_true hb;subst this;simp at h;subst h;simp
  | false =>
   rw [hb] at h;obtain ⟨h1,h2⟩:=Jh ds (k + 1) t d h;exact ⟨by omega,by rw [show t - k=t - (k + 1) + 1 by omega];simpa using h2⟩
section
variable {P:Program} {F:FuncId} {ds:List D} {L:List ak} {ι:Type} {post:ι→D × List ak} {fn:Func} {body:Code} {N:Nat}
theorem ax.intro (hf:P.funcs[F]?=some fn) (hb:fn.body=some body) (hN:fn.ntmps=N) (hn:Nat.ble ds.length N=true)
  (h:∀ ok e,J P (cx F ok e L post N) [.code body] (wu 0 ds) L):ax P F ds L post:=⟨fun ok e xs hd hr ha ho cs=>by
 have hlen:=hd.len;have hn':ds.length≤N:=Nat.le_of_ble_eq_true hn
 let b:Frame:={ (default:Frame) with fn:=F,kind:=.normal }
 have PY:Frame.enter P F xs.toArray .normal=b.at { tmps:=xs.toArray ++ Array.replicate (fn.ntmps - xs.toArray.size) undef,defers:=[] } [.code body]:=by
  simp [Frame.enter,Frame.at,hf,hb,b]
 have m:Mon ok (bG (cx F ok e L post N) L) e e:=⟨Nat.le_refl _,fun g _ hg=>⟨⟨.inl hg,fun hx=>ho g hx hg⟩,rfl⟩⟩
 have eN:St (cx F ok e L post N) (wu 0 ds) L { tmps:=xs.toArray ++ Array.replicate (fn.ntmps - xs.toArray.size) undef,defers:=[] } e:=by
  refine ⟨aq.refl _ _,by simp [cx];omega,rfl,fun r uD=>(hr r uD).cS (aq.refl [] e) m (by simp),fun x hx=>.inl hx,ha,fun t d ht=>?_⟩;obtain ⟨_,h2⟩:=Jh ds 0 t d ht;rw [Nat.sub_zero] at h2;obtain ⟨x,hx,rF⟩:=hd.get t h2;have ck:=(List.getElem?_eq_some_iff.1 hx).1;have:(xs.toArray ++ Array.replicate (fn.ntmps - xs.toArray.size) undef).getD t undef=x:=by
   rw [Array.getD_eq_getD_getElem?,Array.getElem?_append_left (by simpa using ck)];simp [hx]
  rw [this];exact RD.cS m d _ rF
 obtain ⟨en,w',fr,h1,h2,h3,h4⟩:=(h ok e).go _ e eN b cs rfl rfl;exact ⟨en,w',fr,h1,by rw [PY];exact h2,h3,h4⟩⟩
end
inductive wv (P:Program) (f:Fm) (L:List ak):ResultVar→D→Prop
 | tmp {t d}:look f t=some d→wv P f L (.tmp t) d
 | cell (i:Nat) {t b T B n cs} [jW P T n]:look f t=some (.c (.v (.pointer (some ⟨b,0,none⟩))))→L[i]?=some (.box b B cs)→cs.length=n→wv P f L (.cell t T) (.agg cs)
 | PZ (i:Nat) {t b T B a} [gy P T]:look f t=some (.c (.v (.pointer (some ⟨b,0,none⟩))))→L[i]?=some (.box b B [a])→wv P f L (.cell t T) (.c a)
inductive iC (P:Program) (f:Fm) (L:List ak):List ResultVar→List D→Prop
 | nil:iC P f L [] []
 | cons {r d rs ds}:wv P f L r d→iC P f L rs ds→iC P f L (r :: rs) (d :: ds)
def qo:List D→D
 | [d]=>d
 | ds=>.aZ ds
def yA (tmps:Array Value):ResultVar→Sem Value
 | .tmp t=>pure (tmps.getD t undef)
 | .cell a t=>do loadVar t (← asAddr (tmps.getD a undef))
theorem P0 (fn:Func) (tmps:Array Value):results fn tmps=(do let vs ← fn.results.mapM (yA tmps);pure (if h:vs.size=1 then vs[0] else .tuple vs)):=rfl
section
variable {P:Program} {c:Cx} {f:Fm} {L:List ak}
theorem wv.run {r:ResultVar} {d:D} (h:wv P f L r d) {a:Act} {w:World} (s:St c f L a w):∃ x,RD (bG c L) w d x∧(yA a.tmps r).run P w=.ok x w:=by
 cases h with
 | tmp h1=>exact ⟨_,s.fr _ _ h1,rfl⟩
 | @cell i t b T B n cs it h1 h2 h3 =>
  have hv:=s.fr _ _ h1;unfold RD RA at hv;obtain ⟨vs,g1,g2⟩:=s.res _ (List.mem_of_getElem? h2);refine ⟨.agg vs.toArray,by unfold RD;exact ⟨vs,rfl,g2⟩,?_⟩;have hlen:=g2.len;have yo:(loadCells ⟨b,0,none⟩ vs.length).run P w=.ok vs.toArray w:=run_loadCells_list (P:=P) w ⟨b,0,none⟩ _ (fun j v hv=>by rw [Addr.add_mid];exact g1.range j v hv);rw [hlen,h3] at yo;simp only [yA,hv.1,asAddr,Sem.run_bind,Sem.run_pure,Result.andThen_ok,loadVar,mu.runT it.h,↓reduceIte,iR.run it.s,yo]
 | @PZ i t b T B e it h1 h2 =>
  have hv:=s.fr _ _ h1;unfold RD RA at hv;obtain ⟨vs,g1,g2⟩:=s.res _ (List.mem_of_getElem? h2);obtain ⟨x,hx,hr⟩:=g2.get 0 rfl;refine ⟨x,by unfold RD;exact hr,?_⟩;have rz:w.cell? ⟨b,0,none⟩=some x:=by rw [g1.cell];exact hx
  have hl:(load ⟨b,0,none⟩).run P w=.ok x w:=by simp [load,Sem.run,rz]
  simp only [yA,hv.1,asAddr,Sem.run_bind,Sem.run_pure,Result.andThen_ok,loadVar,mu.DF it.h,Bool.false_eq_true,↓reduceIte,hl]
theorem iC.run {rs:List ResultVar} {ds:List D} (h:iC P f L rs ds) {a:Act} {w:World} (s:St c f L a w):∃ xs,bU (bG c L) w ds xs∧(rs.mapM (yA a.tmps)).run P w=.ok xs w:=by
 induction h with
 | nil=>exact ⟨[],bU.nil,rfl⟩
 | cons h1 h2 ih =>
  obtain ⟨x,a1,a2⟩:=h1.run s;obtain ⟨xs,b1,b2⟩:=ih;refine ⟨x :: xs,bU.cons a1 b1,?_⟩;rw [List.mapM_cons,Sem.run_bind,a2];simp [Sem.run_bind,b2]
end
section
variable {P:Program} {F:FuncId} {ok:Nat→Prop} {e:World} {L0 L L':List ak} {ι:Type} {post:ι→D × List ak} {fn:Func} {N:Nat} {f:Fm} {k:List Item}
theorem mapM_some {α:Type} {L L':List α}:∀ {idx:List Nat},idx.map (fun i=>L[i]?)=L'.map some→∀ q∈L',q∈L
 | [],h=>by cases L' with | nil=>simp | cons x l=>simp at h
 | i :: idx,h=>by
  cases L' with
  | nil=>simp
  | cons x l =>
   simp only [List.map_cons,List.cons.injEq] at h;intro q hq;rcases List.mem_cons.1 hq with rfl | hq
   ·exact List.mem_of_getElem? h.1
   ·exact mapM_some h.2 q hq
theorem Ji {L:List ak} (ha:eY L):∀ {idx:List Nat} {L':List ak},idx.Nodup→idx.map (fun i=>L[i]?)=L'.map some→eY L'
 | [],L',hn,h=>by cases L' with | nil=>exact List.Pairwise.nil | cons x l=>simp at h
 | i :: idx,L',hn,h=>by
  cases L' with
  | nil=>simp at h
  | cons x l =>
   simp only [List.map_cons,List.cons.injEq] at h;have lS:=List.nodup_cons.1 hn;refine List.pairwise_cons.2 ⟨fun q hq=>?_,Ji ha lS.2 h.2⟩;have:∃ j∈idx,L[j]?=some q:=by
    have hm:some q∈l.map some:=List.mem_map.2 ⟨q,hq,rfl⟩;rw [← h.2] at hm;exact List.mem_map.1 hm
   obtain ⟨j,hj,fy⟩:=this;exact eY.ne ha h.1 fy (fun e=>lS.1 (e ▸ hj))
theorem Jj (hf:P.funcs[F]?=some fn) {rs:List ResultVar} {ds:List D} (iK:fn.results=rs.toArray) (h:iC P f L rs ds) {d:D} {i:ι} (hle:dB (qo ds) d) (idx:List Nat) (dD:idx.Nodup) (hL:idx.map (fun i=>L[i]?)=L'.map some) (hp:post i=(d,L')) {a:Act} {w:World} (s:St (cx F ok e L0 post N) f L a w) :
  ∃ x,(results fn a.tmps).run P w=.ok x w∧DP ok e L0 post (.returned x) w:=by
 obtain ⟨xs,h1,h2⟩:=h.run s;have hr:(results fn a.tmps).run P w=.ok (if h:xs.toArray.size=1 then xs.toArray[0] else .tuple xs.toArray) w:=by
  rw [P0,iK,List.mapM_toArray,Sem.run_bind,map_eq_pure_bind,Sem.run_bind,h2];rfl
 refine ⟨_,hr,i,?_⟩;rw [hp];have Jk:=mapM_some hL;have Jl:∀ x,x∈aT L'→x∈aT L:=fun x hx=>by
  obtain ⟨q,hq,hx⟩:=di.1 hx;exact di.2 ⟨q,Jk q hq,hx⟩
 have m:Mon (bG (cx F ok e L0 post N) L) (mz ok e L0 L') w w:=⟨Nat.le_refl _,fun g _ hg=>⟨⟨hg.1,fun hx=>hg.2 (Jl g hx)⟩,rfl⟩⟩
 refine ⟨_,rfl,s.kp,fun y hy=>s.fF y (Jl y hy),Ji s.ap dD hL,fun r hr=>(s.res r (Jk r hr)).cS (aq.refl [] w) m (by simp),RD.cS m _ _ (hle.rep ?_)⟩
 cases ds with
 | nil=>unfold bU at h1;subst h1;unfold qo RD;exact ⟨[],rfl,bU.nil⟩
 | cons d1 ds =>
  unfold bU at h1;obtain ⟨x,ys,rfl,h3,h4⟩:=h1
  cases ds with
  | nil=>unfold bU at h4;subst h4;exact h3
  | cons d2 ds =>
   unfold bU at h4;obtain ⟨y,zs,rfl,h5,h6⟩:=h4;unfold qo RD;exact ⟨x :: y :: zs,rfl,bU.cons h3 (bU.cons h5 h6)⟩
theorem J.ret (hf:P.funcs[F]?=some fn) {rs:List ResultVar} {ds:List D} (iK:fn.results=rs.toArray) (h:iC P f L rs ds) {d:D} (i:ι) (hle:dB (qo ds) d) (idx:List Nat) (dD:idx.Nodup) (hL:idx.map (fun i=>L[i]?)=L'.map some) (hp:post i=(d,L')):J P (cx F ok e L0 post N) (.code .ret :: k) f L:=⟨fun a w s=>by
 obtain ⟨x,h1,h2⟩:=Jj hf iK h hle idx dD hL hp s;exact fun b cs hb hk=>⟨.returned x,w,_,h2,Steps.one step_ret,hb,rfl,s.jV,hk,fn,by simpa [Frame.at,hb,cx] using hf,h1⟩⟩
theorem J.fin (hf:P.funcs[F]?=some fn) {rs:List ResultVar} {ds:List D} (iK:fn.results=rs.toArray) (h:iC P f L rs ds) {d:D} (i:ι) (hle:dB (qo ds) d) (idx:List Nat) (dD:idx.Nodup) (hL:idx.map (fun i=>L[i]?)=L'.map some) (hp:post i=(d,L')):J P (cx F ok e L0 post N) [] f L:=⟨fun a w s=>by
 obtain ⟨x,h1,h2⟩:=Jj hf iK h hle idx dD hL hp s;exact fun b cs hb hk=>⟨.returned x,w,_,h2,Steps.one step_end,hb,rfl,s.jV,hk,fn,by simpa [Frame.at,hb,cx] using hf,h1⟩⟩
end
end Fl
open Go.RowKit
namespace Fl
theorem oW (L M:List ak) (x:Nat):x∈aT (L ++ M)↔x∈aT L∨x∈aT M:=by simp [aT]
def iL (f:Fm):List Operand→Option (List D)
 | []=>some []
 | x :: xs=>match aU f x,iL f xs with
  | some d,some ds=>some (d :: ds)
  | _,_=>none
section
variable {P:Program} {c:Cx} {k:List Item} {f:Fm} {L:List ak} {ops:Array Oper} {l:List Oper} {o:Oper} {T X:TypeId} {ps:String} {af:Array Edge} {gd:Option (Nat × Bool)} {t:Nat}
theorem St.Jm {a:Act} {w:World} (s:St c f L a w):∀ {xs:List Operand} {ds:List D},iL f xs=some ds→bU (bG c L) w ds (xs.map a.eval)
 | [],ds,h=>by simp [iL] at h;subst h;exact bU.nil
 | x :: xs,ds,h=>by
  unfold iL at h
  cases h1:aU f x with
  | none=>rw [h1] at h;cases h
  | some d =>
   cases h2:iL f xs with
   | none=>rw [h1,h2] at h;cases h
   | some wz=>rw [h1,h2] at h;cases h;exact bU.cons (s.ev h1) (St.Jm s h2)
theorem P4 {F:FuncId} (h:DI P F=true) (args:Array Value) (w:World):(callFunc F args).run P w=.ok (.enter F args) w:=by
 unfold DI at h
 cases hf:P.funcs[F]? with
 | none=>rw [hf] at h;cases h
 | some fn =>
  rw [hf] at h;simp at h;have h2:fn.body≠none:=by intro hb;simp [hb] at h
  simp [callFunc,Sem.run_bind,hf,h.1,h2]
theorem Ld.call {F:FuncId} {args:List Operand} {tys:Array TypeId} {dm ds:List D} {Ll Lr:List ak} {ι:Type} {post:ι→D × List ak} [i:aJ P F] (hC:ax P F ds Ll post) (ht:t < c.N) (h:iL f args=some dm) (hle:aK dm ds) (hL:L=Ll ++ Lr) :
  Ld P c ⟨some t,.call ⟨.value (.func F),args.toArray,tys⟩,T,ps,af,gd⟩ f L (aT Ll) (fun i=>(t,(post i).1) :: f) (fun i=>(post i).2 ++ Lr):=⟨fun a w s K Q hK=>by
 have Qa:=hle.rep (s.Jm h);have gu:(execOp a.eval ⟨some t,.call ⟨.value (.func F),args.toArray,tys⟩,T,ps,af,gd⟩).run P w=.ok (.enter F (args.map a.eval).toArray) w:=by
  simp [execOp,resolve,Deferred.ofValue,invoke,Act.eval,Sem.run_bind,P4 i.h]
 unfold Oper.wp;rw [gu];have oX:=List.pairwise_append.1 (show List.Pairwise _ (Ll ++ Lr) from hL ▸ s.ap);have Qb:∀ r∈Ll,r∈L:=fun r hr=>hL ▸ List.mem_append_left Lr hr
 have Qc:∀ r∈Lr,r∈L:=fun r hr=>hL ▸ List.mem_append_right Ll hr
 have kR:∀ x,x∈aT Ll→x∈aT L:=fun x hx=>by rw [hL,oW];exact .inl hx
 have qp:∀ x,x∈aT Lr→x∈aT L:=fun x hx=>by rw [hL,oW];exact .inr hx
 have rG:∀ x,x∈aT Ll→x∉aT Lr:=fun x hx fI=>by
  obtain ⟨q,hq,h1⟩:=di.1 hx;obtain ⟨r,hr,h2⟩:=di.1 fI;exact oX.2.2 q hq r hr x h1 h2
 refine Calls.mono (hC.go (bG c L) w (args.map a.eval) Qa (fun r hr=>s.res r (Qb r hr)) oX.1 (fun x hx ho=>ho.2 (kR x hx))) ?_
 rintro en w' ⟨i,x,rfl,kp,g1,g2,g3,g4⟩
 have nU:∀ g,g < w'.heap.size→mz (bG c L) w Ll (post i).2 g→bG c ((post i).2 ++ Lr) g:=fun g _ hg=>by
  obtain ⟨hg,hn⟩:=hg;rcases hg with hg | hg | hg
  ·exact ⟨hg.1,fun hx=>by rcases (oW _ _ _).1 hx with hx | hx;exact hn hx;exact hg.2 (qp g hx)⟩
  ·exact ⟨.inr (s.fF g (kR g hg)),fun hx=>by rcases (oW _ _ _).1 hx with hx | hx;exact hn hx;exact rG g hg hx⟩
  ·exact ⟨.inr (.inr (Nat.le_trans s.kp.size hg)),fun hx=>by
    rcases (oW _ _ _).1 hx with hx | hx
    ·exact hn hx
    ·have:=s.lt g (qp g hx);omega⟩
 have m1:Mon (mz (bG c L) w Ll (post i).2) (bG c ((post i).2 ++ Lr)) w' w':=⟨Nat.le_refl _,fun g hg ho=>⟨nU g hg ho,rfl⟩⟩
 have lT:∀ y,y∈aT (post i).2→y∈aT Ll∨w.heap.size≤y:=g1;have m2:Mon (bG c L) (bG c ((post i).2 ++ Lr)) w w':=Mon.lJ kp fun g hg ho=>⟨⟨ho.1,fun hx=>by
  rcases (oW _ _ _).1 hx with hx | hx
  ·rcases lT g hx with h | h
   ·exact ho.2 (kR g h)
   ·omega
  ·exact ho.2 (qp g hx)⟩,fun hx=>ho.2 (kR g hx)⟩
 refine hK i _ _ kp (s.put ht (RD.cS m1 _ _ g4) (s.kp.trans kp (fun x hx=>s.fF x (kR x hx))) ?_ ?_ ?_ m2) (fun y hy=>by
  rcases (oW _ _ _).1 hy with hy | hy
  ·rcases lT y hy with h | h
   ·exact .inl (kR y h)
   ·exact .inr h
  ·exact .inl (qp y hy))
 ·intro q hq;rcases List.mem_append.1 hq with hq | hq
  ·exact (g3 q hq).cS (aq.refl [] w') m1 (by simp)
  ·exact (s.res q (Qc q hq)).cS kp m2 (fun x hx fI=>rG x fI (di.2 ⟨q,hq,hx⟩))
 ·intro x hx;rcases (oW _ _ _).1 hx with hx | hx
  ·rcases lT x hx with h | h
   ·exact s.fF x (kR x h)
   ·exact .inr (Nat.le_trans s.kp.size h)
  ·exact s.fF x (qp x hx)
 ·refine List.pairwise_append.2 ⟨g2,oX.2.1,fun q hq r hr x hx fI=>?_⟩;have rH:x∈aT Lr:=di.2 ⟨r,hr,fI⟩;rcases lT x (di.2 ⟨q,hq,hx⟩) with h | h
  ·exact rG x h rH
  ·have:=s.lt x (qp x rH);omega⟩
theorem JO.alloc {zs:List Value} [i:bp P X zs] (hw:dM ops ⟨some t,.alloc X,T,ps,af,gd⟩ f=true) (ht:t < c.N) (h:∀ b,JO P c ops l k ((t,.c (.v (.pointer (some ⟨b,0,none⟩)))) :: f) (.box b X (vs zs) :: L)):JO P c ops (⟨some t,.alloc X,T,ps,af,gd⟩ :: l) k f L :=
 JO.ld (Ld.alloc ht) hw h
theorem JO.box {x:Operand} {d:D} {cs:List A} (hw:dM ops ⟨some t,.box X x,T,ps,af,gd⟩ f=true) (ht:t < c.N) (hx:aU f x=some d) (hc:g9 d=some cs) (h:∀ b,JO P c ops l k ((t,.c (.v (.pointer (some ⟨b,0,none⟩)))) :: f) (.box b X cs :: L)):JO P c ops (⟨some t,.box X x,T,ps,af,gd⟩ :: l) k f L :=
 JO.ld (Ld.box ht hx hc) hw h
theorem Ld.aX {x y:Operand} {b n B i:Nat} {cs es:List A} {d:D} {L':List ak} [it:ff P X n] [bx:lO L b B cs i] [st:lP L i (.box b B es) L'] (hx:aU f x=some (.c (.v (.pointer (some ⟨b,0,none⟩))))) (hy:aU f y=some d) (hd:g9 d=some es) (hn:es.length=n) (hl:cs.length=n) :
  Ld P c ⟨none,.store X x y,T,ps,af,gd⟩ f L [b] (fun _:Unit=>f) (fun _=>L'):=by
 have h:=Ld.DJ (P:=P) (c:=c) (T:=T) (X:=X) (ps:=ps) (af:=af) (gd:=gd) i hx bx.h hy hd hn (by rw [hl,Nat.zero_add];exact Nat.ble_self_eq_true _);rw [Jd (hn.trans hl.symm),st.h] at h;exact h
theorem Ld.cZ {x y:Operand} {b o B i:Nat} {cs:List A} {e:A} {L':List ak} [it:ff P X 1] [bx:lO L b B cs i] [st:lP L i (.box b B (cs.set o e)) L'] (hx:aU f x=some (.c (.v (.pointer (some ⟨b,o,none⟩))))) (hy:aU f y=some (.c e)) (hl:Nat.ble (o + 1) cs.length=true) :
  Ld P c ⟨none,.store X x y,T,ps,af,gd⟩ f L [b] (fun _:Unit=>f) (fun _=>L'):=by
 have h:=Ld.DJ (P:=P) (c:=c) (T:=T) (X:=X) (ps:=ps) (af:=af) (gd:=gd) i hx bx.h hy rfl rfl hl;rw [Je (Nat.le_of_ble_eq_true hl),st.h] at h;exact h
theorem Ld.rI {x y:Operand} {b o n B i:Nat} {cs es:List A} {d:D} {L':List ak} [it:ff P X n] [bx:lO L b B cs i] [st:lP L i (.box b B (je cs o es)) L'] (hx:aU f x=some (.c (.v (.pointer (some ⟨b,o,none⟩))))) (hy:aU f y=some d) (hd:g9 d=some es) (hn:es.length=n) (hl:Nat.ble (o + n) cs.length=true) :
  Ld P c ⟨none,.store X x y,T,ps,af,gd⟩ f L [b] (fun _:Unit=>f) (fun _=>L'):=by
 have h:=Ld.DJ (P:=P) (c:=c) (T:=T) (X:=X) (ps:=ps) (af:=af) (gd:=gd) i hx bx.h hy hd hn hl;rw [st.h] at h;exact h
theorem Ld.fZ {x y:Operand} {v:Value} {sz q e i:Nat} {ll:List (List A)} {es:List A} {d:D} {L':List ak} [it:ff P X sz] [bx:gJ L v e sz ll i] [st:lP L i (.row v e sz (ll.set q es)) L'] (hx:aU f x=some (.ow v sz q 0)) (hy:aU f y=some d) (hd:g9 d=some es) (hn:es.length=sz) (hq:q < ll.length) :
  Ld P c ⟨none,.store X x y,T,ps,af,gd⟩ f L (c9 v) (fun _:Unit=>f) (fun _=>L'):=⟨fun a w s=>by
 obtain ⟨xs,h1,h2⟩:=s.res _ (List.mem_of_getElem? bx.h);have hl:=RX.DK h2 (List.getElem?_eq_getElem hq);have h:=Ld.DL (P:=P) (c:=c) (T:=T) (X:=X) (ps:=ps) (af:=af) (gd:=gd) i hx bx.h (List.getElem?_eq_getElem hq) hy hd hn (by rw [Nat.zero_add];exact Nat.ble_self_eq_true _);rw [Jd (hn.trans hl.symm),st.h] at h;exact h.go a w s⟩
theorem Ld.dK {x y:Operand} {v:Value} {sz q o e i:Nat} {ll:List (List A)} {cs:List A} {u:A} {L':List ak} [it:ff P X 1] [bx:gJ L v e sz ll i] [st:lP L i (.row v e sz (ll.set q (cs.set o u))) L'] (hx:aU f x=some (.ow v sz q o)) (hy:aU f y=some (.c u)) (hl:Nat.ble (o + 1) sz=true) (hq:ll[q]?=some cs) :
  Ld P c ⟨none,.store X x y,T,ps,af,gd⟩ f L (c9 v) (fun _:Unit=>f) (fun _=>L'):=⟨fun a w s=>by
 obtain ⟨xs,h1,h2⟩:=s.res _ (List.mem_of_getElem? bx.h);have hle:=RX.DK h2 hq;have h:=Ld.DL (P:=P) (c:=c) (T:=T) (X:=X) (ps:=ps) (af:=af) (gd:=gd) i hx bx.h hq hy rfl rfl hl;rw [Je (by have:=Nat.le_of_ble_eq_true hl;omega),st.h] at h;exact h.go a w s⟩
theorem Ld.Qd {x y:Operand} {v:Value} {sz q o e n i:Nat} {ll:List (List A)} {cs es:List A} {d:D} {L':List ak} [it:ff P X n] [bx:gJ L v e sz ll i] [st:lP L i (.row v e sz (ll.set q (je cs o es))) L'] (hx:aU f x=some (.ow v sz q o)) (hy:aU f y=some d) (hd:g9 d=some es) (hn:es.length=n) (hl:Nat.ble (o + n) sz=true) (hq:ll[q]?=some cs) :
  Ld P c ⟨none,.store X x y,T,ps,af,gd⟩ f L (c9 v) (fun _:Unit=>f) (fun _=>L'):=by
 have h:=Ld.DL (P:=P) (c:=c) (T:=T) (X:=X) (ps:=ps) (af:=af) (gd:=gd) i hx bx.h hq hy hd hn hl;rw [st.h] at h;exact h
theorem Ld.pure {F:FuncId} {args:List Operand} {tys:Array TypeId} {dm ds:List D} {d:D} [i:aJ P F] (hC:Pure P F ds d) (ht:t < c.N) (h:iL f args=some dm) (hle:aK dm ds) :
  Ld P c ⟨some t,.call ⟨.value (.func F),args.toArray,tys⟩,T,ps,af,gd⟩ f L [] (fun _:Unit=>(t,d) :: f) (fun _=>L):=Ld.call hC ht h hle (Ll:=[]) (Lr:=L) rfl
theorem JO.ia {e sz:Nat} [i:fG P X e sz] (hw:dM ops ⟨some t,.buildSlice X 0 #[],T,ps,af,gd⟩ f=true) (ht:t < c.N) (h:∀ b,JO P c ops l k ((t,.c (.v (.slice (some ⟨b,0,none⟩) 0 0))) :: f) (.row (.slice (some ⟨b,0,none⟩) 0 0) e sz [] :: L)):JO P c ops (⟨some t,.buildSlice X 0 #[],T,ps,af,gd⟩ :: l) k f L :=
 JO.ld (Ld.ia ht) hw h
theorem JO.fJ {e sz:Nat} {x:Operand} {d:D} {cs:List A} {zs:List Value} [i:fG P X e sz] [z:bp P e zs] (hw:dM ops ⟨some t,.buildSlice X 1 #[(0,x)],T,ps,af,gd⟩ f=true) (ht:t < c.N) (hx:aU f x=some d) (hc:g9 d=some cs) (hn:cs.length=sz) (h0:Nat.ble 1 sz=true) (hs:Nat.ble sz 1000=true)
  (h:∀ b,JO P c ops l k ((t,.c (.v (.slice (some ⟨b,0,none⟩) 1 1))) :: f) (.row (.slice (some ⟨b,0,none⟩) 1 1) e sz [cs] :: L)):JO P c ops (⟨some t,.buildSlice X 1 #[(0,x)],T,ps,af,gd⟩ :: l) k f L :=
 JO.ld (Ld.fJ ht hx hc hn h0 hs) hw h
theorem JO.call {F:FuncId} {args:List Operand} {tys:Array TypeId} {dm ds:List D} {Ll Lr:List ak} {ι:Type} {post:ι→D × List ak} [i:aJ P F] (hC:ax P F ds Ll post) (hw:dM ops ⟨some t,.call ⟨.value (.func F),args.toArray,tys⟩,T,ps,af,gd⟩ f=true) (ht:t < c.N) (h:iL f args=some dm) (hle:aK dm ds) (hL:L=Ll ++ Lr)
  (hk:∀ i,JO P c ops l k ((t,(post i).1) :: f) ((post i).2 ++ Lr)):JO P c ops (⟨some t,.call ⟨.value (.func F),args.toArray,tys⟩,T,ps,af,gd⟩ :: l) k f L :=
 JO.ld (Ld.call hC ht h hle hL) hw hk
theorem JO.pure {F:FuncId} {args:List Operand} {tys:Array TypeId} {dm ds:List D} {d:D} [i:aJ P F] (hC:Pure P F ds d) (hw:dM ops ⟨some t,.call ⟨.value (.func F),args.toArray,tys⟩,T,ps,af,gd⟩ f=true) (ht:t < c.N) (h:iL f args=some dm) (hle:aK dm ds)
  (hk:JO P c ops l k ((t,d) :: f) L):JO P c ops (⟨some t,.call ⟨.value (.func F),args.toArray,tys⟩,T,ps,af,gd⟩ :: l) k f L :=
 JO.call hC hw ht h hle (Ll:=[]) (Lr:=L) rfl fun _=>hk
theorem J.wA (i j n:Nat) {v:Value} {e:TypeId} {sz:Nat} {ll:List (List A)} {b:Nat} {B:TypeId} {cs:List A} (hi:L[i]?=some (.row v e sz ll)) (hj:L[j]?=some (.box b B cs)) (hc:cs[n]?=some (.v v))
  (h:J P c k f ((L.set j (.box b B (cs.set n (.r sz ll)))).eraseIdx i)):J P c k f L:=⟨fun a w s=>by
 have bO:i≠j:=fun e=>by subst e;rw [hi] at hj;cases hj
 have ck:=(List.getElem?_eq_some_iff.1 hj).1;have hm:∀ q,q∈L.eraseIdx i→q∈L:=fun q hq=>List.mem_of_mem_eraseIdx hq
 have ho:∀ q∈L.eraseIdx i,∀ x∈q.bY,x∉c9 v:=fun q hq x hx fI=>by
  obtain ⟨m,ta⟩:=List.mem_iff_getElem?.1 hq;rw [List.getElem?_eraseIdx] at ta
  split at ta
  ·exact eY.ne s.ap hi ta (by omega) x fI hx
  ·exact eY.ne s.ap hi ta (by omega) x fI hx
 have hf:∀ x,x∈aT (L.eraseIdx i)→x∈aT L:=fun x hx=>by
  obtain ⟨q,hq,hx⟩:=di.1 hx;exact di.2 ⟨q,hm q hq,hx⟩
 have mo:Mon (bG c L) (bG c (L.eraseIdx i)) w w:=⟨Nat.le_refl _,fun g _ hg=>⟨⟨hg.1,fun hx=>hg.2 (hf g hx)⟩,rfl⟩⟩
 have s1:St c f (L.eraseIdx i) a w:=⟨s.kp,s.size,s.jV,fun q hq=>(s.res q (hm q hq)).cS (aq.refl [] w) mo (by simp),fun x hx=>s.fF x (hf x hx),s.ap.sublist (List.eraseIdx_sublist L i),fun t d ht=>RD.cS mo d _ (s.fr t d ht)⟩
 obtain ⟨xs,r1,r2⟩:=s.res _ (List.mem_of_getElem? hi);have hR:RA (bG c (L.eraseIdx i)) w (.r sz ll) v:=RA.Bi r1.view (RX.cS mo _ _ r2) fun g hg=>⟨.inr (s.fF g (di.2 ⟨_,List.mem_of_getElem? hi,hg⟩)),fun hx=>by
  obtain ⟨q,hq,lQ⟩:=di.1 hx;exact ho q hq g lQ hg⟩
 have Qe:∃ j',(L.eraseIdx i)[j']?=some (.box b B cs)∧(L.set j (.box b B (cs.set n (.r sz ll)))).eraseIdx i=(L.eraseIdx i).set j' (.box b B (cs.set n (.r sz ll))):=by
  by_cases rJ:j < i
  ·refine ⟨j,by rw [List.getElem?_eraseIdx,if_pos rJ];exact hj,?_⟩;apply List.ext_getElem?;intro m;rw [List.getElem?_eraseIdx,List.getElem?_set,List.getElem?_set,List.getElem?_set,List.getElem?_eraseIdx,List.length_eraseIdx];have kS:=(List.getElem?_eq_some_iff.1 hi).1
   split <;> split <;> (try split) <;> (try split) <;> (try split) <;> first | rfl | omega
  ·refine ⟨j - 1,by rw [List.getElem?_eraseIdx,if_neg (by omega),show j - 1 + 1=j by omega];exact hj,?_⟩;apply List.ext_getElem?;intro m;rw [List.getElem?_eraseIdx,List.getElem?_set,List.getElem?_set,List.getElem?_set,List.getElem?_eraseIdx,List.length_eraseIdx];have kS:=(List.getElem?_eq_some_iff.1 hi).1
   split <;> split <;> (try split) <;> (try split) <;> (try split) <;> first | rfl | omega
 obtain ⟨j',e1,e2⟩:=Qe;rw [e2] at h;obtain ⟨vs,b1,b2⟩:=s1.res _ (List.mem_of_getElem? e1);refine h.go a w (s1.set e1 rfl (aq.refl _ w) ⟨vs,b1,?_⟩);have cF:=b2.get n (by exact hc);obtain ⟨x,hx,Jn⟩:=cF;unfold RA at Jn;obtain ⟨rfl,_⟩:=Jn;have:=RC.set n b2 hR;have e3:vs.set n x=vs:=by
  apply List.ext_getElem?;intro m;rw [List.getElem?_set]
  split
  ·rename_i e;subst e
   split
   ·exact hx.symm
   ·rename_i hn;rw [List.getElem?_eq_none (by omega)] at hx;cases hx
  ·rfl
 rw [e3] at this;exact this⟩
end
end Fl
end Go.Proofs.YtofnbflkhgammaaGreat
