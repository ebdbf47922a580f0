/-
  What the laws need, part A3.
  Conditions: none.
-/
import Derived.Test.YtdjhhbpedllnhaaGreatA2
set_option linter.unusedVariables false
set_option linter.unusedSimpArgs false
set_option linter.unnecessarySimpa false
set_option maxHeartbeats 2000000
namespace Go.Proofs.YtdjhhbpedllnhaaGreat
open Go.RowKit
namespace Fl
class aX (P:Program) (T:TypeId) (zs:outParam (List Value)):Prop where
 h:qf P T=some zs:=by kernel_rfl
 o:zs.all (·.oneCell')=true:=by kernel_rfl
 s:jK P T=some zs.length:=by kernel_rfl
class ia (P:Program) (T:TypeId) (e:outParam TypeId) (sz bytes:outParam Nat) (z:outParam Value):Prop where h:kz P T e sz bytes z
def DQ (P:Program) (F:FuncId):Bool:=match P.funcs[F]? with
 | some fn=>fn.name != "runtime.NumGoroutine" && fn.body.isSome
 | none=>false
class aJ (P:Program) (F:FuncId):Prop where h:DQ P F=true:=by kernel_rfl
def vs (zs:List Value):List A:=zs.map A.v
theorem RC.vs {ok:Nat→Prop} {w:World}:∀ {zs:List Value},zs.all (·.oneCell')=true→RC ok w (vs zs) zs
 | [],_=>RC.nil
 | z :: zs,h=>by
  simp only [List.all_cons,Bool.and_eq_true] at h;exact RC.cons (by unfold RA;exact ⟨rfl,h.1⟩) (RC.vs h.2)
section
variable (P:Program) (c:Cx)
structure Ld (o:Oper) (f:Fm) (L:List an) (S:List Nat) {ι:Type} (f':ι→Fm) (L':ι→List an):Prop where
 go:∀ a w,St c f L a w→∀ (K:Act→World→Prop) (Q:Exit→Act→World→Prop),(∀ x v w',aq S w w'→St c (f' x) (L' x) (a.put o.dst v) w'→(∀ y∈bq (L' x),y∈bq L∨w.heap.size≤y)→K (a.put o.dst v) w')→o.wp P a w K Q
end
section
variable {P:Program} {c:Cx} {k:List Item} {f:Fm} {L:List an} {ops:Array Oper} {l:List Oper} {o:Oper}
theorem JO.ld {S:List Nat} {ι:Type} {f':ι→Fm} {L':ι→List an} (h:Ld P c o f L S f' L') (hw:ee ops o f=true) (hr:∀ x,JO P c ops l k (f' x) (L' x)):JO P c ops (o :: l) k f L:=⟨fun a w s=>by
 refine wpList_step fun K hK=>?_
 rw [ee.run hw s];simp only [↓reduceIte];exact h.go a w s K _ fun x v w' _ hp _=>hK _ _ ((hr x).go _ w' hp)⟩
theorem Bk {r:an} {w:World} (hr:∀ x∈r.bT,w.heap.size≤x):∀ g,g < w.heap.size→bF c L g→bF c (r :: L) g:=fun g hg ho =>
 ⟨ho.1,fun hm=>by
  obtain ⟨q,hq,hx⟩:=dz.1 hm;rcases List.mem_cons.1 hq with rfl | hq
  ·have:=hr g hx;omega
  ·exact ho.2 (dz.2 ⟨q,hq,hx⟩)⟩
theorem St.new {a:Act} {w w':World} {t:Nat} {d:D} {v:Value} {r:an} (s:St c f L a w) (ht:t < c.N) (k:aq [] w w') (hr:∀ x∈r.bT,w.heap.size≤x) (h:r.holds (bF c (r :: L)) w') (hd:RD (bF c (r :: L)) w' d v):St c ((t,d) :: f) (r :: L) (a.put (some t) v) w':=by
 have m:Mon (bF c L) (bF c (r :: L)) w w':=Mon.lV k fun g hg ho=>⟨Bk hr g hg ho,by simp⟩
 refine s.put ht hd (s.kp.then k) ?_ ?_ ?_ m
 ·intro q hq;rcases List.mem_cons.1 hq with rfl | hq
  ·exact h
  ·exact (s.res q hq).cY k m (by simp)
 ·intro x hx;obtain ⟨q,hq,l9⟩:=dz.1 hx;rcases List.mem_cons.1 hq with e | hq
  ·exact .inr (Nat.le_trans s.kp.size (hr x (e ▸ l9)))
  ·exact s.fL x (dz.2 ⟨q,hq,l9⟩)
 ·refine List.pairwise_cons.2 ⟨fun q hq x hx fN=>?_,s.ap⟩;have h1:=hr x hx;have h2:=s.lt x (dz.2 ⟨q,hq,fN⟩);omega
theorem uI {r:an} {w:World} (hr:∀ x∈r.bT,w.heap.size≤x):∀ y∈bq (r :: L),y∈bq L∨w.heap.size≤y:=fun y hy=>by
 obtain ⟨q,hq,h⟩:=dz.1 hy;rcases List.mem_cons.1 hq with e | hq
 ·exact .inr (hr y (e ▸ h))
 ·exact .inl (dz.2 ⟨q,hq,h⟩)
theorem qf.run {T:Nat} {zs:List Value} (h:qf P T=some zs):∃ z:Value,z.cells.toList=zs∧∀ w,(zeroValue T).run P w=.ok z w:=by
 unfold qf at h
 cases hi:P.info? T with
 | none=>rw [hi] at h;cases h
 | some i =>
  rw [hi] at h
  cases hz:i.zero with
  | none=>simp [hz] at h
  | some z=>simp [hz] at h;exact ⟨z,h,fun w=>by simp [zeroValue,typeInfo,Sem.run_bind,hi,hz]⟩
variable {T X:TypeId} {ps:String} {af:Array Edge} {gd:Option (Nat × Bool)} {t:Nat}
theorem Ld.alloc {zs:List Value} [i:aX P X zs] (ht:t < c.N):Ld P c ⟨some t,.alloc X,T,ps,af,gd⟩ f L [] (fun b:Nat=>(t,.c (.v (.pointer (some ⟨b,0,none⟩)))) :: f) (fun b=>.box b X (vs zs) :: L):=⟨fun a w s K Q hK=>by
 obtain ⟨z,hz,hr⟩:=qf.run i.h;have hk:aq [] w (w.alloc (.cells z.cells X)):=(aq.refl [] w).alloc _;have fW:(execOp a.eval ⟨some t,.alloc X,T,ps,af,gd⟩).run P w=.ok (.value (.pointer (some ⟨w.heap.size,0,none⟩))) (w.alloc (.cells z.cells X)):=by
  simp [execOp,Instr.alloc,Sem.run_bind,hr,newVar,newRow]
 unfold Oper.wp;rw [fW];refine hK w.heap.size _ _ hk (s.new ht hk (by simp [an.bT]) ⟨zs,?_,RC.vs i.o⟩ (by unfold RD RA;exact ⟨rfl,rfl⟩)) (uI (by simp [an.bT]));subst hz;have:=cr.new w z.cells.toList X;simpa using this⟩
def iz:D→Option (List A)
 | .c a=>some [a]
 | .agg cs=>some cs
 | _=>none
theorem iz.rep {d:D} {cs:List A} (h:iz d=some cs) {ok:Nat→Prop} {w:World} {x:Value} (r:RD ok w d x):RC ok w cs x.cells.toList:=by
 unfold iz at h
 split at h
 ·cases h;unfold RD at r;have h1:=r.one;have:x.cells.toList=[x]:=by cases x <;> first | rfl | (cases h1;done)
  rw [this];exact RC.cons r RC.nil
 ·cases h;unfold RD at r;obtain ⟨vs,rfl,h⟩:=r;simpa [Value.cells] using h
 ·cases h
theorem Ld.box {x:Operand} {d:D} {cs:List A} (ht:t < c.N) (h:bg f x=some d) (hc:iz d=some cs):Ld P c ⟨some t,.box X x,T,ps,af,gd⟩ f L [] (fun b:Nat=>(t,.c (.v (.pointer (some ⟨b,0,none⟩)))) :: f) (fun b=>.box b X cs :: L):=⟨fun a w s K Q hK=>by
 have hr:=iz.rep hc (s.ev h);have hk:aq [] w (w.alloc (.cells (a.eval x).cells X)):=(aq.refl [] w).alloc _;have fW:(execOp a.eval ⟨some t,.box X x,T,ps,af,gd⟩).run P w=.ok (.value (.pointer (some ⟨w.heap.size,0,none⟩))) (w.alloc (.cells (a.eval x).cells X)):=by
  simp [execOp,Instr.box,Sem.run_bind,newVar,newRow]
 unfold Oper.wp;rw [fW];have hf:∀ y∈(an.box w.heap.size X cs).bT,w.heap.size≤y:=by simp [an.bT]
 refine hK w.heap.size _ _ hk (s.new ht hk hf ⟨(a.eval x).cells.toList,?_,?_⟩ (by unfold RD RA;exact ⟨rfl,rfl⟩)) (uI hf)
 ·have:=cr.new w (a.eval x).cells.toList X;simpa using this
 ·exact RC.cY (Mon.lV hk fun g hg ho=>⟨Bk hf g hg ho,by simp⟩) cs _ hr⟩
theorem ym {i:Nat} {r r':an} (hi:L[i]?=some r) (hf:r'.bT=r.bT) (x:Nat):x∈bq (L.set i r')↔x∈bq L:=by
 have:(L.set i r').map an.bT=L.map an.bT:=by
  rw [List.map_set];apply List.ext_getElem?;intro j;rw [List.getElem?_set]
  split
  ·rename_i e;subst e
   split
   ·rw [List.getElem?_map,hi];simp [hf]
   ·rename_i hn;simp at hn;rw [List.getElem?_eq_none (by simpa using hn)]
  ·rfl
 unfold bq;rw [List.flatMap_def,List.flatMap_def,this]
theorem PY {i:Nat} {r r':an} (hi:L[i]?=some r) (hf:r'.bT=r.bT):bF c (L.set i r')=bF c L:=by
 funext x;unfold bF;rw [ym hi hf]
theorem IE:∀ {L:List an} {i:Nat} {r r':an},L[i]?=some r→(∀ x,x∈r'.bT→x∈r.bT)→fq L→fq (L.set i r')
 | [],i,r,r',h,hf,ha=>by simp at h
 | q :: L,0,r,r',h,hf,ha=>by
  simp at h;subst h;have:=List.pairwise_cons.1 ha;exact List.pairwise_cons.2 ⟨fun s hs x hx=>this.1 s hs x (hf x hx),this.2⟩
 | q :: L,i + 1,r,r',h,hf,ha=>by
  simp at h;have:=List.pairwise_cons.1 ha;simp only [List.set_cons_succ];refine List.pairwise_cons.2 ⟨fun s hs x hx fN=>?_,IE h hf this.2⟩;rcases List.mem_or_eq_of_mem_set hs with hs | rfl
  ·exact this.1 s hs x hx fN
  ·exact this.1 r (List.mem_of_getElem? h) x hx (hf x fN)
theorem fq.ne:∀ {L:List an} {i j:Nat} {r q:an},fq L→L[i]?=some r→L[j]?=some q→i≠j→∀ x∈r.bT,x∉q.bT
 | [],i,j,r,q,ha,hi,hj,hn,x,hx=>by simp at hi
 | p :: L,0,0,r,q,ha,hi,hj,hn,x,hx=>by simp at hn
 | p :: L,0,j + 1,r,q,ha,hi,hj,hn,x,hx=>by
  simp at hi hj;subst hi;exact (List.pairwise_cons.1 ha).1 q (List.mem_of_getElem? hj) x hx
 | p :: L,i + 1,0,r,q,ha,hi,hj,hn,x,hx=>fun fN=>by
  simp at hi hj;subst hj;exact (List.pairwise_cons.1 ha).1 r (List.mem_of_getElem? hi) x fN hx
 | p :: L,i + 1,j + 1,r,q,ha,hi,hj,hn,x,hx=>by
  simp at hi hj;exact fq.ne (List.pairwise_cons.1 ha).2 hi hj (by omega) x hx
theorem St.set {a:Act} {w w':World} {i:Nat} {r r':an} (s:St c f L a w) (hi:L[i]?=some r) (hf:r'.bT=r.bT) (k:aq r.bT w w') (h:r'.holds (bF c L) w'):St c f (L.set i r') a w':=by
 have ho:=PY (c:=c) hi hf;have jL:∀ x∈r.bT,x∈bq L:=fun x hx=>dz.2 ⟨r,List.mem_of_getElem? hi,hx⟩
 have m:Mon (bF c L) (bF c L) w w':=Mon.lV k fun g hg gL=>⟨gL,fun hm=>gL.2 (jL g hm)⟩
 refine ⟨s.kp.trans k (fun x hx=>s.fL x (jL x hx)),s.size,s.j5,fun q hq=>?_,fun x hx=>s.fL x ((ym hi hf x).1 hx),IE hi (fun x hx=>hf ▸ hx) s.ap,fun t d hd=>by rw [ho];exact RD.cY m d _ (s.fr t d hd)⟩;rw [ho];obtain ⟨j,hj⟩:=List.getElem?_of_mem hq;rw [List.getElem?_set] at hj
 split at hj
 ·split at hj
  ·simp at hj;subst hj;exact h
  ·cases hj
 ·rename_i bG;exact (s.res q (List.mem_of_getElem? hj)).cY k m (fun x hx hm=>fq.ne s.ap hi hj bG x hm hx)
theorem cr.eD {t:TypeId} {g:Nat}:∀ (cs p z q:List Value) (w:World),z.length=cs.length→cr w g (p ++ z ++ q) t→cr (w.setCells g p.length cs) g (p ++ cs ++ q) t∧aq [g] w (w.setCells g p.length cs)
 | [],p,z,q,w,h,hb=>by
  have:z=[]:=List.length_eq_zero_iff.1 h;subst this;exact ⟨hb,aq.refl _ _⟩
 | c :: cs,p,[],q,w,h,hb=>by simp at h
 | c :: cs,p,x :: z,q,w,h,hb=>by
  have h1:=hb.set p.length c;have e:(p ++ x :: z ++ q).set p.length c=(p ++ [c]) ++ z ++ q:=by simp
  rw [e] at h1;obtain ⟨h2,k2⟩:=cr.eD cs (p ++ [c]) z q (w.setCell ⟨g,p.length,none⟩ c) (by simpa using h) h1;simp only [List.length_append,List.length_cons,List.length_nil,Nat.zero_add] at h2 k2;rw [World.setCells];refine ⟨by simpa using h2,((aq.refl [g] w).setCell (by simp) c).trans k2 (fun x hx=>.inl hx)⟩
def jn (cs:List A) (o:Nat) (new:List A):List A:=cs.take o ++ new ++ cs.drop (o + new.length)
theorem IF {T n:Nat} (hn:jK P T=some n) (w:World) (b o:Nat) (x:Value) (hx:x.cells.size=n) (ht:w.there b o n) (h1:∀ v∈x.cells.toList,v.oneCell'=true):(storeVar T ⟨b,o,none⟩ x).run P w=.ok () (w.setCells b o x.cells.toList):=by
 have:=run_storeCells_cells (P:=P) b o x.cells.toList 0 w (fun j hj=>by simpa using (ht j (by simpa [hx] using hj)).1) (fun j hj=>by simpa using (ht j (by simpa [hx] using hj)).2) h1;simp only [Nat.add_zero] at this;simp [storeVar,Sem.run_bind,jK.run hn,hx,this]
theorem Ld.DR (i:Nat) {x y:Operand} {b o n:Nat} {B:TypeId} {cs es:List A} {d:D} [it:fE P X n] (hx:bg f x=some (.c (.v (.pointer (some ⟨b,o,none⟩))))) (hi:L[i]?=some (.box b B cs)) (hy:bg f y=some d) (hd:iz d=some es) (hn:es.length=n) (hl:Nat.ble (o + n) cs.length=true) :
  Ld P c ⟨none,.store X x y,T,ps,af,gd⟩ f L [b] (fun _:Unit=>f) (fun _=>L.set i (.box b B (jn cs o es))):=⟨fun a w s K Q hK=>by
 have Bl:o + n≤cs.length:=Nat.le_of_ble_eq_true hl;have rx:=s.val hx;have ry:=iz.rep hd (s.ev hy);obtain ⟨us,h1,h2⟩:=s.res _ (List.mem_of_getElem? hi);have hlen:=h2.len;have jZ:(a.eval y).cells.size=n:=by have:=ry.len;simp at this;omega
 have hb:cr w b (us.take o ++ (us.drop o).take n ++ us.drop (o + n)) B:=by
  have e:us.take o ++ (us.drop o).take n ++ us.drop (o + n)=us:=by
   rw [← List.drop_drop,List.append_assoc,List.take_append_drop,List.take_append_drop]
  rw [e];exact h1
 have hp:=cr.eD (a.eval y).cells.toList (us.take o) ((us.drop o).take n) (us.drop (o + n)) w (by simp;omega) hb;have ho:(us.take o).length=o:=by simp;omega
 rw [ho] at hp;have fW:=IF it.h w b o (a.eval y) jZ (fun j hj=>⟨by rw [h1.cell];simp;omega,h1.free _⟩) ry.one;have gJ:(execOp a.eval ⟨none,.store X x y,T,ps,af,gd⟩).run P w=.ok .skip (w.setCells b o (a.eval y).cells.toList):=by
  simp [execOp,Sem.run_bind,Instr.storeAt,rx,Instr.sureAddr,fW]
 unfold Oper.wp;rw [gJ];refine hK () undef _ hp.2 (s.set hi rfl hp.2 ⟨_,hp.1,?_⟩) (fun y hy=>.inl ((ym (r':=.box b B (jn cs o es)) hi rfl y).1 hy));have m:Mon (bF c L) (bF c L) w (w.setCells b o (a.eval y).cells.toList):=Mon.lV hp.2 fun g hg gL=>⟨gL,fun hm=>gL.2 (dz.2 ⟨_,List.mem_of_getElem? hi,by simpa [an.bT] using hm⟩)⟩
 unfold jn;rw [hn];exact RC.app (RC.app (RC.cY m _ _ (h2.take o)) (RC.cY m _ _ ry)) (RC.cY m _ _ (h2.drop (o + n)))⟩
theorem IG {cs es:List A} (h:es.length=cs.length):jn cs 0 es=es:=by simp [jn,h]
theorem II {cs:List A} {o:Nat} {a:A} (h:o < cs.length):jn cs o [a]=cs.set o a:=by
 unfold jn;apply List.ext_getElem?;intro j;simp only [List.length_cons,List.length_nil,Nat.zero_add];rcases Nat.lt_trichotomy j o with hj | hj | hj
 ·rw [List.append_assoc,List.getElem?_append_left (by simp;omega),List.getElem?_take,if_pos hj,List.getElem?_set_ne (by omega)]
 ·subst hj;rw [List.append_assoc,List.getElem?_append_right (by simp;omega),List.getElem?_set_self h];have:j - (List.take j cs).length=0:=by simp;omega
  rw [this];rfl
 ·rw [List.getElem?_append_right (by simp;omega),List.getElem?_set_ne (by omega),List.getElem?_drop]
  congr 1;simp;omega
end
end Fl
open Go.RowKit
namespace Fl
theorem PZ (cs:List A) (o:Nat) (a:A) (es:List A) (h:o < cs.length):jn cs o (a :: es)=jn (cs.set o a) (o + 1) es:=by
 unfold jn;rw [List.take_add_one,List.take_set,List.getElem?_set_self h];simp only [List.length_cons,Option.toList_some];rw [List.set_eq_of_length_le (by simp;omega),List.drop_set,if_pos (by omega)];simp only [List.append_assoc,List.singleton_append,List.cons_append,List.nil_append];rw [show o + (es.length + 1)=o + 1 + es.length by omega]
theorem P0 (cs:List A) (o:Nat):jn cs o []=cs:=by simp [jn]
theorem RX.put {ok:Nat→Prop} {w:World} {sz:Nat} {k:Nat}:∀ (es:List A) (us:List Value) {l:List (List A)} {xs:List Value} {cs:List A} (o:Nat),RX ok w sz l xs→l[k]?=some cs→cs.length=sz→RC ok w es us→o + es.length≤sz→RX ok w sz (l.set k (jn cs o es)) (setFrom xs (k * sz + o) us)
 | [],us,l,xs,cs,o,h,e,hc,hr,ho=>by
  unfold RC at hr;subst hr;rw [P0,setFrom,List.P4 e];exact h
 | a :: es,us,l,xs,cs,o,h,e,hc,hr,ho=>by
  unfold RC at hr;obtain ⟨x,ys,rfl,h1,h2⟩:=hr;simp only [List.length_cons] at ho;have cJ:=(List.getElem?_eq_some_iff.1 e).1;have h3:=RX.set k o h e (by omega) h1;have:=RX.put es ys (o + 1) h3 (List.getElem?_set_self cJ) (by simpa using hc) h2 (by omega);rw [List.set_set] at this;rw [PZ cs o a es (by omega),setFrom];exact this
where
 List.P4 {α:Type} {l:List α} {k:Nat} {a:α} (e:l[k]?=some a):l.set k a=l:=by
  apply List.ext_getElem?;intro j;rw [List.getElem?_set]
  split
  ·rename_i h;subst h
   split
   ·exact e.symm
   ·rename_i hn;rw [List.getElem?_eq_none (by omega)] at e;cases e
  ·rfl
theorem RX.DS {ok:Nat→Prop} {w:World} {sz:Nat} {l:List (List A)} {xs:List Value} {k:Nat} {cs:List A} (h:RX ok w sz l xs) (e:l[k]?=some cs):cs.length=sz:=by
 obtain ⟨vs,h1,_,h3⟩:=h.get k e;rw [← h3.len,h1]
section
variable {P:Program} {c:Cx} {k:List Item} {f:Fm} {L:List an} {ops:Array Oper} {l:List Oper} {o:Oper} {T X:TypeId} {ps:String} {af:Array Edge} {gd:Option (Nat × Bool)} {t:Nat}
theorem Ld.DT (i:Nat) {x y:Operand} {v:Value} {sz q o n:Nat} {e:TypeId} {ll:List (List A)} {cs es:List A} {d:D} [it:fE P X n] (hx:bg f x=some (.ow v sz q o)) (hi:L[i]?=some (.row v e sz ll)) (hq:ll[q]?=some cs) (hy:bg f y=some d) (hd:iz d=some es) (hn:es.length=n) (hl:Nat.ble (o + n) sz=true) :
  Ld P c ⟨none,.store X x y,T,ps,af,gd⟩ f L (dx v) (fun _:Unit=>f) (fun _=>L.set i (.row v e sz (ll.set q (jn cs o es)))):=⟨fun a w s K Q hK=>by
 have Bl:o + n≤sz:=Nat.le_of_ble_eq_true hl;have rx:=s.ev hx;have ry:=iz.rep hd (s.ev hy);unfold RD at rx;obtain ⟨g,off,mm,cap,rfl,rx⟩:=rx;obtain ⟨xs,h1,h2⟩:=s.res _ (List.mem_of_getElem? hi);have hlen:=RX.len h2;have yo:=(List.getElem?_eq_some_iff.1 hq).1;have Qa:=RX.DS h2 hq;have jZ:(a.eval y).cells.size=n:=by have:=ry.len;simp at this;omega
 have Bm:(q + 1) * sz≤ll.length * sz:=Nat.mul_le_mul_right _ yo;rw [Nat.add_mul] at Bm;obtain ⟨r1,r2⟩:=Row.eD (a.eval y).cells.toList w xs (q * sz + o) h1 (by simp;omega);obtain ⟨g',xV,e1,e2,hg,hc,hf⟩:=h1.cells (by omega);obtain ⟨rfl,rfl⟩:=by simpa using e1
 rw [← Nat.add_assoc] at r1 r2;have fW:=IF it.h w g (off + q * sz + o) (a.eval y) jZ (fun j hj=>⟨by
  rw [show off + q * sz + o + j=off + (q * sz + o + j) by omega,hc _ (by omega)];simp;omega,by
  rw [show off + q * sz + o + j=off + (q * sz + o + j) by omega];exact hf _⟩) ry.one
 have gJ:(execOp a.eval ⟨none,.store X x y,T,ps,af,gd⟩).run P w=.ok .skip (w.setCells g (off + q * sz + o) (a.eval y).cells.toList):=by
  simp [execOp,Sem.run_bind,Instr.storeAt,rx,Instr.sureAddr,fW]
 unfold Oper.wp;rw [gJ];have m:Mon (bF c L) (bF c L) w (w.setCells g (off + q * sz + o) (a.eval y).cells.toList):=Mon.lV r2 fun g' hg gL=>⟨gL,fun hm=>gL.2 (dz.2 ⟨_,List.mem_of_getElem? hi,by simpa [an.bT] using hm⟩)⟩
 refine hK () undef _ r2 (s.set hi rfl r2 ⟨_,by rw [List.length_set];exact r1,?_⟩) (fun y hy=>.inl ((ym (r':=.row (.slice (some ⟨g,off,none⟩) mm cap) e sz (ll.set q (jn cs o es))) hi rfl y).1 hy));exact RX.put es _ o (RX.cY m _ _ h2) hq Qa (RC.cY m _ _ ry) (by omega)⟩
theorem Ld.gR {e sz:Nat} [i:fM P X e sz] (ht:t < c.N):Ld P c ⟨some t,.buildSlice X 0 #[],T,ps,af,gd⟩ f L [] (fun b:Nat=>(t,.c (.v (.slice (some ⟨b,0,none⟩) 0 0))) :: f) (fun b=>.row (.slice (some ⟨b,0,none⟩) 0 0) e sz [] :: L):=⟨fun a w s K Q hK=>by
 have hk:aq [] w (w.alloc (.cells #[] e)):=(aq.refl [] w).alloc _;have fW:(execOp a.eval ⟨some t,.buildSlice X 0 #[],T,ps,af,gd⟩).run P w=.ok (.value (.slice (some ⟨w.heap.size,0,none⟩) 0 0)) (w.alloc (.cells #[] e)):=by
  simp [execOp,Instr.buildSlice,Sem.run_bind,run_underlying (lW.kE i.h),jK.run i.s,Instr.fill,newRow,Array.range_zero']
 unfold Oper.wp;rw [fW];refine hK w.heap.size _ _ hk (s.new ht hk (by simp [an.bT,dx]) ⟨[],Row.lit w [] e sz 0 (by simp) (by simp [maxLen]),rfl⟩ (by unfold RD RA;exact ⟨rfl,rfl⟩)) (uI (by simp [an.bT,dx]))⟩
theorem Ld.fO {e sz:Nat} {x:Operand} {d:D} {cs:List A} {zs:List Value} [i:fM P X e sz] [z:aX P e zs] (ht:t < c.N) (h:bg f x=some d) (hc:iz d=some cs) (hn:cs.length=sz) (h0:Nat.ble 1 sz=true) (hs:Nat.ble sz 1000=true):Ld P c ⟨some t,.buildSlice X 1 #[(0,x)],T,ps,af,gd⟩ f L [] (fun b:Nat=>(t,.c (.v (.slice (some ⟨b,0,none⟩) 1 1))) :: f) (fun b=>.row (.slice (some ⟨b,0,none⟩) 1 1) e sz [cs] :: L):=⟨fun a w s K Q hK=>by
 have Qb:1≤sz:=Nat.le_of_ble_eq_true h0;have IJ:sz≤1000:=Nat.le_of_ble_eq_true hs;have ry:=iz.rep hc (s.ev h);have jZ:(a.eval x).cells.size=sz:=by have:=ry.len;simp at this;omega
 obtain ⟨zv,Bo,wB⟩:=qf.run z.h;have ya:zv.cells.size=sz:=by
  have h1:=z.s.symm.trans i.s;simp at h1;rw [← Bo] at h1;simpa using h1
 have hk:aq [] w (w.alloc (.cells (a.eval x).cells e)):=(aq.refl [] w).alloc _;have DU:Instr.fill (fun j=>some (j * sz,sz)) ((Array.range sz).map (zv.cells[· % zv.cells.size]!)) [(0,a.eval x)]=some (a.eval x).cells:=by
  have e1:=Qc (a.eval x).cells ((Array.range sz).map (zv.cells[· % zv.cells.size]!)) (by simp [jZ]);simp only [Nat.zero_add] at e1;simpa [Instr.fill,jZ] using e1
 have fW:(execOp a.eval ⟨some t,.buildSlice X 1 #[(0,x)],T,ps,af,gd⟩).run P w=.ok (.value (.slice (some ⟨w.heap.size,0,none⟩) 1 1)) (w.alloc (.cells (a.eval x).cells e)):=by
  have h1:¬ sz > 2 ^ 24:=by omega
  have h2:¬ sz=0:=by omega
  simp only [execOp,Instr.buildSlice,Sem.run_bind,run_underlying (lW.kE i.h),jK.run i.s,Result.andThen_ok,Nat.one_mul,h1,h2,↓reduceIte,wB,Sem.run_pure,List.map_toArray,List.map_cons,List.map_nil,DU,newRow,run_newObj_alloc]
 unfold Oper.wp;rw [fW];have hf:∀ y∈(an.row (.slice (some ⟨w.heap.size,0,none⟩) 1 1) e sz [cs]).bT,w.heap.size≤y:=by simp [an.bT,dx]
 refine hK w.heap.size _ _ hk (s.new ht hk hf ⟨(a.eval x).cells.toList,?_,?_⟩ (by unfold RD RA;exact ⟨rfl,rfl⟩)) (uI hf)
 ·have:=Row.lit w (a.eval x).cells.toList e sz 1 (by simp [jZ]) (by simp [maxLen]);simpa [dx] using this
 ·refine ⟨(a.eval x).cells.toList,[],by simp,by simpa using jZ,?_,rfl⟩;exact RC.cY (Mon.lV hk fun g hg ho=>⟨Bk hf g hg ho,by simp⟩) cs _ ry⟩
where
 Qc (u z:Array Value) (h:z.size=u.size):u.zipIdx.foldl (fun cs x=>cs.setIfInBounds (0 + x.2) x.1) z=u:=by
  have key:∀ (l:List Value) (k:Nat) (z:Array Value),k + l.length≤z.size→(l.zipIdx k).foldl (fun cs x=>cs.setIfInBounds (0 + x.2) x.1) z=(z.toList.take k ++ l ++ z.toList.drop (k + l.length)).toArray:=by
   intro l
   induction l with
   | nil=>intro k z hz;simp
   | cons x l ih =>
    intro k z hz;simp only [List.length_cons] at hz;rw [List.zipIdx_cons,List.foldl_cons,ih (k + 1) _ (by simp;omega)];simp only [Nat.zero_add];apply congrArg;simp only [Array.toList_setIfInBounds,List.length_cons];rw [List.take_add_one,List.take_set,List.getElem?_set_self (by simp;omega)];rw [List.set_eq_of_length_le (by simp;omega),List.drop_set,if_pos (by omega)];simp only [Option.toList_some,List.append_assoc,List.singleton_append,List.cons_append,List.nil_append];rw [show k + (l.length + 1)=k + 1 + l.length by omega]
  rw [← Array.foldl_toList,Array.toList_zipIdx,key u.toList 0 z (by simp [h])];have:List.drop u.size z.toList=[]:=List.drop_eq_nil_of_le (by simp [h]);simp [this]
end
end Fl
open Go.RowKit
namespace Fl
theorem jo (r:an) (L:List an) (x:Nat):x∈bq (r :: L)↔x∈r.bT∨x∈bq L:=by simp [bq]
theorem RA.view {ok:Nat→Prop} {w:World} {sz:Nat} {l:List (List A)} {x:Value} (h:RA ok w (.r sz l) x):∃ ys S,View w x sz l.length ys S∧RX ok w sz l ys∧∀ g∈S,ok g:=by
 unfold RA at h;obtain ⟨ao,cap,rfl,h1,h2,h3⟩:=h;rcases h3 with rfl | ⟨g,off,rfl,j7,hg,hl⟩
 ·exact ⟨[],[],⟨by simp,ao,cap,rfl,by simpa using h1,h2,.inl ⟨rfl,rfl⟩⟩,rfl,by simp⟩
 ·have key:∀ (l:List (List A)) (off:Nat),RL ok w l g off sz→∃ ys:List Value,ys.length=l.length * sz∧w.rangeAt g off ys∧RX ok w sz l ys:=by
   intro l
   induction l with
   | nil=>intro off _;exact ⟨[],by simp,fun j v hj=>by simp at hj,rfl⟩
   | cons cs l ih =>
    intro off h;unfold RL at h;obtain ⟨⟨vs,a1,a2,a3⟩,h4⟩:=h;obtain ⟨ys,b1,b2,b3⟩:=ih _ h4;refine ⟨vs ++ ys,by simp [a1,b1,Nat.add_mul,Nat.add_comm],fun j v hj=>?_,vs,ys,rfl,a1,a3,b3⟩
    by_cases cJ:j < vs.length
    ·rw [List.getElem?_append_left cJ] at hj;exact a2 j v hj
    ·rw [List.getElem?_append_right (by omega)] at hj;have:=b2 _ v hj;rw [show off + sz + (j - vs.length)=off + j by omega] at this;exact this
  obtain ⟨ys,b1,b2,b3⟩:=key l off hl;exact ⟨ys,[g],⟨b1,_,cap,rfl,h1,h2,.inr ⟨g,off,rfl,rfl,hg,fun j hj=>by rw [List.getElem?_eq_getElem hj];exact b2 j _ (List.getElem?_eq_getElem hj)⟩⟩,b3,by simpa using j7⟩
theorem RA.Bp {ok:Nat→Prop} {w:World} {sz:Nat} {l:List (List A)} {x:Value} {ys:List Value} {S:List Nat} (h:View w x sz l.length ys S) (hr:RX ok w sz l ys) (hS:∀ g∈S,ok g):RA ok w (.r sz l) x:=by
 unfold RA;obtain ⟨hl,ao,cap,rfl,h1,h2,h3⟩:=h;refine ⟨ao,cap,rfl,h1,h2,?_⟩;rcases h3 with ⟨h3,_⟩ | ⟨g,off,rfl,rfl,hg,hc⟩
 ·exact .inl (List.length_eq_zero_iff.1 h3)
 ·refine .inr ⟨g,off,rfl,hS g (by simp),hg,?_⟩;have key:∀ (l:List (List A)) (ys:List Value) (off:Nat),w.rangeAt g off ys→RX ok w sz l ys→RL ok w l g off sz:=by
   intro l
   induction l with
   | nil=>intro ys off _ _;unfold RL;trivial
   | cons cs l ih =>
    intro ys off hc h;obtain ⟨vs,us,rfl,a1,a2,a3⟩:=h;unfold RL;refine ⟨⟨vs,a1,fun j v hj=>hc j v (by rw [List.getElem?_append_left (List.getElem?_eq_some_iff.1 hj).1];exact hj),a2⟩,ih us (off + sz) (fun j v hj=>?_) a3⟩;have:=hc (sz + j) v (by rw [List.getElem?_append_right (by omega),a1,Nat.add_sub_cancel_left];exact hj);rw [Nat.add_assoc];exact this
  exact key l ys off (fun j v hj=>by rw [hc j (List.getElem?_eq_some_iff.1 hj).1];exact hj) hr
theorem Qd {w:World} {v:Value} {e:TypeId} {sz n:Nat} {xs:List Value} {S:List Nat} (h:Row w v e sz n xs S):dx v=S:=by
 obtain ⟨h0,ao,cap,rfl,h2,h3,h4⟩:=h;rcases h4 with ⟨rfl,_,_,rfl⟩ | ⟨g,off,cur,rfl,rfl,_⟩ <;> rfl
section
variable {P:Program} {c:Cx} {k:List Item} {f:Fm} {L:List an} {ops:Array Oper} {l:List Oper} {o:Oper} {T X:TypeId} {ps:String} {af:Array Edge} {gd:Option (Nat × Bool)} {t:Nat}
inductive yq (L:List an) (e:TypeId) (sz:Nat):Value→List (List A)→List an→Prop
 | own {v m L'}:L=.row v e sz m :: L'→yq L e sz v m L'
 | nil:yq L e sz (.slice none 0 0) [] L
inductive oa (L:List an) (sz:Nat):D→List (List A)→Prop
 | read {m}:oa L sz (.c (.r sz m)) m
 | own (i:Nat) {v e m}:L[i]?=some (.row v e sz m)→oa L sz (.c (.v v)) m
 | nil:oa L sz (.c (.v (.slice none 0 0))) []
theorem Ld.Qe {e sz bytes:Nat} {z:Value} [E:ia P X e sz bytes z] {x y:Operand} {v:Value} {l1 l2:List (List A)} {L':List an} {d2:D} (h1:bg f x=some (.c (.v v))) (hd:yq L e sz v l1 L') (h2:bg f y=some d2) (hs:oa L' sz d2 l2) (hb:(l1.length + l2.length) * bytes≤140737488355328)
  {a:Act} {w:World} (s:St c f L a w):∃ v' w',(execOp a.eval ⟨some t,.call ⟨.builtin .append,#[x,y],#[X,X]⟩,T,ps,af,gd⟩).run P w=.ok (.value v') w'∧aq (dx v) w w'∧Mon (bF c L) (bF c (.row v' e sz (l1 ++ l2) :: L')) w w'∧(an.row v' e sz (l1 ++ l2)).holds (bF c (.row v' e sz (l1 ++ l2) :: L')) w'∧(∀ g∈dx v',g∈dx v∨w.heap.size≤g)∧(∀ q∈L',q∈L∧∀ g∈q.bT,g∉dx v)∧fq L'∧(∀ g∈dx v,g∈bq L):=by
 have rx:=s.val h1;have ry:=s.ev h2;have hD:∃ xs,Row w v e sz l1.length xs (dx v)∧RX (bF c L) w sz l1 xs∧(∀ q∈L',q∈L∧∀ g∈q.bT,g∉dx v)∧fq L'∧(∀ g∈dx v,g∈bq L):=by
  cases hd with
  | own e1 =>
   subst e1;obtain ⟨xs,g1,g2⟩:=s.res _ (List.mem_cons_self ..);have ap:=List.pairwise_cons.1 s.ap;exact ⟨xs,g1,g2,fun q hq=>⟨List.mem_cons_of_mem _ hq,fun g hg gL=>ap.1 q hq g gL hg⟩,ap.2,fun g hg=>dz.2 ⟨_,List.mem_cons_self ..,hg⟩⟩
  | nil=>exact ⟨[],Row.nil w e sz,rfl,fun q hq=>⟨hq,fun g _ hg=>by simp [dx] at hg⟩,s.ap,fun g hg=>by simp [dx] at hg⟩
 obtain ⟨xs,r1,r2,r3,r4,r5⟩:=hD;have hS:∃ ys S,View w (a.eval y) sz l2.length ys S∧RX (bF c L) w sz l2 ys:=by
  cases hs with
  | read=>unfold RD at ry;obtain ⟨ys,S,g1,g2,_⟩:=ry.view;exact ⟨ys,S,g1,g2⟩
  | own i hi =>
   obtain ⟨ys,g1,g2⟩:=s.res _ (r3 _ (List.mem_of_getElem? hi)).1;unfold RD RA at ry;rw [ry.1];exact ⟨ys,_,g1.view,g2⟩
  | nil =>
   unfold RD RA at ry;rw [ry.1];exact ⟨[],[],View.nil w sz,rfl⟩
 obtain ⟨ys,S,s1,s2⟩:=hS;obtain ⟨ao,cap,w',S',fW,g1,g2,g3,_⟩:=DB E.h T r1 s1 s2.one hb;have DV:=Qd g1;have hm:Mon (bF c L) (bF c (.row (.slice ao (l1.length + l2.length) cap) e sz (l1 ++ l2) :: L')) w w':=by
  refine Mon.lV g2 fun g hg ho=>⟨⟨ho.1,fun jL=>?_⟩,fun jL=>ho.2 (r5 g jL)⟩
  rcases (jo _ _ _).1 jL with jL | jL
  ·rw [an.bT,DV] at jL;rcases g3 g jL with h | h
   ·exact ho.2 (r5 g h)
   ·omega
  ·obtain ⟨q,hq,Qf⟩:=dz.1 jL;exact ho.2 (dz.2 ⟨q,(r3 q hq).1,Qf⟩)
 refine ⟨.slice ao (l1.length + l2.length) cap,w',?_,g2,hm,⟨xs ++ ys,by rw [DV,List.length_append];exact g1,RX.app (RX.cY hm _ _ r2) (RX.cY hm _ _ s2)⟩,fun g hg=>by rw [DV] at hg;exact g3 g hg,r3,r4,r5⟩;simp [execOp,resolve,invoke,builtin,rx,Sem.run_bind,fW]
theorem St.Qg {e sz:Nat} {v v':Value} {l1 l2:List (List A)} {L':List an} {a:Act} {w w':World} (s:St c f L a w) (ht:t < c.N) (k:aq (dx v) w w') (m:Mon (bF c L) (bF c (.row v' e sz (l1 ++ l2) :: L')) w w') (hh:(an.row v' e sz (l1 ++ l2)).holds (bF c (.row v' e sz (l1 ++ l2) :: L')) w') (hv:∀ g∈dx v',g∈dx v∨w.heap.size≤g) (h3:∀ q∈L',q∈L∧∀ g∈q.bT,g∉dx v) (h4:fq L') (h5:∀ g∈dx v,g∈bq L) (h1:v'.oneCell'=true) :
  St c ((t,.c (.v v')) :: f) (.row v' e sz (l1 ++ l2) :: L') (a.put (some t) v') w':=by
 refine s.put ht (by unfold RD RA;exact ⟨rfl,h1⟩) (s.kp.trans k (fun g hg=>s.fL g (h5 g hg))) ?_ ?_ ?_ m
 ·intro q hq;rcases List.mem_cons.1 hq with rfl | hq
  ·exact hh
  ·exact (s.res q (h3 q hq).1).cY k m (fun g hg gL=>(h3 q hq).2 g hg gL)
 ·intro x hx;rcases (jo _ _ _).1 hx with hx | hx
  ·rcases hv x hx with h | h
   ·exact s.fL x (h5 x h)
   ·exact .inr (Nat.le_trans s.kp.size h)
  ·obtain ⟨q,hq,l9⟩:=dz.1 hx;exact s.fL x (dz.2 ⟨q,(h3 q hq).1,l9⟩)
 ·refine List.pairwise_cons.2 ⟨fun q hq x hx fN=>?_,h4⟩;rcases hv x hx with h | h
  ·exact (h3 q hq).2 x fN h
  ·have:=s.lt x (dz.2 ⟨q,(h3 q hq).1,fN⟩);omega
theorem Ld.DW {e sz bytes:Nat} {z:Value} [E:ia P X e sz bytes z] {x y:Operand} {v:Value} {l1 l2:List (List A)} {L':List an} {d2:D} (ht:t < c.N) (h1:bg f x=some (.c (.v v))) (hd:yq L e sz v l1 L') (h2:bg f y=some d2) (hs:oa L' sz d2 l2) (hb:(l1.length + l2.length) * bytes≤140737488355328) :
  Ld P c ⟨some t,.call ⟨.builtin .append,#[x,y],#[X,X]⟩,T,ps,af,gd⟩ f L (dx v) (fun v':Value=>(t,.c (.v v')) :: f) (fun v'=>.row v' e sz (l1 ++ l2) :: L'):=⟨fun a w s K Q hK=>by
 obtain ⟨v',w',fW,g1,g2,g3,g4,g5,g6,g7⟩:=Ld.Qe (P:=P) (X:=X) (t:=t) (T:=T) (ps:=ps) (af:=af) (gd:=gd) h1 hd h2 hs hb s;unfold Oper.wp;rw [fW];have Qh:v'.oneCell'=true:=by
  obtain ⟨xs,r,_⟩:=g3;obtain ⟨ao,cap,rfl⟩:=r.shape;rfl
 exact hK v' _ _ g1 (s.Qg ht g1 g2 g3 g4 g5 g6 g7 Qh) fun y hy=>by
  rcases (jo _ _ _).1 hy with hy | hy
  ·rcases g4 y hy with h | h
   ·exact .inl (g7 y h)
   ·exact .inr h
  ·obtain ⟨q,hq,Qi⟩:=dz.1 hy;exact .inl (dz.2 ⟨q,(g5 q hq).1,Qi⟩)⟩
theorem St.freeze {e sz:Nat} {v:Value} {l:List (List A)} {a:Act} {w:World} (s:St c ((t,.c (.v v)) :: f) (.row v e sz l :: L) a w):St c ((t,.c (.r sz l)) :: f) L a w:=by
 have m:Mon (bF c (.row v e sz l :: L)) (bF c L) w w:=⟨Nat.le_refl _,fun g _ ho=>⟨⟨ho.1,fun hx=>ho.2 ((jo _ _ _).2 (.inr hx))⟩,rfl⟩⟩
 have ap:=List.pairwise_cons.1 s.ap;refine ⟨s.kp,s.size,s.j5,fun q hq=>(s.res q (List.mem_cons_of_mem _ hq)).cY (aq.refl [] w) m (by simp),fun x hx=>s.fL x ((jo _ _ _).2 (.inr hx)),ap.2,fun u e' hu=>?_⟩
 by_cases e1:t=u
 ·subst e1;rw [qg] at hu;cases hu;have hv:=s.fr t _ (qg _ _ _);obtain ⟨xs,r1,r2⟩:=s.res _ (List.mem_cons_self ..);unfold RD RA at hv;rw [hv.1];unfold RD;refine RA.Bp r1.view (RX.cY m _ _ r2) fun g hg=>⟨.inr (s.fL g ((jo _ _ _).2 (.inl hg))),fun hx=>?_⟩
  obtain ⟨q,hq,l9⟩:=dz.1 hx;exact ap.1 q hq g hg l9
 ·rw [uF e1] at hu;exact RD.cY m e' _ (s.fr u e' (by rw [uF e1];exact hu))
theorem Ld.IK {e sz bytes:Nat} {z:Value} [E:ia P X e sz bytes z] {x y:Operand} {v:Value} {l1 l2:List (List A)} {L':List an} {d2:D} (ht:t < c.N) (h1:bg f x=some (.c (.v v))) (hd:yq L e sz v l1 L') (h2:bg f y=some d2) (hs:oa L' sz d2 l2) (hb:(l1.length + l2.length) * bytes≤140737488355328) :
  Ld P c ⟨some t,.call ⟨.builtin .append,#[x,y],#[X,X]⟩,T,ps,af,gd⟩ f L (dx v) (fun _:Unit=>(t,.c (.r sz (l1 ++ l2))) :: f) (fun _=>L'):=⟨fun a w s K Q hK =>
 (Ld.DW ht h1 hd h2 hs hb).go a w s K Q fun v' u w' k' s' hf=>hK () u w' k' s'.freeze fun y hy=>hf y ((jo _ _ _).2 (.inr hy))⟩
end
end Fl
open Go.RowKit
namespace Fl
inductive mc:A→A→Prop
 | refl {a}:mc a a
 | nil {sz}:mc (.v (.slice none 0 0)) (.r sz [])
inductive jr:List A→List A→Prop
 | nil:jr [] []
 | cons {a b xs ys}:mc a b→jr xs ys→jr (a :: xs) (b :: ys)
 | refl {xs}:jr xs xs
mutual
inductive eU:D→D→Prop
 | refl {d}:eU d d
 | c {a b}:mc a b→eU (.c a) (.c b)
 | agg {a b}:jr a b→eU (.agg a) (.agg b)
 | any {d}:eU d .any
 | aZ {a b}:aW a b→eU (.aZ a) (.aZ b)
inductive aW:List D→List D→Prop
 | nil:aW [] []
 | cons {a b xs ys}:eU a b→aW xs ys→aW (a :: xs) (b :: ys)
end
theorem eU.of_eq {a b:D} (h:a=b):eU a b:=h ▸ .refl
section
variable {ok:Nat→Prop} {w:World}
theorem mc.rep {a b:A} (h:mc a b) {x:Value} (r:RA ok w a x):RA ok w b x:=by
 cases h with
 | refl=>exact r
 | nil=>unfold RA at r ⊢;exact ⟨none,0,r.1,by simp,by simp [maxLen],.inl rfl⟩
theorem jr.rep {a b:List A} (h:jr a b):∀ {x:List Value},RC ok w a x→RC ok w b x:=by
 induction h with
 | nil=>exact id
 | refl=>exact id
 | cons h1 h2 ih=>intro x r;unfold RC at r;obtain ⟨y,ys,rfl,r1,r2⟩:=r;exact RC.cons (h1.rep r1) (ih r2)
mutual
theorem eU.rep {a b:D}:eU a b→∀ {x:Value},RD ok w a x→RD ok w b x
 | .refl,x,r=>r
 | .c h,x,r=>by unfold RD at r ⊢;exact h.rep r
 | .agg h,x,r=>by unfold RD at r ⊢;obtain ⟨vs,h1,h2⟩:=r;exact ⟨vs,h1,h.rep h2⟩
 | .any,x,r=>by unfold RD;trivial
 | .aZ h,x,r=>by unfold RD at r ⊢;obtain ⟨vs,h1,h2⟩:=r;exact ⟨vs,h1,aW.rep h h2⟩
theorem aW.rep {a b:List D}:aW a b→∀ {x:List Value},ck ok w a x→ck ok w b x
 | .nil,x,r=>r
 | .cons h1 h2,x,r=>by unfold ck at r;obtain ⟨y,ys,rfl,r1,r2⟩:=r;exact ck.cons (eU.rep h1 r1) (aW.rep h2 r2)
end
end
def mJ (ok:Nat→Prop) (e:World) (L pL:List an) (g:Nat):Prop:=(ok g∨g∈bq L∨e.heap.size≤g)∧g∉bq pL
def Qj (ok:Nat→Prop) (e:World) (L:List an) (pd:D) (pL:List an) (en:Ending) (w':World):Prop :=
 ∃ x,en=.returned x∧aq (bq L) e w'∧(∀ y∈bq pL,y∈bq L∨e.heap.size≤y)∧fq pL∧(∀ r∈pL,r.holds (mJ ok e L pL) w')∧RD (mJ ok e L pL) w' pd x
def DX {ι:Type} (ok:Nat→Prop) (e:World) (L:List an) (post:ι→D × List an) (en:Ending) (w':World):Prop:=∃ i,Qj ok e L (post i).1 (post i).2 en w'
structure av (P:Program) (F:FuncId) (ds:List D) (L:List an) {ι:Type} (post:ι→D × List an):Prop where
 go:∀ (ok:Nat→Prop) (e:World) (xs:List Value),ck ok e ds xs→(∀ r∈L,r.holds ok e)→fq L→(∀ x∈bq L,¬ ok x)→Calls P F xs.toArray e (DX ok e L post)
abbrev Pure (P:Program) (F:FuncId) (ds:List D) (d:D):Prop:=av P F ds [] (fun _:Unit=>(d,[]))
def cx (F:FuncId) {ι:Type} (ok:Nat→Prop) (e:World) (L:List an) (post:ι→D × List an) (N:Nat):Cx:=⟨F,DX ok e L post,bq L,ok,e,N⟩
def wC:Nat→List D→Fm
 | _,[]=>[]
 | k,d :: ds=>(k,d) :: wC (k + 1) ds
theorem IL:∀ (ds:List D) (k t:Nat) (d:D),look (wC k ds) t=some d→k≤t∧ds[t - k]?=some d
 | [],k,t,d,h=>by simp [wC,look] at h
 | x :: ds,k,t,d,h=>by
  simp only [wC,look] at h
  cases hb:Nat.beq k t with
  | true =>
   rw [hb] at h;have:=Nat.eq_of_beq_eq_true hb;subst this;simp at h;subst h;simp
  | false =>
   rw [hb] at h;obtain ⟨h1,h2⟩:=IL ds (k + 1) t d h;exact ⟨by omega,by rw [show t - k=t - (k + 1) + 1 by omega];simpa using h2⟩
section
variable {P:Program} {F:FuncId} {ds:List D} {L:List an} {ι:Type} {post:ι→D × List an} {fn:Func} {body:Code} {N:Nat}
theorem av.intro (hf:P.funcs[F]?=some fn) (hb:fn.body=some body) (hN:fn.ntmps=N) (hn:Nat.ble ds.length N=true)
  (h:∀ ok e,J P (cx F ok e L post N) [.code body] (wC 0 ds) L):av P F ds L post:=⟨fun ok e xs hd hr ha ho cs=>by
 have hlen:=hd.len;have hn':ds.length≤N:=Nat.le_of_ble_eq_true hn
 let b:Frame:={ (default:Frame) with fn:=F,kind:=.normal }
 have Qk:Frame.enter P F xs.toArray .normal=b.at { tmps:=xs.toArray ++ Array.replicate (fn.ntmps - xs.toArray.size) undef,defers:=[] } [.code body]:=by
  simp [Frame.enter,Frame.at,hf,hb,b]
 have m:Mon ok (bF (cx F ok e L post N) L) e e:=⟨Nat.le_refl _,fun g _ hg=>⟨⟨.inl hg,fun hx=>ho g hx hg⟩,rfl⟩⟩
 have eY:St (cx F ok e L post N) (wC 0 ds) L { tmps:=xs.toArray ++ Array.replicate (fn.ntmps - xs.toArray.size) undef,defers:=[] } e:=by
  refine ⟨aq.refl _ _,by simp [cx];omega,rfl,fun r uJ=>(hr r uJ).cY (aq.refl [] e) m (by simp),fun x hx=>.inl hx,ha,fun t d ht=>?_⟩;obtain ⟨_,h2⟩:=IL ds 0 t d ht;rw [Nat.sub_zero] at h2;obtain ⟨x,hx,rF⟩:=hd.get t h2;have cJ:=(List.getElem?_eq_some_iff.1 hx).1;have:(xs.toArray ++ Array.replicate (fn.ntmps - xs.toArray.size) undef).getD t undef=x:=by
   rw [Array.getD_eq_getD_getElem?,Array.getElem?_append_left (by simpa using cJ)];simp [hx]
  rw [this];exact RD.cY m d _ rF
 obtain ⟨en,w',fr,h1,h2,h3,h4⟩:=(h ok e).go _ e eY b cs rfl rfl;exact ⟨en,w',fr,h1,by rw [Qk];exact h2,h3,h4⟩⟩
end
inductive wD (P:Program) (f:Fm) (L:List an):ResultVar→D→Prop
 | tmp {t d}:look f t=some d→wD P f L (.tmp t) d
 | cell (i:Nat) {t b T B n cs} [j6 P T n]:look f t=some (.c (.v (.pointer (some ⟨b,0,none⟩))))→L[i]?=some (.box b B cs)→cs.length=n→wD P f L (.cell t T) (.agg cs)
 | Ql (i:Nat) {t b T B a} [gS P T]:look f t=some (.c (.v (.pointer (some ⟨b,0,none⟩))))→L[i]?=some (.box b B [a])→wD P f L (.cell t T) (.c a)
inductive iI (P:Program) (f:Fm) (L:List an):List ResultVar→List D→Prop
 | nil:iI P f L [] []
 | cons {r d rs ds}:wD P f L r d→iI P f L rs ds→iI P f L (r :: rs) (d :: ds)
def qh:List D→D
 | [d]=>d
 | ds=>.aZ ds
def yt (tmps:Array Value):ResultVar→Sem Value
 | .tmp t=>pure (tmps.getD t undef)
 | .cell a t=>do loadVar t (← asAddr (tmps.getD a undef))
theorem Qm (fn:Func) (tmps:Array Value):results fn tmps=(do let vs ← fn.results.mapM (yt tmps);pure (if h:vs.size=1 then vs[0] else .tuple vs)):=rfl
section
variable {P:Program} {c:Cx} {f:Fm} {L:List an}
theorem wD.run {r:ResultVar} {d:D} (h:wD P f L r d) {a:Act} {w:World} (s:St c f L a w):∃ x,RD (bF c L) w d x∧(yt a.tmps r).run P w=.ok x w:=by
 cases h with
 | tmp h1=>exact ⟨_,s.fr _ _ h1,rfl⟩
 | @cell i t b T B n cs it h1 h2 h3 =>
  have hv:=s.fr _ _ h1;unfold RD RA at hv;obtain ⟨vs,g1,g2⟩:=s.res _ (List.mem_of_getElem? h2);refine ⟨.agg vs.toArray,by unfold RD;exact ⟨vs,rfl,g2⟩,?_⟩;have hlen:=g2.len;have yf:(loadCells ⟨b,0,none⟩ vs.length).run P w=.ok vs.toArray w:=run_loadCells_list (P:=P) w ⟨b,0,none⟩ _ (fun j v hv=>by rw [Addr.add_mid];exact g1.range j v hv);rw [hlen,h3] at yf;simp only [yt,hv.1,asAddr,Sem.run_bind,Sem.run_pure,Result.andThen_ok,loadVar,mG.runT it.h,↓reduceIte,jK.run it.s,yf]
 | @Ql i t b T B e it h1 h2 =>
  have hv:=s.fr _ _ h1;unfold RD RA at hv;obtain ⟨vs,g1,g2⟩:=s.res _ (List.mem_of_getElem? h2);obtain ⟨x,hx,hr⟩:=g2.get 0 rfl;refine ⟨x,by unfold RD;exact hr,?_⟩;have rz:w.cell? ⟨b,0,none⟩=some x:=by rw [g1.cell];exact hx
  have hl:(load ⟨b,0,none⟩).run P w=.ok x w:=by simp [load,Sem.run,rz]
  simp only [yt,hv.1,asAddr,Sem.run_bind,Sem.run_pure,Result.andThen_ok,loadVar,mG.DO it.h,Bool.false_eq_true,↓reduceIte,hl]
theorem iI.run {rs:List ResultVar} {ds:List D} (h:iI P f L rs ds) {a:Act} {w:World} (s:St c f L a w):∃ xs,ck (bF c L) w ds xs∧(rs.mapM (yt a.tmps)).run P w=.ok xs w:=by
 induction h with
 | nil=>exact ⟨[],ck.nil,rfl⟩
 | cons h1 h2 ih =>
  obtain ⟨x,a1,a2⟩:=h1.run s;obtain ⟨xs,b1,b2⟩:=ih;refine ⟨x :: xs,ck.cons a1 b1,?_⟩;rw [List.mapM_cons,Sem.run_bind,a2];simp [Sem.run_bind,b2]
end
section
variable {P:Program} {F:FuncId} {ok:Nat→Prop} {e:World} {L0 L L':List an} {ι:Type} {post:ι→D × List an} {fn:Func} {N:Nat} {f:Fm} {k:List Item}
theorem mapM_some {α:Type} {L L':List α}:∀ {idx:List Nat},idx.map (fun i=>L[i]?)=L'.map some→∀ q∈L',q∈L
 | [],h=>by cases L' with | nil=>simp | cons x l=>simp at h
 | i :: idx,h=>by
  cases L' with
  | nil=>simp
  | cons x l =>
   simp only [List.map_cons,List.cons.injEq] at h;intro q hq;rcases List.mem_cons.1 hq with rfl | hq
   ·exact List.mem_of_getElem? h.1
   ·exact mapM_some h.2 q hq
theorem IM {L:List an} (ha:fq L):∀ {idx:List Nat} {L':List an},idx.Nodup→idx.map (fun i=>L[i]?)=L'.map some→fq L'
 | [],L',hn,h=>by cases L' with | nil=>exact List.Pairwise.nil | cons x l=>simp at h
 | i :: idx,L',hn,h=>by
  cases L' with
  | nil=>simp at h
  | cons x l =>
   simp only [List.map_cons,List.cons.injEq] at h;have me:=List.nodup_cons.1 hn;refine List.pairwise_cons.2 ⟨fun q hq=>?_,IM ha me.2 h.2⟩;have:∃ j∈idx,L[j]?=some q:=by
    have hm:some q∈l.map some:=List.mem_map.2 ⟨q,hq,rfl⟩;rw [← h.2] at hm;exact List.mem_map.1 hm
   obtain ⟨j,hj,eP⟩:=this;exact fq.ne ha h.1 eP (fun e=>me.1 (e ▸ hj))
theorem IN (hf:P.funcs[F]?=some fn) {rs:List ResultVar} {ds:List D} (iQ:fn.results=rs.toArray) (h:iI P f L rs ds) {d:D} {i:ι} (hle:eU (qh ds) d) (idx:List Nat) (dN:idx.Nodup) (hL:idx.map (fun i=>L[i]?)=L'.map some) (hp:post i=(d,L')) {a:Act} {w:World} (s:St (cx F ok e L0 post N) f L a w) :
  ∃ x,(results fn a.tmps).run P w=.ok x w∧DX ok e L0 post (.returned x) w:=by
 obtain ⟨xs,h1,h2⟩:=h.run s;have hr:(results fn a.tmps).run P w=.ok (if h:xs.toArray.size=1 then xs.toArray[0] else .tuple xs.toArray) w:=by
  rw [Qm,iQ,List.mapM_toArray,Sem.run_bind,map_eq_pure_bind,Sem.run_bind,h2];rfl
 refine ⟨_,hr,i,?_⟩;rw [hp];have IP:=mapM_some hL;have IQ:∀ x,x∈bq L'→x∈bq L:=fun x hx=>by
  obtain ⟨q,hq,hx⟩:=dz.1 hx;exact dz.2 ⟨q,IP q hq,hx⟩
 have m:Mon (bF (cx F ok e L0 post N) L) (mJ ok e L0 L') w w:=⟨Nat.le_refl _,fun g _ hg=>⟨⟨hg.1,fun hx=>hg.2 (IQ g hx)⟩,rfl⟩⟩
 refine ⟨_,rfl,s.kp,fun y hy=>s.fL y (IQ y hy),IM s.ap dN hL,fun r hr=>(s.res r (IP r hr)).cY (aq.refl [] w) m (by simp),RD.cY m _ _ (hle.rep ?_)⟩
 cases ds with
 | nil=>unfold ck at h1;subst h1;unfold qh RD;exact ⟨[],rfl,ck.nil⟩
 | cons d1 ds =>
  unfold ck at h1;obtain ⟨x,ys,rfl,h3,h4⟩:=h1
  cases ds with
  | nil=>unfold ck at h4;subst h4;exact h3
  | cons d2 ds =>
   unfold ck at h4;obtain ⟨y,zs,rfl,h5,h6⟩:=h4;unfold qh RD;exact ⟨x :: y :: zs,rfl,ck.cons h3 (ck.cons h5 h6)⟩
theorem J.ret (hf:P.funcs[F]?=some fn) {rs:List ResultVar} {ds:List D} (iQ:fn.results=rs.toArray) (h:iI P f L rs ds) {d:D} (i:ι) (hle:eU (qh ds) d) (idx:List Nat) (dN:idx.Nodup) (hL:idx.map (fun i=>L[i]?)=L'.map some) (hp:post i=(d,L')):J P (cx F ok e L0 post N) (.code .ret :: k) f L:=⟨fun a w s=>by
 obtain ⟨x,h1,h2⟩:=IN hf iQ h hle idx dN hL hp s;exact fun b cs hb hk=>⟨.returned x,w,_,h2,Steps.one step_ret,hb,rfl,s.j5,hk,fn,by simpa [Frame.at,hb,cx] using hf,h1⟩⟩
theorem J.fin (hf:P.funcs[F]?=some fn) {rs:List ResultVar} {ds:List D} (iQ:fn.results=rs.toArray) (h:iI P f L rs ds) {d:D} (i:ι) (hle:eU (qh ds) d) (idx:List Nat) (dN:idx.Nodup) (hL:idx.map (fun i=>L[i]?)=L'.map some) (hp:post i=(d,L')):J P (cx F ok e L0 post N) [] f L:=⟨fun a w s=>by
 obtain ⟨x,h1,h2⟩:=IN hf iQ h hle idx dN hL hp s;exact fun b cs hb hk=>⟨.returned x,w,_,h2,Steps.one step_end,hb,rfl,s.j5,hk,fn,by simpa [Frame.at,hb,cx] using hf,h1⟩⟩
end
end Fl
end Go.Proofs.YtdjhhbpedllnhaaGreat
