/-
  What the laws need, part A3.
  Conditions: none.
-/
import Derived.Test.YtofnbflkhgammaaGreatA2
set_option linter.unusedVariables false
set_option linter.unusedSimpArgs false
set_option linter.unnecessarySimpa false
set_option maxHeartbeats 2000000
namespace Go.Proofs.YtofnbflkhgammaaGreat
open Go.RowKit
namespace Fl
class aQ (P:Program) (T:TypeId) (zs:outParam (List Value)):Prop where
 h:pH P T=some zs:=by kernel_rfl
 o:zs.all (·.oneCell')=true:=by kernel_rfl
 s:iO P T=some zs.length:=by kernel_rfl
class gB (P:Program) (T:TypeId) (e:outParam TypeId) (sz bytes:outParam Nat) (z:outParam Value):Prop where h:jP P T e sz bytes z
def C8 (P:Program) (F:FuncId):Bool:=match P.funcs[F]? with
 | some fn=>fn.name != "runtime.NumGoroutine" && fn.body.isSome
 | none=>false
class aG (P:Program) (F:FuncId):Prop where h:C8 P F=true:=by kernel_rfl
def vs (zs:List Value):List A:=zs.map A.v
theorem RC.vs {ok:Nat→Prop} {w:World}:∀ {zs:List Value},zs.all (·.oneCell')=true→RC ok w (vs zs) zs
 | [],_=>RC.nil
 | z :: zs,h=>by
  simp only [List.all_cons,Bool.and_eq_true] at h;exact RC.cons (by unfold RA;exact ⟨rfl,h.1⟩) (RC.vs h.2)
section
variable (P:Program) (c:Cx)
structure Ld (o:Oper) (f:Fm) (L:List ai) (S:List Nat) {ι:Type} (f':ι→Fm) (L':ι→List ai):Prop where
 go:∀ a w,St c f L a w→∀ (K:Act→World→Prop) (Q:Exit→Act→World→Prop),(∀ x v w',aj S w w'→St c (f' x) (L' x) (a.put o.dst v) w'→(∀ y∈aO (L' x),y∈aO L∨w.heap.size≤y)→K (a.put o.dst v) w')→o.wp P a w K Q
end
section
variable {P:Program} {c:Cx} {k:List Item} {f:Fm} {L:List ai} {ops:Array Oper} {l:List Oper} {o:Oper}
theorem JO.ld {S:List Nat} {ι:Type} {f':ι→Fm} {L':ι→List ai} (h:Ld P c o f L S f' L') (hw:dJ ops o f=true) (hr:∀ x,JO P c ops l k (f' x) (L' x)):JO P c ops (o :: l) k f L:=⟨fun a w s=>by
 refine wpList_step fun K hK=>?_
 rw [dJ.run hw s];simp only [↓reduceIte];exact h.go a w s K _ fun x v w' _ hp _=>hK _ _ ((hr x).go _ w' hp)⟩
theorem Ab {r:ai} {w:World} (hr:∀ x∈r.bM,w.heap.size≤x):∀ g,g < w.heap.size→bh c L g→bh c (r :: L) g:=fun g hg ho =>
 ⟨ho.1,fun hm=>by
  obtain ⟨q,hq,hx⟩:=c9.1 hm;rcases List.mem_cons.1 hq with rfl | hq
  ·have:=hr g hx;omega
  ·exact ho.2 (c9.2 ⟨q,hq,hx⟩)⟩
theorem St.new {a:Act} {w w':World} {t:Nat} {d:D} {v:Value} {r:ai} (s:St c f L a w) (ht:t < c.N) (k:aj [] w w') (hr:∀ x∈r.bM,w.heap.size≤x) (h:r.holds (bh c (r :: L)) w') (hd:RD (bh c (r :: L)) w' d v):St c ((t,d) :: f) (r :: L) (a.put (some t) v) w':=by
 have m:Mon (bh c L) (bh c (r :: L)) w w':=Mon.kT k fun g hg ho=>⟨Ab hr g hg ho,by simp⟩
 refine s.put ht hd (s.kp.then k) ?_ ?_ ?_ m
 ·intro q hq;rcases List.mem_cons.1 hq with rfl | hq
  ·exact h
  ·exact (s.res q hq).cK k m (by simp)
 ·intro x hx;obtain ⟨q,hq,mw⟩:=c9.1 hx;rcases List.mem_cons.1 hq with e | hq
  ·exact .inr (Nat.le_trans s.kp.size (hr x (e ▸ mw)))
  ·exact s.fN x (c9.2 ⟨q,hq,mw⟩)
 ·refine List.pairwise_cons.2 ⟨fun q hq x hx fC=>?_,s.ap⟩;have h1:=hr x hx;have h2:=s.lt x (c9.2 ⟨q,hq,fC⟩);omega
theorem tJ {r:ai} {w:World} (hr:∀ x∈r.bM,w.heap.size≤x):∀ y∈aO (r :: L),y∈aO L∨w.heap.size≤y:=fun y hy=>by
 obtain ⟨q,hq,h⟩:=c9.1 hy;rcases List.mem_cons.1 hq with e | hq
 ·exact .inr (hr y (e ▸ h))
 ·exact .inl (c9.2 ⟨q,hq,h⟩)
theorem pH.run {T:Nat} {zs:List Value} (h:pH P T=some zs):∃ z:Value,z.cells.toList=zs∧∀ w,(zeroValue T).run P w=.ok z w:=by
 unfold pH at h
 cases hi:P.info? T with
 | none=>rw [hi] at h;cases h
 | some i =>
  rw [hi] at h
  cases hz:i.zero with
  | none=>simp [hz] at h
  | some z=>simp [hz] at h;exact ⟨z,h,fun w=>by simp [zeroValue,typeInfo,Sem.run_bind,hi,hz]⟩
variable {T X:TypeId} {ps:String} {af:Array Edge} {gd:Option (Nat × Bool)} {t:Nat}
theorem Ld.alloc {zs:List Value} [i:aQ P X zs] (ht:t < c.N):Ld P c ⟨some t,.alloc X,T,ps,af,gd⟩ f L [] (fun b:Nat=>(t,.c (.v (.pointer (some ⟨b,0,none⟩)))) :: f) (fun b=>.box b X (vs zs) :: L):=⟨fun a w s K Q hK=>by
 obtain ⟨z,hz,hr⟩:=pH.run i.h;have hk:aj [] w (w.alloc (.cells z.cells X)):=(aj.refl [] w).alloc _;have fI:(execOp a.eval ⟨some t,.alloc X,T,ps,af,gd⟩).run P w=.ok (.value (.pointer (some ⟨w.heap.size,0,none⟩))) (w.alloc (.cells z.cells X)):=by
  simp [execOp,Instr.alloc,Sem.run_bind,hr,newVar,newRow]
 unfold Oper.wp;rw [fI];refine hK w.heap.size _ _ hk (s.new ht hk (by simp [ai.bM]) ⟨zs,?_,RC.vs i.o⟩ (by unfold RD RA;exact ⟨rfl,rfl⟩)) (tJ (by simp [ai.bM]));subst hz;have:=cI.new w z.cells.toList X;simpa using this⟩
def gD:D→Option (List A)
 | .c a=>some [a]
 | .agg cs=>some cs
 | _=>none
theorem gD.rep {d:D} {cs:List A} (h:gD d=some cs) {ok:Nat→Prop} {w:World} {x:Value} (r:RD ok w d x):RC ok w cs x.cells.toList:=by
 unfold gD at h
 split at h
 ·cases h;unfold RD at r;have h1:=r.one;have:x.cells.toList=[x]:=by cases x <;> first | rfl | (cases h1;done)
  rw [this];exact RC.cons r RC.nil
 ·cases h;unfold RD at r;obtain ⟨vs,rfl,h⟩:=r;simpa [Value.cells] using h
 ·cases h
theorem Ld.box {x:Operand} {d:D} {cs:List A} (ht:t < c.N) (h:aN f x=some d) (hc:gD d=some cs):Ld P c ⟨some t,.box X x,T,ps,af,gd⟩ f L [] (fun b:Nat=>(t,.c (.v (.pointer (some ⟨b,0,none⟩)))) :: f) (fun b=>.box b X cs :: L):=⟨fun a w s K Q hK=>by
 have hr:=gD.rep hc (s.ev h);have hk:aj [] w (w.alloc (.cells (a.eval x).cells X)):=(aj.refl [] w).alloc _;have fI:(execOp a.eval ⟨some t,.box X x,T,ps,af,gd⟩).run P w=.ok (.value (.pointer (some ⟨w.heap.size,0,none⟩))) (w.alloc (.cells (a.eval x).cells X)):=by
  simp [execOp,Instr.box,Sem.run_bind,newVar,newRow]
 unfold Oper.wp;rw [fI];have hf:∀ y∈(ai.box w.heap.size X cs).bM,w.heap.size≤y:=by simp [ai.bM]
 refine hK w.heap.size _ _ hk (s.new ht hk hf ⟨(a.eval x).cells.toList,?_,?_⟩ (by unfold RD RA;exact ⟨rfl,rfl⟩)) (tJ hf)
 ·have:=cI.new w (a.eval x).cells.toList X;simpa using this
 ·exact RC.cK (Mon.kT hk fun g hg ho=>⟨Ab hf g hg ho,by simp⟩) cs _ hr⟩
theorem xe {i:Nat} {r r':ai} (hi:L[i]?=some r) (hf:r'.bM=r.bM) (x:Nat):x∈aO (L.set i r')↔x∈aO L:=by
 have:(L.set i r').map ai.bM=L.map ai.bM:=by
  rw [List.map_set];apply List.ext_getElem?;intro j;rw [List.getElem?_set]
  split
  ·rename_i e;subst e
   split
   ·rw [List.getElem?_map,hi];simp [hf]
   ·rename_i hn;simp at hn;rw [List.getElem?_eq_none (by simpa using hn)]
  ·rfl
 unfold aO;rw [List.flatMap_def,List.flatMap_def,this]
theorem OA {i:Nat} {r r':ai} (hi:L[i]?=some r) (hf:r'.bM=r.bM):bh c (L.set i r')=bh c L:=by
 funext x;unfold bh;rw [xe hi hf]
theorem G3:∀ {L:List ai} {i:Nat} {r r':ai},L[i]?=some r→(∀ x,x∈r'.bM→x∈r.bM)→fA L→fA (L.set i r')
 | [],i,r,r',h,hf,ha=>by simp at h
 | q :: L,0,r,r',h,hf,ha=>by
  simp at h;subst h;have:=List.pairwise_cons.1 ha;exact List.pairwise_cons.2 ⟨fun s hs x hx=>this.1 s hs x (hf x hx),this.2⟩
 | q :: L,i + 1,r,r',h,hf,ha=>by
  simp at h;have:=List.pairwise_cons.1 ha;simp only [List.set_cons_succ];refine List.pairwise_cons.2 ⟨fun s hs x hx fC=>?_,G3 h hf this.2⟩;rcases List.mem_or_eq_of_mem_set hs with hs | rfl
  ·exact this.1 s hs x hx fC
  ·exact this.1 r (List.mem_of_getElem? h) x hx (hf x fC)
theorem fA.ne:∀ {L:List ai} {i j:Nat} {r q:ai},fA L→L[i]?=some r→L[j]?=some q→i≠j→∀ x∈r.bM,x∉q.bM
 | [],i,j,r,q,ha,hi,hj,hn,x,hx=>by simp at hi
 | p :: L,0,0,r,q,ha,hi,hj,hn,x,hx=>by simp at hn
 | p :: L,0,j + 1,r,q,ha,hi,hj,hn,x,hx=>by
  simp at hi hj;subst hi;exact (List.pairwise_cons.1 ha).1 q (List.mem_of_getElem? hj) x hx
 | p :: L,i + 1,0,r,q,ha,hi,hj,hn,x,hx=>fun fC=>by
  simp at hi hj;subst hj;exact (List.pairwise_cons.1 ha).1 r (List.mem_of_getElem? hi) x fC hx
 | p :: L,i + 1,j + 1,r,q,ha,hi,hj,hn,x,hx=>by
  simp at hi hj;exact fA.ne (List.pairwise_cons.1 ha).2 hi hj (by omega) x hx
theorem St.set {a:Act} {w w':World} {i:Nat} {r r':ai} (s:St c f L a w) (hi:L[i]?=some r) (hf:r'.bM=r.bM) (k:aj r.bM w w') (h:r'.holds (bh c L) w'):St c f (L.set i r') a w':=by
 have ho:=OA (c:=c) hi hf;have jm:∀ x∈r.bM,x∈aO L:=fun x hx=>c9.2 ⟨r,List.mem_of_getElem? hi,hx⟩
 have m:Mon (bh c L) (bh c L) w w':=Mon.kT k fun g hg fX=>⟨fX,fun hm=>fX.2 (jm g hm)⟩
 refine ⟨s.kp.trans k (fun x hx=>s.fN x (jm x hx)),s.size,s.jT,fun q hq=>?_,fun x hx=>s.fN x ((xe hi hf x).1 hx),G3 hi (fun x hx=>hf ▸ hx) s.ap,fun t d hd=>by rw [ho];exact RD.cK m d _ (s.fr t d hd)⟩;rw [ho];obtain ⟨j,hj⟩:=List.getElem?_of_mem hq;rw [List.getElem?_set] at hj
 split at hj
 ·split at hj
  ·simp at hj;subst hj;exact h
  ·cases hj
 ·rename_i br;exact (s.res q (List.mem_of_getElem? hj)).cK k m (fun x hx hm=>fA.ne s.ap hi hj br x hm hx)
theorem cI.dS {t:TypeId} {g:Nat}:∀ (cs p z q:List Value) (w:World),z.length=cs.length→cI w g (p ++ z ++ q) t→cI (w.setCells g p.length cs) g (p ++ cs ++ q) t∧aj [g] w (w.setCells g p.length cs)
 | [],p,z,q,w,h,hb=>by
  have:z=[]:=List.length_eq_zero_iff.1 h;subst this;exact ⟨hb,aj.refl _ _⟩
 | c :: cs,p,[],q,w,h,hb=>by simp at h
 | c :: cs,p,x :: z,q,w,h,hb=>by
  have h1:=hb.set p.length c;have e:(p ++ x :: z ++ q).set p.length c=(p ++ [c]) ++ z ++ q:=by simp
  rw [e] at h1;obtain ⟨h2,k2⟩:=cI.dS cs (p ++ [c]) z q (w.setCell ⟨g,p.length,none⟩ c) (by simpa using h) h1;simp only [List.length_append,List.length_cons,List.length_nil,Nat.zero_add] at h2 k2;rw [World.setCells];refine ⟨by simpa using h2,((aj.refl [g] w).setCell (by simp) c).trans k2 (fun x hx=>.inl hx)⟩
def iP (cs:List A) (o:Nat) (new:List A):List A:=cs.take o ++ new ++ cs.drop (o + new.length)
theorem G4 {T n:Nat} (hn:iO P T=some n) (w:World) (b o:Nat) (x:Value) (hx:x.cells.size=n) (ht:w.there b o n) (h1:∀ v∈x.cells.toList,v.oneCell'=true):(storeVar T ⟨b,o,none⟩ x).run P w=.ok () (w.setCells b o x.cells.toList):=by
 have:=run_storeCells_cells (P:=P) b o x.cells.toList 0 w (fun j hj=>by simpa using (ht j (by simpa [hx] using hj)).1) (fun j hj=>by simpa using (ht j (by simpa [hx] using hj)).2) h1;simp only [Nat.add_zero] at this;simp [storeVar,Sem.run_bind,iO.run hn,hx,this]
theorem Ld.C9 (i:Nat) {x y:Operand} {b o n:Nat} {B:TypeId} {cs es:List A} {d:D} [it:eZ P X n] (hx:aN f x=some (.c (.v (.pointer (some ⟨b,o,none⟩))))) (hi:L[i]?=some (.box b B cs)) (hy:aN f y=some d) (hd:gD d=some es) (hn:es.length=n) (hl:Nat.ble (o + n) cs.length=true) :
  Ld P c ⟨none,.store X x y,T,ps,af,gd⟩ f L [b] (fun _:Unit=>f) (fun _=>L.set i (.box b B (iP cs o es))):=⟨fun a w s K Q hK=>by
 have uZ:o + n≤cs.length:=Nat.le_of_ble_eq_true hl;have rx:=s.val hx;have ry:=gD.rep hd (s.ev hy);obtain ⟨us,h1,h2⟩:=s.res _ (List.mem_of_getElem? hi);have hlen:=h2.len;have jR:(a.eval y).cells.size=n:=by have:=ry.len;simp at this;omega
 have hb:cI w b (us.take o ++ (us.drop o).take n ++ us.drop (o + n)) B:=by
  have e:us.take o ++ (us.drop o).take n ++ us.drop (o + n)=us:=by
   rw [← List.drop_drop,List.append_assoc,List.take_append_drop,List.take_append_drop]
  rw [e];exact h1
 have hp:=cI.dS (a.eval y).cells.toList (us.take o) ((us.drop o).take n) (us.drop (o + n)) w (by simp;omega) hb;have ho:(us.take o).length=o:=by simp;omega
 rw [ho] at hp;have fI:=G4 it.h w b o (a.eval y) jR (fun j hj=>⟨by rw [h1.cell];simp;omega,h1.free _⟩) ry.one;have fW:(execOp a.eval ⟨none,.store X x y,T,ps,af,gd⟩).run P w=.ok .skip (w.setCells b o (a.eval y).cells.toList):=by
  simp [execOp,Sem.run_bind,Instr.storeAt,rx,Instr.sureAddr,fI]
 unfold Oper.wp;rw [fW];refine hK () undef _ hp.2 (s.set hi rfl hp.2 ⟨_,hp.1,?_⟩) (fun y hy=>.inl ((xe (r':=.box b B (iP cs o es)) hi rfl y).1 hy));have m:Mon (bh c L) (bh c L) w (w.setCells b o (a.eval y).cells.toList):=Mon.kT hp.2 fun g hg fX=>⟨fX,fun hm=>fX.2 (c9.2 ⟨_,List.mem_of_getElem? hi,by simpa [ai.bM] using hm⟩)⟩
 unfold iP;rw [hn];exact RC.app (RC.app (RC.cK m _ _ (h2.take o)) (RC.cK m _ _ ry)) (RC.cK m _ _ (h2.drop (o + n)))⟩
theorem G5 {cs es:List A} (h:es.length=cs.length):iP cs 0 es=es:=by simp [iP,h]
theorem G6 {cs:List A} {o:Nat} {a:A} (h:o < cs.length):iP cs o [a]=cs.set o a:=by
 unfold iP;apply List.ext_getElem?;intro j;simp only [List.length_cons,List.length_nil,Nat.zero_add];rcases Nat.lt_trichotomy j o with hj | hj | hj
 ·rw [List.append_assoc,List.getElem?_append_left (by simp;omega),List.getElem?_take,if_pos hj,List.getElem?_set_ne (by omega)]
 ·subst hj;rw [List.append_assoc,List.getElem?_append_right (by simp;omega),List.getElem?_set_self h];have:j - (List.take j cs).length=0:=by simp;omega
  rw [this];rfl
 ·rw [List.getElem?_append_right (by simp;omega),List.getElem?_set_ne (by omega),List.getElem?_drop]
  congr 1;simp;omega
end
end Fl
open Go.RowKit
namespace Fl
theorem OB (cs:List A) (o:Nat) (a:A) (es:List A) (h:o < cs.length):iP cs o (a :: es)=iP (cs.set o a) (o + 1) es:=by
 unfold iP;rw [List.take_add_one,List.take_set,List.getElem?_set_self h];simp only [List.length_cons,Option.toList_some];rw [List.set_eq_of_length_le (by simp;omega),List.drop_set,if_pos (by omega)];simp only [List.append_assoc,List.singleton_append,List.cons_append,List.nil_append];rw [show o + (es.length + 1)=o + 1 + es.length by omega]
theorem OD (cs:List A) (o:Nat):iP cs o []=cs:=by simp [iP]
theorem RX.put {ok:Nat→Prop} {w:World} {sz:Nat} {k:Nat}:∀ (es:List A) (us:List Value) {l:List (List A)} {xs:List Value} {cs:List A} (o:Nat),RX ok w sz l xs→l[k]?=some cs→cs.length=sz→RC ok w es us→o + es.length≤sz→RX ok w sz (l.set k (iP cs o es)) (setFrom xs (k * sz + o) us)
 | [],us,l,xs,cs,o,h,e,hc,hr,ho=>by
  unfold RC at hr;subst hr;rw [OD,setFrom,List.OE e];exact h
 | a :: es,us,l,xs,cs,o,h,e,hc,hr,ho=>by
  unfold RC at hr;obtain ⟨x,ys,rfl,h1,h2⟩:=hr;simp only [List.length_cons] at ho;have cA:=(List.getElem?_eq_some_iff.1 e).1;have h3:=RX.set k o h e (by omega) h1;have:=RX.put es ys (o + 1) h3 (List.getElem?_set_self cA) (by simpa using hc) h2 (by omega);rw [List.set_set] at this;rw [OB cs o a es (by omega),setFrom];exact this
where
 List.OE {α:Type} {l:List α} {k:Nat} {a:α} (e:l[k]?=some a):l.set k a=l:=by
  apply List.ext_getElem?;intro j;rw [List.getElem?_set]
  split
  ·rename_i h;subst h
   split
   ·exact e.symm
   ·rename_i hn;rw [List.getElem?_eq_none (by omega)] at e;cases e
  ·rfl
theorem RX.Da {ok:Nat→Prop} {w:World} {sz:Nat} {l:List (List A)} {xs:List Value} {k:Nat} {cs:List A} (h:RX ok w sz l xs) (e:l[k]?=some cs):cs.length=sz:=by
 obtain ⟨vs,h1,_,h3⟩:=h.get k e;rw [← h3.len,h1]
section
variable {P:Program} {c:Cx} {k:List Item} {f:Fm} {L:List ai} {ops:Array Oper} {l:List Oper} {o:Oper} {T X:TypeId} {ps:String} {af:Array Edge} {gd:Option (Nat × Bool)} {t:Nat}
theorem Ld.Db (i:Nat) {x y:Operand} {v:Value} {sz q o n:Nat} {e:TypeId} {ll:List (List A)} {cs es:List A} {d:D} [it:eZ P X n] (hx:aN f x=some (.ow v sz q o)) (hi:L[i]?=some (.row v e sz ll)) (hq:ll[q]?=some cs) (hy:aN f y=some d) (hd:gD d=some es) (hn:es.length=n) (hl:Nat.ble (o + n) sz=true) :
  Ld P c ⟨none,.store X x y,T,ps,af,gd⟩ f L (cW v) (fun _:Unit=>f) (fun _=>L.set i (.row v e sz (ll.set q (iP cs o es)))):=⟨fun a w s K Q hK=>by
 have uZ:o + n≤sz:=Nat.le_of_ble_eq_true hl;have rx:=s.ev hx;have ry:=gD.rep hd (s.ev hy);unfold RD at rx;obtain ⟨g,off,mm,cap,rfl,rx⟩:=rx;obtain ⟨xs,h1,h2⟩:=s.res _ (List.mem_of_getElem? hi);have hlen:=RX.len h2;have xg:=(List.getElem?_eq_some_iff.1 hq).1;have OF:=RX.Da h2 hq;have jR:(a.eval y).cells.size=n:=by have:=ry.len;simp at this;omega
 have Ac:(q + 1) * sz≤ll.length * sz:=Nat.mul_le_mul_right _ xg;rw [Nat.add_mul] at Ac;obtain ⟨r1,r2⟩:=Row.dS (a.eval y).cells.toList w xs (q * sz + o) h1 (by simp;omega);obtain ⟨g',zT,e1,e2,hg,hc,hf⟩:=h1.cells (by omega);obtain ⟨rfl,rfl⟩:=by simpa using e1
 rw [← Nat.add_assoc] at r1 r2;have fI:=G4 it.h w g (off + q * sz + o) (a.eval y) jR (fun j hj=>⟨by
  rw [show off + q * sz + o + j=off + (q * sz + o + j) by omega,hc _ (by omega)];simp;omega,by
  rw [show off + q * sz + o + j=off + (q * sz + o + j) by omega];exact hf _⟩) ry.one
 have fW:(execOp a.eval ⟨none,.store X x y,T,ps,af,gd⟩).run P w=.ok .skip (w.setCells g (off + q * sz + o) (a.eval y).cells.toList):=by
  simp [execOp,Sem.run_bind,Instr.storeAt,rx,Instr.sureAddr,fI]
 unfold Oper.wp;rw [fW];have m:Mon (bh c L) (bh c L) w (w.setCells g (off + q * sz + o) (a.eval y).cells.toList):=Mon.kT r2 fun g' hg fX=>⟨fX,fun hm=>fX.2 (c9.2 ⟨_,List.mem_of_getElem? hi,by simpa [ai.bM] using hm⟩)⟩
 refine hK () undef _ r2 (s.set hi rfl r2 ⟨_,by rw [List.length_set];exact r1,?_⟩) (fun y hy=>.inl ((xe (r':=.row (.slice (some ⟨g,off,none⟩) mm cap) e sz (ll.set q (iP cs o es))) hi rfl y).1 hy));exact RX.put es _ o (RX.cK m _ _ h2) hq OF (RC.cK m _ _ ry) (by omega)⟩
theorem Ld.gL {e sz:Nat} [i:eY P X e sz] (ht:t < c.N):Ld P c ⟨some t,.buildSlice X 0 #[],T,ps,af,gd⟩ f L [] (fun b:Nat=>(t,.c (.v (.slice (some ⟨b,0,none⟩) 0 0))) :: f) (fun b=>.row (.slice (some ⟨b,0,none⟩) 0 0) e sz [] :: L):=⟨fun a w s K Q hK=>by
 have hk:aj [] w (w.alloc (.cells #[] e)):=(aj.refl [] w).alloc _;have fI:(execOp a.eval ⟨some t,.buildSlice X 0 #[],T,ps,af,gd⟩).run P w=.ok (.value (.slice (some ⟨w.heap.size,0,none⟩) 0 0)) (w.alloc (.cells #[] e)):=by
  simp [execOp,Instr.buildSlice,Sem.run_bind,run_underlying (kU.jW i.h),iO.run i.s,Instr.fill,newRow,Array.range_zero']
 unfold Oper.wp;rw [fI];refine hK w.heap.size _ _ hk (s.new ht hk (by simp [ai.bM,cW]) ⟨[],Row.lit w [] e sz 0 (by simp) (by simp [maxLen]),rfl⟩ (by unfold RD RA;exact ⟨rfl,rfl⟩)) (tJ (by simp [ai.bM,cW]))⟩
theorem Ld.ff {e sz:Nat} {x:Operand} {d:D} {cs:List A} {zs:List Value} [i:eY P X e sz] [z:aQ P e zs] (ht:t < c.N) (h:aN f x=some d) (hc:gD d=some cs) (hn:cs.length=sz) (h0:Nat.ble 1 sz=true) (hs:Nat.ble sz 1000=true):Ld P c ⟨some t,.buildSlice X 1 #[(0,x)],T,ps,af,gd⟩ f L [] (fun b:Nat=>(t,.c (.v (.slice (some ⟨b,0,none⟩) 1 1))) :: f) (fun b=>.row (.slice (some ⟨b,0,none⟩) 1 1) e sz [cs] :: L):=⟨fun a w s K Q hK=>by
 have OG:1≤sz:=Nat.le_of_ble_eq_true h0;have G7:sz≤1000:=Nat.le_of_ble_eq_true hs;have ry:=gD.rep hc (s.ev h);have jR:(a.eval x).cells.size=sz:=by have:=ry.len;simp at this;omega
 obtain ⟨zv,Ad,xj⟩:=pH.run z.h;have wR:zv.cells.size=sz:=by
  have h1:=z.s.symm.trans i.s;simp at h1;rw [← Ad] at h1;simpa using h1
 have hk:aj [] w (w.alloc (.cells (a.eval x).cells e)):=(aj.refl [] w).alloc _;have Dc:Instr.fill (fun j=>some (j * sz,sz)) ((Array.range sz).map (zv.cells[· % zv.cells.size]!)) [(0,a.eval x)]=some (a.eval x).cells:=by
  have e1:=OH (a.eval x).cells ((Array.range sz).map (zv.cells[· % zv.cells.size]!)) (by simp [jR]);simp only [Nat.zero_add] at e1;simpa [Instr.fill,jR] using e1
 have fI:(execOp a.eval ⟨some t,.buildSlice X 1 #[(0,x)],T,ps,af,gd⟩).run P w=.ok (.value (.slice (some ⟨w.heap.size,0,none⟩) 1 1)) (w.alloc (.cells (a.eval x).cells e)):=by
  have h1:¬ sz > 2 ^ 24:=by omega
  have h2:¬ sz=0:=by omega
  simp only [execOp,Instr.buildSlice,Sem.run_bind,run_underlying (kU.jW i.h),iO.run i.s,Result.andThen_ok,Nat.one_mul,h1,h2,↓reduceIte,xj,Sem.run_pure,List.map_toArray,List.map_cons,List.map_nil,Dc,newRow,run_newObj_alloc]
 unfold Oper.wp;rw [fI];have hf:∀ y∈(ai.row (.slice (some ⟨w.heap.size,0,none⟩) 1 1) e sz [cs]).bM,w.heap.size≤y:=by simp [ai.bM,cW]
 refine hK w.heap.size _ _ hk (s.new ht hk hf ⟨(a.eval x).cells.toList,?_,?_⟩ (by unfold RD RA;exact ⟨rfl,rfl⟩)) (tJ hf)
 ·have:=Row.lit w (a.eval x).cells.toList e sz 1 (by simp [jR]) (by simp [maxLen]);simpa [cW] using this
 ·refine ⟨(a.eval x).cells.toList,[],by simp,by simpa using jR,?_,rfl⟩;exact RC.cK (Mon.kT hk fun g hg ho=>⟨Ab hf g hg ho,by simp⟩) cs _ ry⟩
where
 OH (u z:Array Value) (h:z.size=u.size):u.zipIdx.foldl (fun cs x=>cs.setIfInBounds (0 + x.2) x.1) z=u:=by
  have key:∀ (l:List Value) (k:Nat) (z:Array Value),k + l.length≤z.size→(l.zipIdx k).foldl (fun cs x=>cs.setIfInBounds (0 + x.2) x.1) z=(z.toList.take k ++ l ++ z.toList.drop (k + l.length)).toArray:=by
   intro l
   induction l with
   | nil=>intro k z hz;simp
   | cons x l ih =>
    intro k z hz;simp only [List.length_cons] at hz;rw [List.zipIdx_cons,List.foldl_cons,ih (k + 1) _ (by simp;omega)];simp only [Nat.zero_add];apply congrArg;simp only [Array.toList_setIfInBounds,List.length_cons];rw [List.take_add_one,List.take_set,List.getElem?_set_self (by simp;omega)];rw [List.set_eq_of_length_le (by simp;omega),List.drop_set,if_pos (by omega)];simp only [Option.toList_some,List.append_assoc,List.singleton_append,List.cons_append,List.nil_append];rw [show k + (l.length + 1)=k + 1 + l.length by omega]
  rw [← Array.foldl_toList,Array.toList_zipIdx,key u.toList 0 z (by simp [h])];have:List.drop u.size z.toList=[]:=List.drop_eq_nil_of_le (by simp [h]);simp [this]
end
end Fl
open Go.RowKit
namespace Fl
theorem jY (r:ai) (L:List ai) (x:Nat):x∈aO (r :: L)↔x∈r.bM∨x∈aO L:=by simp [aO]
theorem RA.view {ok:Nat→Prop} {w:World} {sz:Nat} {l:List (List A)} {x:Value} (h:RA ok w (.r sz l) x):∃ ys S,View w x sz l.length ys S∧RX ok w sz l ys∧∀ g∈S,ok g:=by
 unfold RA at h;obtain ⟨ao,cap,rfl,h1,h2,h3⟩:=h;rcases h3 with rfl | ⟨g,off,rfl,m9,hg,hl⟩
 ·exact ⟨[],[],⟨by simp,ao,cap,rfl,by simpa using h1,h2,.inl ⟨rfl,rfl⟩⟩,rfl,by simp⟩
 ·have key:∀ (l:List (List A)) (off:Nat),RL ok w l g off sz→∃ ys:List Value,ys.length=l.length * sz∧w.rangeAt g off ys∧RX ok w sz l ys:=by
   intro l
   induction l with
   | nil=>intro off _;exact ⟨[],by simp,fun j v hj=>by simp at hj,rfl⟩
   | cons cs l ih =>
    intro off h;unfold RL at h;obtain ⟨⟨vs,a1,a2,a3⟩,h4⟩:=h;obtain ⟨ys,b1,b2,b3⟩:=ih _ h4;refine ⟨vs ++ ys,by simp [a1,b1,Nat.add_mul,Nat.add_comm],fun j v hj=>?_,vs,ys,rfl,a1,a3,b3⟩
    by_cases cA:j < vs.length
    ·rw [List.getElem?_append_left cA] at hj;exact a2 j v hj
    ·rw [List.getElem?_append_right (by omega)] at hj;have:=b2 _ v hj;rw [show off + sz + (j - vs.length)=off + j by omega] at this;exact this
  obtain ⟨ys,b1,b2,b3⟩:=key l off hl;exact ⟨ys,[g],⟨b1,_,cap,rfl,h1,h2,.inr ⟨g,off,rfl,rfl,hg,fun j hj=>by rw [List.getElem?_eq_getElem hj];exact b2 j _ (List.getElem?_eq_getElem hj)⟩⟩,b3,by simpa using m9⟩
theorem RA.Ae {ok:Nat→Prop} {w:World} {sz:Nat} {l:List (List A)} {x:Value} {ys:List Value} {S:List Nat} (h:View w x sz l.length ys S) (hr:RX ok w sz l ys) (hS:∀ g∈S,ok g):RA ok w (.r sz l) x:=by
 unfold RA;obtain ⟨hl,ao,cap,rfl,h1,h2,h3⟩:=h;refine ⟨ao,cap,rfl,h1,h2,?_⟩;rcases h3 with ⟨h3,_⟩ | ⟨g,off,rfl,rfl,hg,hc⟩
 ·exact .inl (List.length_eq_zero_iff.1 h3)
 ·refine .inr ⟨g,off,rfl,hS g (by simp),hg,?_⟩;have key:∀ (l:List (List A)) (ys:List Value) (off:Nat),w.rangeAt g off ys→RX ok w sz l ys→RL ok w l g off sz:=by
   intro l
   induction l with
   | nil=>intro ys off _ _;unfold RL;trivial
   | cons cs l ih =>
    intro ys off hc h;obtain ⟨vs,us,rfl,a1,a2,a3⟩:=h;unfold RL;refine ⟨⟨vs,a1,fun j v hj=>hc j v (by rw [List.getElem?_append_left (List.getElem?_eq_some_iff.1 hj).1];exact hj),a2⟩,ih us (off + sz) (fun j v hj=>?_) a3⟩;have:=hc (sz + j) v (by rw [List.getElem?_append_right (by omega),a1,Nat.add_sub_cancel_left];exact hj);rw [Nat.add_assoc];exact this
  exact key l ys off (fun j v hj=>by rw [hc j (List.getElem?_eq_some_iff.1 hj).1];exact hj) hr
theorem OI {w:World} {v:Value} {e:TypeId} {sz n:Nat} {xs:List Value} {S:List Nat} (h:Row w v e sz n xs S):cW v=S:=by
 obtain ⟨h0,ao,cap,rfl,h2,h3,h4⟩:=h;rcases h4 with ⟨rfl,_,_,rfl⟩ | ⟨g,off,cur,rfl,rfl,_⟩ <;> rfl
section
variable {P:Program} {c:Cx} {k:List Item} {f:Fm} {L:List ai} {ops:Array Oper} {l:List Oper} {o:Oper} {T X:TypeId} {ps:String} {af:Array Edge} {gd:Option (Nat × Bool)} {t:Nat}
inductive xk (L:List ai) (e:TypeId) (sz:Nat):Value→List (List A)→List ai→Prop
 | own {v m L'}:L=.row v e sz m :: L'→xk L e sz v m L'
 | nil:xk L e sz (.slice none 0 0) [] L
inductive ng (L:List ai) (sz:Nat):D→List (List A)→Prop
 | read {m}:ng L sz (.c (.r sz m)) m
 | own (i:Nat) {v e m}:L[i]?=some (.row v e sz m)→ng L sz (.c (.v v)) m
 | nil:ng L sz (.c (.v (.slice none 0 0))) []
theorem Ld.OJ {e sz bytes:Nat} {z:Value} [E:gB P X e sz bytes z] {x y:Operand} {v:Value} {l1 l2:List (List A)} {L':List ai} {d2:D} (h1:aN f x=some (.c (.v v))) (hd:xk L e sz v l1 L') (h2:aN f y=some d2) (hs:ng L' sz d2 l2) (hb:(l1.length + l2.length) * bytes≤140737488355328)
  {a:Act} {w:World} (s:St c f L a w):∃ v' w',(execOp a.eval ⟨some t,.call ⟨.builtin .append,#[x,y],#[X,X]⟩,T,ps,af,gd⟩).run P w=.ok (.value v') w'∧aj (cW v) w w'∧Mon (bh c L) (bh c (.row v' e sz (l1 ++ l2) :: L')) w w'∧(ai.row v' e sz (l1 ++ l2)).holds (bh c (.row v' e sz (l1 ++ l2) :: L')) w'∧(∀ g∈cW v',g∈cW v∨w.heap.size≤g)∧(∀ q∈L',q∈L∧∀ g∈q.bM,g∉cW v)∧fA L'∧(∀ g∈cW v,g∈aO L):=by
 have rx:=s.val h1;have ry:=s.ev h2;have hD:∃ xs,Row w v e sz l1.length xs (cW v)∧RX (bh c L) w sz l1 xs∧(∀ q∈L',q∈L∧∀ g∈q.bM,g∉cW v)∧fA L'∧(∀ g∈cW v,g∈aO L):=by
  cases hd with
  | own e1 =>
   subst e1;obtain ⟨xs,g1,g2⟩:=s.res _ (List.mem_cons_self ..);have ap:=List.pairwise_cons.1 s.ap;exact ⟨xs,g1,g2,fun q hq=>⟨List.mem_cons_of_mem _ hq,fun g hg fX=>ap.1 q hq g fX hg⟩,ap.2,fun g hg=>c9.2 ⟨_,List.mem_cons_self ..,hg⟩⟩
  | nil=>exact ⟨[],Row.nil w e sz,rfl,fun q hq=>⟨hq,fun g _ hg=>by simp [cW] at hg⟩,s.ap,fun g hg=>by simp [cW] at hg⟩
 obtain ⟨xs,r1,r2,r3,r4,r5⟩:=hD;have hS:∃ ys S,View w (a.eval y) sz l2.length ys S∧RX (bh c L) w sz l2 ys:=by
  cases hs with
  | read=>unfold RD at ry;obtain ⟨ys,S,g1,g2,_⟩:=ry.view;exact ⟨ys,S,g1,g2⟩
  | own i hi =>
   obtain ⟨ys,g1,g2⟩:=s.res _ (r3 _ (List.mem_of_getElem? hi)).1;unfold RD RA at ry;rw [ry.1];exact ⟨ys,_,g1.view,g2⟩
  | nil =>
   unfold RD RA at ry;rw [ry.1];exact ⟨[],[],View.nil w sz,rfl⟩
 obtain ⟨ys,S,s1,s2⟩:=hS;obtain ⟨ao,cap,w',S',fI,g1,g2,g3,_⟩:=Cu E.h T r1 s1 s2.one hb;have Dd:=OI g1;have hm:Mon (bh c L) (bh c (.row (.slice ao (l1.length + l2.length) cap) e sz (l1 ++ l2) :: L')) w w':=by
  refine Mon.kT g2 fun g hg ho=>⟨⟨ho.1,fun jm=>?_⟩,fun jm=>ho.2 (r5 g jm)⟩
  rcases (jY _ _ _).1 jm with jm | jm
  ·rw [ai.bM,Dd] at jm;rcases g3 g jm with h | h
   ·exact ho.2 (r5 g h)
   ·omega
  ·obtain ⟨q,hq,OK⟩:=c9.1 jm;exact ho.2 (c9.2 ⟨q,(r3 q hq).1,OK⟩)
 refine ⟨.slice ao (l1.length + l2.length) cap,w',?_,g2,hm,⟨xs ++ ys,by rw [Dd,List.length_append];exact g1,RX.app (RX.cK hm _ _ r2) (RX.cK hm _ _ s2)⟩,fun g hg=>by rw [Dd] at hg;exact g3 g hg,r3,r4,r5⟩;simp [execOp,resolve,invoke,builtin,rx,Sem.run_bind,fI]
theorem St.OL {e sz:Nat} {v v':Value} {l1 l2:List (List A)} {L':List ai} {a:Act} {w w':World} (s:St c f L a w) (ht:t < c.N) (k:aj (cW v) w w') (m:Mon (bh c L) (bh c (.row v' e sz (l1 ++ l2) :: L')) w w') (hh:(ai.row v' e sz (l1 ++ l2)).holds (bh c (.row v' e sz (l1 ++ l2) :: L')) w') (hv:∀ g∈cW v',g∈cW v∨w.heap.size≤g) (h3:∀ q∈L',q∈L∧∀ g∈q.bM,g∉cW v) (h4:fA L') (h5:∀ g∈cW v,g∈aO L) (h1:v'.oneCell'=true) :
  St c ((t,.c (.v v')) :: f) (.row v' e sz (l1 ++ l2) :: L') (a.put (some t) v') w':=by
 refine s.put ht (by unfold RD RA;exact ⟨rfl,h1⟩) (s.kp.trans k (fun g hg=>s.fN g (h5 g hg))) ?_ ?_ ?_ m
 ·intro q hq;rcases List.mem_cons.1 hq with rfl | hq
  ·exact hh
  ·exact (s.res q (h3 q hq).1).cK k m (fun g hg fX=>(h3 q hq).2 g hg fX)
 ·intro x hx;rcases (jY _ _ _).1 hx with hx | hx
  ·rcases hv x hx with h | h
   ·exact s.fN x (h5 x h)
   ·exact .inr (Nat.le_trans s.kp.size h)
  ·obtain ⟨q,hq,mw⟩:=c9.1 hx;exact s.fN x (c9.2 ⟨q,(h3 q hq).1,mw⟩)
 ·refine List.pairwise_cons.2 ⟨fun q hq x hx fC=>?_,h4⟩;rcases hv x hx with h | h
  ·exact (h3 q hq).2 x fC h
  ·have:=s.lt x (c9.2 ⟨q,(h3 q hq).1,fC⟩);omega
theorem Ld.De {e sz bytes:Nat} {z:Value} [E:gB P X e sz bytes z] {x y:Operand} {v:Value} {l1 l2:List (List A)} {L':List ai} {d2:D} (ht:t < c.N) (h1:aN f x=some (.c (.v v))) (hd:xk L e sz v l1 L') (h2:aN f y=some d2) (hs:ng L' sz d2 l2) (hb:(l1.length + l2.length) * bytes≤140737488355328) :
  Ld P c ⟨some t,.call ⟨.builtin .append,#[x,y],#[X,X]⟩,T,ps,af,gd⟩ f L (cW v) (fun v':Value=>(t,.c (.v v')) :: f) (fun v'=>.row v' e sz (l1 ++ l2) :: L'):=⟨fun a w s K Q hK=>by
 obtain ⟨v',w',fI,g1,g2,g3,g4,g5,g6,g7⟩:=Ld.OJ (P:=P) (X:=X) (t:=t) (T:=T) (ps:=ps) (af:=af) (gd:=gd) h1 hd h2 hs hb s;unfold Oper.wp;rw [fI];have OM:v'.oneCell'=true:=by
  obtain ⟨xs,r,_⟩:=g3;obtain ⟨ao,cap,rfl⟩:=r.shape;rfl
 exact hK v' _ _ g1 (s.OL ht g1 g2 g3 g4 g5 g6 g7 OM) fun y hy=>by
  rcases (jY _ _ _).1 hy with hy | hy
  ·rcases g4 y hy with h | h
   ·exact .inl (g7 y h)
   ·exact .inr h
  ·obtain ⟨q,hq,ON⟩:=c9.1 hy;exact .inl (c9.2 ⟨q,(g5 q hq).1,ON⟩)⟩
theorem St.freeze {e sz:Nat} {v:Value} {l:List (List A)} {a:Act} {w:World} (s:St c ((t,.c (.v v)) :: f) (.row v e sz l :: L) a w):St c ((t,.c (.r sz l)) :: f) L a w:=by
 have m:Mon (bh c (.row v e sz l :: L)) (bh c L) w w:=⟨Nat.le_refl _,fun g _ ho=>⟨⟨ho.1,fun hx=>ho.2 ((jY _ _ _).2 (.inr hx))⟩,rfl⟩⟩
 have ap:=List.pairwise_cons.1 s.ap;refine ⟨s.kp,s.size,s.jT,fun q hq=>(s.res q (List.mem_cons_of_mem _ hq)).cK (aj.refl [] w) m (by simp),fun x hx=>s.fN x ((jY _ _ _).2 (.inr hx)),ap.2,fun u e' hu=>?_⟩
 by_cases e1:t=u
 ·subst e1;rw [rW] at hu;cases hu;have hv:=s.fr t _ (rW _ _ _);obtain ⟨xs,r1,r2⟩:=s.res _ (List.mem_cons_self ..);unfold RD RA at hv;rw [hv.1];unfold RD;refine RA.Ae r1.view (RX.cK m _ _ r2) fun g hg=>⟨.inr (s.fN g ((jY _ _ _).2 (.inl hg))),fun hx=>?_⟩
  obtain ⟨q,hq,mw⟩:=c9.1 hx;exact ap.1 q hq g hg mw
 ·rw [uV e1] at hu;exact RD.cK m e' _ (s.fr u e' (by rw [uV e1];exact hu))
theorem Ld.G8 {e sz bytes:Nat} {z:Value} [E:gB P X e sz bytes z] {x y:Operand} {v:Value} {l1 l2:List (List A)} {L':List ai} {d2:D} (ht:t < c.N) (h1:aN f x=some (.c (.v v))) (hd:xk L e sz v l1 L') (h2:aN f y=some d2) (hs:ng L' sz d2 l2) (hb:(l1.length + l2.length) * bytes≤140737488355328) :
  Ld P c ⟨some t,.call ⟨.builtin .append,#[x,y],#[X,X]⟩,T,ps,af,gd⟩ f L (cW v) (fun _:Unit=>(t,.c (.r sz (l1 ++ l2))) :: f) (fun _=>L'):=⟨fun a w s K Q hK =>
 (Ld.De ht h1 hd h2 hs hb).go a w s K Q fun v' u w' k' s' hf=>hK () u w' k' s'.freeze fun y hy=>hf y ((jY _ _ _).2 (.inr hy))⟩
end
end Fl
open Go.RowKit
namespace Fl
inductive kX:A→A→Prop
 | refl {a}:kX a a
 | nil {sz}:kX (.v (.slice none 0 0)) (.r sz [])
inductive iD:List A→List A→Prop
 | nil:iD [] []
 | cons {a b xs ys}:kX a b→iD xs ys→iD (a :: xs) (b :: ys)
 | refl {xs}:iD xs xs
mutual
inductive cQ:D→D→Prop
 | refl {d}:cQ d d
 | c {a b}:kX a b→cQ (.c a) (.c b)
 | agg {a b}:iD a b→cQ (.agg a) (.agg b)
 | any {d}:cQ d .any
 | aV {a b}:aL a b→cQ (.aV a) (.aV b)
inductive aL:List D→List D→Prop
 | nil:aL [] []
 | cons {a b xs ys}:cQ a b→aL xs ys→aL (a :: xs) (b :: ys)
end
theorem cQ.of_eq {a b:D} (h:a=b):cQ a b:=h ▸ .refl
section
variable {ok:Nat→Prop} {w:World}
theorem kX.rep {a b:A} (h:kX a b) {x:Value} (r:RA ok w a x):RA ok w b x:=by
 cases h with
 | refl=>exact r
 | nil=>unfold RA at r ⊢;exact ⟨none,0,r.1,by simp,by simp [maxLen],.inl rfl⟩
theorem iD.rep {a b:List A} (h:iD a b):∀ {x:List Value},RC ok w a x→RC ok w b x:=by
 induction h with
 | nil=>exact id
 | refl=>exact id
 | cons h1 h2 ih=>intro x r;unfold RC at r;obtain ⟨y,ys,rfl,r1,r2⟩:=r;exact RC.cons (h1.rep r1) (ih r2)
mutual
theorem cQ.rep {a b:D}:cQ a b→∀ {x:Value},RD ok w a x→RD ok w b x
 | .refl,x,r=>r
 | .c h,x,r=>by unfold RD at r ⊢;exact h.rep r
 | .agg h,x,r=>by unfold RD at r ⊢;obtain ⟨vs,h1,h2⟩:=r;exact ⟨vs,h1,h.rep h2⟩
 | .any,x,r=>by unfold RD;trivial
 | .aV h,x,r=>by unfold RD at r ⊢;obtain ⟨vs,h1,h2⟩:=r;exact ⟨vs,h1,aL.rep h h2⟩
theorem aL.rep {a b:List D}:aL a b→∀ {x:List Value},bL ok w a x→bL ok w b x
 | .nil,x,r=>r
 | .cons h1 h2,x,r=>by unfold bL at r;obtain ⟨y,ys,rfl,r1,r2⟩:=r;exact bL.cons (cQ.rep h1 r1) (aL.rep h2 r2)
end
end
def lO (ok:Nat→Prop) (e:World) (L pL:List ai) (g:Nat):Prop:=(ok g∨g∈aO L∨e.heap.size≤g)∧g∉aO pL
def OO (ok:Nat→Prop) (e:World) (L:List ai) (pd:D) (pL:List ai) (en:Ending) (w':World):Prop :=
 ∃ x,en=.returned x∧aj (aO L) e w'∧(∀ y∈aO pL,y∈aO L∨e.heap.size≤y)∧fA pL∧(∀ r∈pL,r.holds (lO ok e L pL) w')∧RD (lO ok e L pL) w' pd x
def Df {ι:Type} (ok:Nat→Prop) (e:World) (L:List ai) (post:ι→D × List ai) (en:Ending) (w':World):Prop:=∃ i,OO ok e L (post i).1 (post i).2 en w'
structure aq (P:Program) (F:FuncId) (ds:List D) (L:List ai) {ι:Type} (post:ι→D × List ai):Prop where
 go:∀ (ok:Nat→Prop) (e:World) (xs:List Value),bL ok e ds xs→(∀ r∈L,r.holds ok e)→fA L→(∀ x∈aO L,¬ ok x)→Calls P F xs.toArray e (Df ok e L post)
abbrev Pure (P:Program) (F:FuncId) (ds:List D) (d:D):Prop:=aq P F ds [] (fun _:Unit=>(d,[]))
def cx (F:FuncId) {ι:Type} (ok:Nat→Prop) (e:World) (L:List ai) (post:ι→D × List ai) (N:Nat):Cx:=⟨F,Df ok e L post,aO L,ok,e,N⟩
def u6:Nat→List D→Fm
 | _,[]=>[]
 | k,d :: ds=>(k,d) :: u6 (k + 1) ds
theorem G9:∀ (ds:List D) (k t:Nat) (d:D),look (u6 k ds) t=some d→k≤t∧ds[t - k]?=some d
 | [],k,t,d,h=>by simp [u6,look] at h
 | x :: ds,k,t,d,h=>by
  simp only [u6,look] at h
  cases hb:Nat.beq k t with
  | true =>
   rw [hb] at h;have:=Nat.eq_of_beq_eq_true hb;subst this;simp at h;subst h;simp
  | false =>
   rw [hb] at h;obtain ⟨h1,h2⟩:=G9 ds (k + 1) t d h;exact ⟨by omega,by rw [show t - k=t - (k + 1) + 1 by omega];simpa using h2⟩
section
variable {P:Program} {F:FuncId} {ds:List D} {L:List ai} {ι:Type} {post:ι→D × List ai} {fn:Func} {body:Code} {N:Nat}
theorem aq.intro (hf:P.funcs[F]?=some fn) (hb:fn.body=some body) (hN:fn.ntmps=N) (hn:Nat.ble ds.length N=true)
  (h:∀ ok e,J P (cx F ok e L post N) [.code body] (u6 0 ds) L):aq P F ds L post:=⟨fun ok e xs hd hr ha ho cs=>by
 have hlen:=hd.len;have Zz:ds.length≤N:=Nat.le_of_ble_eq_true hn
 let b:Frame:={ (default:Frame) with fn:=F,kind:=.normal }
 have OP:Frame.enter P F xs.toArray .normal=b.at { tmps:=xs.toArray ++ Array.replicate (fn.ntmps - xs.toArray.size) undef,defers:=[] } [.code body]:=by
  simp [Frame.enter,Frame.at,hf,hb,b]
 have m:Mon ok (bh (cx F ok e L post N) L) e e:=⟨Nat.le_refl _,fun g _ hg=>⟨⟨.inl hg,fun hx=>ho g hx hg⟩,rfl⟩⟩
 have eE:St (cx F ok e L post N) (u6 0 ds) L { tmps:=xs.toArray ++ Array.replicate (fn.ntmps - xs.toArray.size) undef,defers:=[] } e:=by
  refine ⟨aj.refl _ _,by simp [cx];omega,rfl,fun r tK=>(hr r tK).cK (aj.refl [] e) m (by simp),fun x hx=>.inl hx,ha,fun t d ht=>?_⟩;obtain ⟨_,h2⟩:=G9 ds 0 t d ht;rw [Nat.sub_zero] at h2;obtain ⟨x,hx,qD⟩:=hd.get t h2;have cA:=(List.getElem?_eq_some_iff.1 hx).1;have:(xs.toArray ++ Array.replicate (fn.ntmps - xs.toArray.size) undef).getD t undef=x:=by
   rw [Array.getD_eq_getD_getElem?,Array.getElem?_append_left (by simpa using cA)];simp [hx]
  rw [this];exact RD.cK m d _ qD
 obtain ⟨en,w',fr,h1,h2,h3,h4⟩:=(h ok e).go _ e eE b cs rfl rfl;exact ⟨en,w',fr,h1,by rw [OP];exact h2,h3,h4⟩⟩
end
inductive u7 (P:Program) (f:Fm) (L:List ai):ResultVar→D→Prop
 | tmp {t d}:look f t=some d→u7 P f L (.tmp t) d
 | cell (i:Nat) {t b T B n cs} [jV P T n]:look f t=some (.c (.v (.pointer (some ⟨b,0,none⟩))))→L[i]?=some (.box b B cs)→cs.length=n→u7 P f L (.cell t T) (.agg cs)
 | OQ (i:Nat) {t b T B a} [gi P T]:look f t=some (.c (.v (.pointer (some ⟨b,0,none⟩))))→L[i]?=some (.box b B [a])→u7 P f L (.cell t T) (.c a)
inductive ij (P:Program) (f:Fm) (L:List ai):List ResultVar→List D→Prop
 | nil:ij P f L [] []
 | cons {r d rs ds}:u7 P f L r d→ij P f L rs ds→ij P f L (r :: rs) (d :: ds)
def qE:List D→D
 | [d]=>d
 | ds=>.aV ds
def xl (tmps:Array Value):ResultVar→Sem Value
 | .tmp t=>pure (tmps.getD t undef)
 | .cell a t=>do loadVar t (← asAddr (tmps.getD a undef))
theorem OS (fn:Func) (tmps:Array Value):results fn tmps=(do let vs ← fn.results.mapM (xl tmps);pure (if h:vs.size=1 then vs[0] else .tuple vs)):=rfl
section
variable {P:Program} {c:Cx} {f:Fm} {L:List ai}
theorem u7.run {r:ResultVar} {d:D} (h:u7 P f L r d) {a:Act} {w:World} (s:St c f L a w):∃ x,RD (bh c L) w d x∧(xl a.tmps r).run P w=.ok x w:=by
 cases h with
 | tmp h1=>exact ⟨_,s.fr _ _ h1,rfl⟩
 | @cell i t b T B n cs it h1 h2 h3 =>
  have hv:=s.fr _ _ h1;unfold RD RA at hv;obtain ⟨vs,g1,g2⟩:=s.res _ (List.mem_of_getElem? h2);refine ⟨.agg vs.toArray,by unfold RD;exact ⟨vs,rfl,g2⟩,?_⟩;have hlen:=g2.len;have wZ:(loadCells ⟨b,0,none⟩ vs.length).run P w=.ok vs.toArray w:=run_loadCells_list (P:=P) w ⟨b,0,none⟩ _ (fun j v hv=>by rw [Addr.add_mid];exact g1.range j v hv);rw [hlen,h3] at wZ;simp only [xl,hv.1,asAddr,Sem.run_bind,Sem.run_pure,Result.andThen_ok,loadVar,lJ.runT it.h,↓reduceIte,iO.run it.s,wZ]
 | @OQ i t b T B e it h1 h2 =>
  have hv:=s.fr _ _ h1;unfold RD RA at hv;obtain ⟨vs,g1,g2⟩:=s.res _ (List.mem_of_getElem? h2);obtain ⟨x,hx,hr⟩:=g2.get 0 rfl;refine ⟨x,by unfold RD;exact hr,?_⟩;have qv:w.cell? ⟨b,0,none⟩=some x:=by rw [g1.cell];exact hx
  have hl:(load ⟨b,0,none⟩).run P w=.ok x w:=by simp [load,Sem.run,qv]
  simp only [xl,hv.1,asAddr,Sem.run_bind,Sem.run_pure,Result.andThen_ok,loadVar,lJ.CZ it.h,Bool.false_eq_true,↓reduceIte,hl]
theorem ij.run {rs:List ResultVar} {ds:List D} (h:ij P f L rs ds) {a:Act} {w:World} (s:St c f L a w):∃ xs,bL (bh c L) w ds xs∧(rs.mapM (xl a.tmps)).run P w=.ok xs w:=by
 induction h with
 | nil=>exact ⟨[],bL.nil,rfl⟩
 | cons h1 h2 ih =>
  obtain ⟨x,a1,a2⟩:=h1.run s;obtain ⟨xs,b1,b2⟩:=ih;refine ⟨x :: xs,bL.cons a1 b1,?_⟩;rw [List.mapM_cons,Sem.run_bind,a2];simp [Sem.run_bind,b2]
end
section
variable {P:Program} {F:FuncId} {ok:Nat→Prop} {e:World} {L0 L L':List ai} {ι:Type} {post:ι→D × List ai} {fn:Func} {N:Nat} {f:Fm} {k:List Item}
theorem mapM_some {α:Type} {L L':List α}:∀ {idx:List Nat},idx.map (fun i=>L[i]?)=L'.map some→∀ q∈L',q∈L
 | [],h=>by cases L' with | nil=>simp | cons x l=>simp at h
 | i :: idx,h=>by
  cases L' with
  | nil=>simp
  | cons x l =>
   simp only [List.map_cons,List.cons.injEq] at h;intro q hq;rcases List.mem_cons.1 hq with rfl | hq
   ·exact List.mem_of_getElem? h.1
   ·exact mapM_some h.2 q hq
theorem He {L:List ai} (ha:fA L):∀ {idx:List Nat} {L':List ai},idx.Nodup→idx.map (fun i=>L[i]?)=L'.map some→fA L'
 | [],L',hn,h=>by cases L' with | nil=>exact List.Pairwise.nil | cons x l=>simp at h
 | i :: idx,L',hn,h=>by
  cases L' with
  | nil=>simp at h
  | cons x l =>
   simp only [List.map_cons,List.cons.injEq] at h;have kY:=List.nodup_cons.1 hn;refine List.pairwise_cons.2 ⟨fun q hq=>?_,He ha kY.2 h.2⟩;have:∃ j∈idx,L[j]?=some q:=by
    have hm:some q∈l.map some:=List.mem_map.2 ⟨q,hq,rfl⟩;rw [← h.2] at hm;exact List.mem_map.1 hm
   obtain ⟨j,hj,eW⟩:=this;exact fA.ne ha h.1 eW (fun e=>kY.1 (e ▸ hj))
theorem Hf (hf:P.funcs[F]?=some fn) {rs:List ResultVar} {ds:List D} (iQ:fn.results=rs.toArray) (h:ij P f L rs ds) {d:D} {i:ι} (hle:cQ (qE ds) d) (idx:List Nat) (dx:idx.Nodup) (hL:idx.map (fun i=>L[i]?)=L'.map some) (hp:post i=(d,L')) {a:Act} {w:World} (s:St (cx F ok e L0 post N) f L a w) :
  ∃ x,(results fn a.tmps).run P w=.ok x w∧Df ok e L0 post (.returned x) w:=by
 obtain ⟨xs,h1,h2⟩:=h.run s;have hr:(results fn a.tmps).run P w=.ok (if h:xs.toArray.size=1 then xs.toArray[0] else .tuple xs.toArray) w:=by
  rw [OS,iQ,List.mapM_toArray,Sem.run_bind,map_eq_pure_bind,Sem.run_bind,h2];rfl
 refine ⟨_,hr,i,?_⟩;rw [hp];have Hh:=mapM_some hL;have Hi:∀ x,x∈aO L'→x∈aO L:=fun x hx=>by
  obtain ⟨q,hq,hx⟩:=c9.1 hx;exact c9.2 ⟨q,Hh q hq,hx⟩
 have m:Mon (bh (cx F ok e L0 post N) L) (lO ok e L0 L') w w:=⟨Nat.le_refl _,fun g _ hg=>⟨⟨hg.1,fun hx=>hg.2 (Hi g hx)⟩,rfl⟩⟩
 refine ⟨_,rfl,s.kp,fun y hy=>s.fN y (Hi y hy),He s.ap dx hL,fun r hr=>(s.res r (Hh r hr)).cK (aj.refl [] w) m (by simp),RD.cK m _ _ (hle.rep ?_)⟩
 cases ds with
 | nil=>unfold bL at h1;subst h1;unfold qE RD;exact ⟨[],rfl,bL.nil⟩
 | cons d1 ds =>
  unfold bL at h1;obtain ⟨x,ys,rfl,h3,h4⟩:=h1
  cases ds with
  | nil=>unfold bL at h4;subst h4;exact h3
  | cons d2 ds =>
   unfold bL at h4;obtain ⟨y,zs,rfl,h5,h6⟩:=h4;unfold qE RD;exact ⟨x :: y :: zs,rfl,bL.cons h3 (bL.cons h5 h6)⟩
theorem J.ret (hf:P.funcs[F]?=some fn) {rs:List ResultVar} {ds:List D} (iQ:fn.results=rs.toArray) (h:ij P f L rs ds) {d:D} (i:ι) (hle:cQ (qE ds) d) (idx:List Nat) (dx:idx.Nodup) (hL:idx.map (fun i=>L[i]?)=L'.map some) (hp:post i=(d,L')):J P (cx F ok e L0 post N) (.code .ret :: k) f L:=⟨fun a w s=>by
 obtain ⟨x,h1,h2⟩:=Hf hf iQ h hle idx dx hL hp s;exact fun b cs hb hk=>⟨.returned x,w,_,h2,Steps.one step_ret,hb,rfl,s.jT,hk,fn,by simpa [Frame.at,hb,cx] using hf,h1⟩⟩
theorem J.fin (hf:P.funcs[F]?=some fn) {rs:List ResultVar} {ds:List D} (iQ:fn.results=rs.toArray) (h:ij P f L rs ds) {d:D} (i:ι) (hle:cQ (qE ds) d) (idx:List Nat) (dx:idx.Nodup) (hL:idx.map (fun i=>L[i]?)=L'.map some) (hp:post i=(d,L')):J P (cx F ok e L0 post N) [] f L:=⟨fun a w s=>by
 obtain ⟨x,h1,h2⟩:=Hf hf iQ h hle idx dx hL hp s;exact fun b cs hb hk=>⟨.returned x,w,_,h2,Steps.one step_end,hb,rfl,s.jT,hk,fn,by simpa [Frame.at,hb,cx] using hf,h1⟩⟩
end
end Fl
open Go.RowKit
namespace Fl
theorem oD (L M:List ai) (x:Nat):x∈aO (L ++ M)↔x∈aO L∨x∈aO M:=by simp [aO]
def iq (f:Fm):List Operand→Option (List D)
 | []=>some []
 | x :: xs=>match aN f x,iq f xs with
  | some d,some ds=>some (d :: ds)
  | _,_=>none
section
variable {P:Program} {c:Cx} {k:List Item} {f:Fm} {L:List ai} {ops:Array Oper} {l:List Oper} {o:Oper} {T X:TypeId} {ps:String} {af:Array Edge} {gd:Option (Nat × Bool)} {t:Nat}
theorem St.Hj {a:Act} {w:World} (s:St c f L a w):∀ {xs:List Operand} {ds:List D},iq f xs=some ds→bL (bh c L) w ds (xs.map a.eval)
 | [],ds,h=>by simp [iq] at h;subst h;exact bL.nil
 | x :: xs,ds,h=>by
  unfold iq at h
  cases h1:aN f x with
  | none=>rw [h1] at h;cases h
  | some d =>
   cases h2:iq f xs with
   | none=>rw [h1,h2] at h;cases h
   | some vb=>rw [h1,h2] at h;cases h;exact bL.cons (s.ev h1) (St.Hj s h2)
theorem OT {F:FuncId} (h:C8 P F=true) (args:Array Value) (w:World):(callFunc F args).run P w=.ok (.enter F args) w:=by
 unfold C8 at h
 cases hf:P.funcs[F]? with
 | none=>rw [hf] at h;cases h
 | some fn =>
  rw [hf] at h;simp at h;have h2:fn.body≠none:=by intro hb;simp [hb] at h
  simp [callFunc,Sem.run_bind,hf,h.1,h2]
theorem Ld.call {F:FuncId} {args:List Operand} {tys:Array TypeId} {cZ ds:List D} {Ll Lr:List ai} {ι:Type} {post:ι→D × List ai} [i:aG P F] (hC:aq P F ds Ll post) (ht:t < c.N) (h:iq f args=some cZ) (hle:aL cZ ds) (hL:L=Ll ++ Lr) :
  Ld P c ⟨some t,.call ⟨.value (.func F),args.toArray,tys⟩,T,ps,af,gd⟩ f L (aO Ll) (fun i=>(t,(post i).1) :: f) (fun i=>(post i).2 ++ Lr):=⟨fun a w s K Q hK=>by
 have OU:=hle.rep (s.Hj h);have fW:(execOp a.eval ⟨some t,.call ⟨.value (.func F),args.toArray,tys⟩,T,ps,af,gd⟩).run P w=.ok (.enter F (args.map a.eval).toArray) w:=by
  simp [execOp,resolve,Deferred.ofValue,invoke,Act.eval,Sem.run_bind,OT i.h]
 unfold Oper.wp;rw [fW];have oE:=List.pairwise_append.1 (show List.Pairwise _ (Ll ++ Lr) from hL ▸ s.ap);have OV:∀ r∈Ll,r∈L:=fun r hr=>hL ▸ List.mem_append_left Lr hr
 have OX:∀ r∈Lr,r∈L:=fun r hr=>hL ▸ List.mem_append_right Ll hr
 have kZ:∀ x,x∈aO Ll→x∈aO L:=fun x hx=>by rw [hL,oD];exact .inl hx
 have pI:∀ x,x∈aO Lr→x∈aO L:=fun x hx=>by rw [hL,oD];exact .inr hx
 have oF:∀ x,x∈aO Ll→x∉aO Lr:=fun x hx fC=>by
  obtain ⟨q,hq,h1⟩:=c9.1 hx;obtain ⟨r,hr,h2⟩:=c9.1 fC;exact oE.2.2 q hq r hr x h1 h2
 refine Calls.mono (hC.go (bh c L) w (args.map a.eval) OU (fun r hr=>s.res r (OV r hr)) oE.1 (fun x hx ho=>ho.2 (kZ x hx))) ?_
 rintro en w' ⟨i,x,rfl,kp,g1,g2,g3,g4⟩
 have m9:∀ g,g < w'.heap.size→lO (bh c L) w Ll (post i).2 g→bh c ((post i).2 ++ Lr) g:=fun g _ hg=>by
  obtain ⟨hg,hn⟩:=hg;rcases hg with hg | hg | hg
  ·exact ⟨hg.1,fun hx=>by rcases (oD _ _ _).1 hx with hx | hx;exact hn hx;exact hg.2 (pI g hx)⟩
  ·exact ⟨.inr (s.fN g (kZ g hg)),fun hx=>by rcases (oD _ _ _).1 hx with hx | hx;exact hn hx;exact oF g hg hx⟩
  ·exact ⟨.inr (.inr (Nat.le_trans s.kp.size hg)),fun hx=>by
    rcases (oD _ _ _).1 hx with hx | hx
    ·exact hn hx
    ·have:=s.lt g (pI g hx);omega⟩
 have m1:Mon (lO (bh c L) w Ll (post i).2) (bh c ((post i).2 ++ Lr)) w' w':=⟨Nat.le_refl _,fun g hg ho=>⟨m9 g hg ho,rfl⟩⟩
 have lf:∀ y,y∈aO (post i).2→y∈aO Ll∨w.heap.size≤y:=g1;have m2:Mon (bh c L) (bh c ((post i).2 ++ Lr)) w w':=Mon.kT kp fun g hg ho=>⟨⟨ho.1,fun hx=>by
  rcases (oD _ _ _).1 hx with hx | hx
  ·rcases lf g hx with h | h
   ·exact ho.2 (kZ g h)
   ·omega
  ·exact ho.2 (pI g hx)⟩,fun hx=>ho.2 (kZ g hx)⟩
 refine hK i _ _ kp (s.put ht (RD.cK m1 _ _ g4) (s.kp.trans kp (fun x hx=>s.fN x (kZ x hx))) ?_ ?_ ?_ m2) (fun y hy=>by
  rcases (oD _ _ _).1 hy with hy | hy
  ·rcases lf y hy with h | h
   ·exact .inl (kZ y h)
   ·exact .inr h
  ·exact .inl (pI y hy))
 ·intro q hq;rcases List.mem_append.1 hq with hq | hq
  ·exact (g3 q hq).cK (aj.refl [] w') m1 (by simp)
  ·exact (s.res q (OX q hq)).cK kp m2 (fun x hx fC=>oF x fC (c9.2 ⟨q,hq,hx⟩))
 ·intro x hx;rcases (oD _ _ _).1 hx with hx | hx
  ·rcases lf x hx with h | h
   ·exact s.fN x (kZ x h)
   ·exact .inr (Nat.le_trans s.kp.size h)
  ·exact s.fN x (pI x hx)
 ·refine List.pairwise_append.2 ⟨g2,oE.2.1,fun q hq r hr x hx fC=>?_⟩;have qF:x∈aO Lr:=c9.2 ⟨r,hr,fC⟩;rcases lf x (c9.2 ⟨q,hq,hx⟩) with h | h
  ·exact oF x h qF
  ·have:=s.lt x (pI x qF);omega⟩
theorem JO.alloc {zs:List Value} [i:aQ P X zs] (hw:dJ ops ⟨some t,.alloc X,T,ps,af,gd⟩ f=true) (ht:t < c.N) (h:∀ b,JO P c ops l k ((t,.c (.v (.pointer (some ⟨b,0,none⟩)))) :: f) (.box b X (vs zs) :: L)):JO P c ops (⟨some t,.alloc X,T,ps,af,gd⟩ :: l) k f L :=
 JO.ld (Ld.alloc ht) hw h
theorem JO.box {x:Operand} {d:D} {cs:List A} (hw:dJ ops ⟨some t,.box X x,T,ps,af,gd⟩ f=true) (ht:t < c.N) (hx:aN f x=some d) (hc:gD d=some cs) (h:∀ b,JO P c ops l k ((t,.c (.v (.pointer (some ⟨b,0,none⟩)))) :: f) (.box b X cs :: L)):JO P c ops (⟨some t,.box X x,T,ps,af,gd⟩ :: l) k f L :=
 JO.ld (Ld.box ht hx hc) hw h
theorem Ld.aP {x y:Operand} {b n B i:Nat} {cs es:List A} {d:D} {L':List ai} [it:eZ P X n] [bx:lM L b B cs i] [st:kW L i (.box b B es) L'] (hx:aN f x=some (.c (.v (.pointer (some ⟨b,0,none⟩))))) (hy:aN f y=some d) (hd:gD d=some es) (hn:es.length=n) (hl:cs.length=n) :
  Ld P c ⟨none,.store X x y,T,ps,af,gd⟩ f L [b] (fun _:Unit=>f) (fun _=>L'):=by
 have h:=Ld.C9 (P:=P) (c:=c) (T:=T) (X:=X) (ps:=ps) (af:=af) (gd:=gd) i hx bx.h hy hd hn (by rw [hl,Nat.zero_add];exact Nat.ble_self_eq_true _);rw [G5 (hn.trans hl.symm),st.h] at h;exact h
theorem Ld.cG {x y:Operand} {b o B i:Nat} {cs:List A} {e:A} {L':List ai} [it:eZ P X 1] [bx:lM L b B cs i] [st:kW L i (.box b B (cs.set o e)) L'] (hx:aN f x=some (.c (.v (.pointer (some ⟨b,o,none⟩))))) (hy:aN f y=some (.c e)) (hl:Nat.ble (o + 1) cs.length=true) :
  Ld P c ⟨none,.store X x y,T,ps,af,gd⟩ f L [b] (fun _:Unit=>f) (fun _=>L'):=by
 have h:=Ld.C9 (P:=P) (c:=c) (T:=T) (X:=X) (ps:=ps) (af:=af) (gd:=gd) i hx bx.h hy rfl rfl hl;rw [G6 (Nat.le_of_ble_eq_true hl),st.h] at h;exact h
theorem Ld.qG {x y:Operand} {b o n B i:Nat} {cs es:List A} {d:D} {L':List ai} [it:eZ P X n] [bx:lM L b B cs i] [st:kW L i (.box b B (iP cs o es)) L'] (hx:aN f x=some (.c (.v (.pointer (some ⟨b,o,none⟩))))) (hy:aN f y=some d) (hd:gD d=some es) (hn:es.length=n) (hl:Nat.ble (o + n) cs.length=true) :
  Ld P c ⟨none,.store X x y,T,ps,af,gd⟩ f L [b] (fun _:Unit=>f) (fun _=>L'):=by
 have h:=Ld.C9 (P:=P) (c:=c) (T:=T) (X:=X) (ps:=ps) (af:=af) (gd:=gd) i hx bx.h hy hd hn hl;rw [st.h] at h;exact h
theorem Ld.fO {x y:Operand} {v:Value} {sz q e i:Nat} {ll:List (List A)} {es:List A} {d:D} {L':List ai} [it:eZ P X sz] [bx:gz L v e sz ll i] [st:kW L i (.row v e sz (ll.set q es)) L'] (hx:aN f x=some (.ow v sz q 0)) (hy:aN f y=some d) (hd:gD d=some es) (hn:es.length=sz) (hq:q < ll.length) :
  Ld P c ⟨none,.store X x y,T,ps,af,gd⟩ f L (cW v) (fun _:Unit=>f) (fun _=>L'):=⟨fun a w s=>by
 obtain ⟨xs,h1,h2⟩:=s.res _ (List.mem_of_getElem? bx.h);have hl:=RX.Da h2 (List.getElem?_eq_getElem hq);have h:=Ld.Db (P:=P) (c:=c) (T:=T) (X:=X) (ps:=ps) (af:=af) (gd:=gd) i hx bx.h (List.getElem?_eq_getElem hq) hy hd hn (by rw [Nat.zero_add];exact Nat.ble_self_eq_true _);rw [G5 (hn.trans hl.symm),st.h] at h;exact h.go a w s⟩
theorem Ld.dY {x y:Operand} {v:Value} {sz q o e i:Nat} {ll:List (List A)} {cs:List A} {u:A} {L':List ai} [it:eZ P X 1] [bx:gz L v e sz ll i] [st:kW L i (.row v e sz (ll.set q (cs.set o u))) L'] (hx:aN f x=some (.ow v sz q o)) (hy:aN f y=some (.c u)) (hl:Nat.ble (o + 1) sz=true) (hq:ll[q]?=some cs) :
  Ld P c ⟨none,.store X x y,T,ps,af,gd⟩ f L (cW v) (fun _:Unit=>f) (fun _=>L'):=⟨fun a w s=>by
 obtain ⟨xs,h1,h2⟩:=s.res _ (List.mem_of_getElem? bx.h);have hle:=RX.Da h2 hq;have h:=Ld.Db (P:=P) (c:=c) (T:=T) (X:=X) (ps:=ps) (af:=af) (gd:=gd) i hx bx.h hq hy rfl rfl hl;rw [G6 (by have:=Nat.le_of_ble_eq_true hl;omega),st.h] at h;exact h.go a w s⟩
theorem Ld.Af {x y:Operand} {v:Value} {sz q o e n i:Nat} {ll:List (List A)} {cs es:List A} {d:D} {L':List ai} [it:eZ P X n] [bx:gz L v e sz ll i] [st:kW L i (.row v e sz (ll.set q (iP cs o es))) L'] (hx:aN f x=some (.ow v sz q o)) (hy:aN f y=some d) (hd:gD d=some es) (hn:es.length=n) (hl:Nat.ble (o + n) sz=true) (hq:ll[q]?=some cs) :
  Ld P c ⟨none,.store X x y,T,ps,af,gd⟩ f L (cW v) (fun _:Unit=>f) (fun _=>L'):=by
 have h:=Ld.Db (P:=P) (c:=c) (T:=T) (X:=X) (ps:=ps) (af:=af) (gd:=gd) i hx bx.h hq hy hd hn hl;rw [st.h] at h;exact h
theorem Ld.pure {F:FuncId} {args:List Operand} {tys:Array TypeId} {cZ ds:List D} {d:D} [i:aG P F] (hC:Pure P F ds d) (ht:t < c.N) (h:iq f args=some cZ) (hle:aL cZ ds) :
  Ld P c ⟨some t,.call ⟨.value (.func F),args.toArray,tys⟩,T,ps,af,gd⟩ f L [] (fun _:Unit=>(t,d) :: f) (fun _=>L):=Ld.call hC ht h hle (Ll:=[]) (Lr:=L) rfl
theorem JO.gL {e sz:Nat} [i:eY P X e sz] (hw:dJ ops ⟨some t,.buildSlice X 0 #[],T,ps,af,gd⟩ f=true) (ht:t < c.N) (h:∀ b,JO P c ops l k ((t,.c (.v (.slice (some ⟨b,0,none⟩) 0 0))) :: f) (.row (.slice (some ⟨b,0,none⟩) 0 0) e sz [] :: L)):JO P c ops (⟨some t,.buildSlice X 0 #[],T,ps,af,gd⟩ :: l) k f L :=
 JO.ld (Ld.gL ht) hw h
theorem JO.ff {e sz:Nat} {x:Operand} {d:D} {cs:List A} {zs:List Value} [i:eY P X e sz] [z:aQ P e zs] (hw:dJ ops ⟨some t,.buildSlice X 1 #[(0,x)],T,ps,af,gd⟩ f=true) (ht:t < c.N) (hx:aN f x=some d) (hc:gD d=some cs) (hn:cs.length=sz) (h0:Nat.ble 1 sz=true) (hs:Nat.ble sz 1000=true)
  (h:∀ b,JO P c ops l k ((t,.c (.v (.slice (some ⟨b,0,none⟩) 1 1))) :: f) (.row (.slice (some ⟨b,0,none⟩) 1 1) e sz [cs] :: L)):JO P c ops (⟨some t,.buildSlice X 1 #[(0,x)],T,ps,af,gd⟩ :: l) k f L :=
 JO.ld (Ld.ff ht hx hc hn h0 hs) hw h
theorem JO.call {F:FuncId} {args:List Operand} {tys:Array TypeId} {cZ ds:List D} {Ll Lr:List ai} {ι:Type} {post:ι→D × List ai} [i:aG P F] (hC:aq P F ds Ll post) (hw:dJ ops ⟨some t,.call ⟨.value (.func F),args.toArray,tys⟩,T,ps,af,gd⟩ f=true) (ht:t < c.N) (h:iq f args=some cZ) (hle:aL cZ ds) (hL:L=Ll ++ Lr)
  (hk:∀ i,JO P c ops l k ((t,(post i).1) :: f) ((post i).2 ++ Lr)):JO P c ops (⟨some t,.call ⟨.value (.func F),args.toArray,tys⟩,T,ps,af,gd⟩ :: l) k f L :=
 JO.ld (Ld.call hC ht h hle hL) hw hk
theorem JO.pure {F:FuncId} {args:List Operand} {tys:Array TypeId} {cZ ds:List D} {d:D} [i:aG P F] (hC:Pure P F ds d) (hw:dJ ops ⟨some t,.call ⟨.value (.func F),args.toArray,tys⟩,T,ps,af,gd⟩ f=true) (ht:t < c.N) (h:iq f args=some cZ) (hle:aL cZ ds)
  (hk:JO P c ops l k ((t,d) :: f) L):JO P c ops (⟨some t,.call ⟨.value (.func F),args.toArray,tys⟩,T,ps,af,gd⟩ :: l) k f L :=
 JO.call hC hw ht h hle (Ll:=[]) (Lr:=L) rfl fun _=>hk
theorem J.ve (i j n:Nat) {v:Value} {e:TypeId} {sz:Nat} {ll:List (List A)} {b:Nat} {B:TypeId} {cs:List A} (hi:L[i]?=some (.row v e sz ll)) (hj:L[j]?=some (.box b B cs)) (hc:cs[n]?=some (.v v))
  (h:J P c k f ((L.set j (.box b B (cs.set n (.r sz ll)))).eraseIdx i)):J P c k f L:=⟨fun a w s=>by
 have br:i≠j:=fun e=>by subst e;rw [hi] at hj;cases hj
 have cA:=(List.getElem?_eq_some_iff.1 hj).1;have hm:∀ q,q∈L.eraseIdx i→q∈L:=fun q hq=>List.mem_of_mem_eraseIdx hq
 have ho:∀ q∈L.eraseIdx i,∀ x∈q.bM,x∉cW v:=fun q hq x hx fC=>by
  obtain ⟨m,tM⟩:=List.mem_iff_getElem?.1 hq;rw [List.getElem?_eraseIdx] at tM
  split at tM
  ·exact fA.ne s.ap hi tM (by omega) x fC hx
  ·exact fA.ne s.ap hi tM (by omega) x fC hx
 have hf:∀ x,x∈aO (L.eraseIdx i)→x∈aO L:=fun x hx=>by
  obtain ⟨q,hq,hx⟩:=c9.1 hx;exact c9.2 ⟨q,hm q hq,hx⟩
 have mo:Mon (bh c L) (bh c (L.eraseIdx i)) w w:=⟨Nat.le_refl _,fun g _ hg=>⟨⟨hg.1,fun hx=>hg.2 (hf g hx)⟩,rfl⟩⟩
 have s1:St c f (L.eraseIdx i) a w:=⟨s.kp,s.size,s.jT,fun q hq=>(s.res q (hm q hq)).cK (aj.refl [] w) mo (by simp),fun x hx=>s.fN x (hf x hx),s.ap.sublist (List.eraseIdx_sublist L i),fun t d ht=>RD.cK mo d _ (s.fr t d ht)⟩
 obtain ⟨xs,r1,r2⟩:=s.res _ (List.mem_of_getElem? hi);have hR:RA (bh c (L.eraseIdx i)) w (.r sz ll) v:=RA.Ae r1.view (RX.cK mo _ _ r2) fun g hg=>⟨.inr (s.fN g (c9.2 ⟨_,List.mem_of_getElem? hi,hg⟩)),fun hx=>by
  obtain ⟨q,hq,mw⟩:=c9.1 hx;exact ho q hq g mw hg⟩
 have OY:∃ j',(L.eraseIdx i)[j']?=some (.box b B cs)∧(L.set j (.box b B (cs.set n (.r sz ll)))).eraseIdx i=(L.eraseIdx i).set j' (.box b B (cs.set n (.r sz ll))):=by
  by_cases qH:j < i
  ·refine ⟨j,by rw [List.getElem?_eraseIdx,if_pos qH];exact hj,?_⟩;apply List.ext_getElem?;intro m;rw [List.getElem?_eraseIdx,List.getElem?_set,List.getElem?_set,List.getElem?_set,List.getElem?_eraseIdx,List.length_eraseIdx];have kB:=(List.getElem?_eq_some_iff.1 hi).1
   split <;> split <;> (try split) <;> (try split) <;> (try split) <;> first | rfl | omega
  ·refine ⟨j - 1,by rw [List.getElem?_eraseIdx,if_neg (by omega),show j - 1 + 1=j by omega];exact hj,?_⟩;apply List.ext_getElem?;intro m;rw [List.getElem?_eraseIdx,List.getElem?_set,List.getElem?_set,List.getElem?_set,List.getElem?_eraseIdx,List.length_eraseIdx];have kB:=(List.getElem?_eq_some_iff.1 hi).1
   split <;> split <;> (try split) <;> (try split) <;> (try split) <;> first | rfl | omega
 obtain ⟨j',e1,e2⟩:=OY;rw [e2] at h;obtain ⟨vs,b1,b2⟩:=s1.res _ (List.mem_of_getElem? e1);refine h.go a w (s1.set e1 rfl (aj.refl _ w) ⟨vs,b1,?_⟩);have cr:=b2.get n (by exact hc);obtain ⟨x,hx,Hl⟩:=cr;unfold RA at Hl;obtain ⟨rfl,_⟩:=Hl;have:=RC.set n b2 hR;have e3:vs.set n x=vs:=by
  apply List.ext_getElem?;intro m;rw [List.getElem?_set]
  split
  ·rename_i e;subst e
   split
   ·exact hx.symm
   ·rename_i hn;rw [List.getElem?_eq_none (by omega)] at hx;cases hx
  ·rfl
 rw [e3] at this;exact this⟩
end
end Fl
end Go.Proofs.YtofnbflkhgammaaGreat
