/-
  What the laws need, part A4.
  Conditions: none.
-/
import Derived.Test.YtofnbflkhgammaaGreatA3
set_option linter.unusedVariables false
set_option linter.unusedSimpArgs false
set_option linter.unnecessarySimpa false
set_option maxHeartbeats 2000000
namespace Go.Proofs.YtofnbflkhgammaaGreat
open Go.RowKit
namespace Fl
section
variable {P:Program} {ops:Array Oper} {Q:Exit→Act→World→Prop} {md:Region.Mode} {S:World→Prop} {m:Option Nat}
def Gx (P:Program) (md:Region.Mode) (ops:Array Oper) (Q:Exit→Act→World→Prop) (S:World→Prop) (m:Option Nat):Nat→Array Bool→Act→World→Prop
 | 0,aH,a,w=>Region.ready md ops aH=[]∧Q .normal a w
 | n + 1,aH,a,w=>(Region.ready md ops aH=[]→Q .normal a w) ∧
  ∀ i∈Region.ready md ops aH,wpOp P ops Q i (fun a' w'=>(some i=m∧wpAny P md ops Q n (aH.setIfInBounds i true) a' w')∨(S w'∧Gx P md ops Q S m n (aH.setIfInBounds i true) a' w')) a w
theorem Gx.any:∀ (n:Nat) (aH:Array Bool) (a:Act) (w:World),Gx P md ops Q S m n aH a w→wpAny P md ops Q n aH a w
 | 0,_,_,_,h=>h
 | n + 1,_,_,_,h=>⟨h.1,fun i hi=>wpOp_mono (fun a' w' h'=>h'.elim (·.2) (fun h'=>Gx.any n _ a' w' h'.2)) (h.2 i hi)⟩
def Dg (md:Region.Mode) (ops:Array Oper) (m:Option Nat) (i:Nat):Bool:=match m with
 | none=>true
 | some j=>waitsFor md ops j i
theorem Gx.first {i:Nat} {oi:Oper} {v:Value} (hi:ops[i]?=some oi) (tN:∀ (j:Nat) (o:Oper) cs b,ops[j]?=some o→o.op≠.select cs b) (hQ:∀ c a w,Q (.panic c) (a.put oi.dst v) w→Q (.panic c) a w) (hm:Dg md ops m i=true) :
  ∀ (n:Nat) (aH:Array Bool) (a:Act) (w:World),(∀ (j:Nat) oj,ops[j]?=some oj→j≠i→aH.getD j true=false→(∀ e∈oj.after,Region.binds md e=true→e.on≠i)→oi.apart ops oj=true) →
   i∈Region.ready md ops aH→YieldsIf P ops S oi v a→S w→Gx P md ops Q S m n (aH.setIfInBounds i true) (a.put oi.dst v) w→Gx P md ops Q S m (n + 1) aH a w
 | n,aH,a,w,xm,hr,hy,hS,H=>by
  refine ⟨fun h=>(by rw [h] at hr;cases hr),fun j hj=>?_⟩
  by_cases lp:j=i
  ·subst lp;exact hy.wpOp hi hS (.inr ⟨hS,H⟩)
  ·cases n with
   | zero =>
    have:=ready_mono hj lp;rw [H.1] at this
    cases this
   | succ n =>
    obtain ⟨xo,oj,ni,kA⟩:=mem_ready.1 hj;have pJ:=CY hr kA;have mj:some j≠m:=fun e=>by
     subst e;unfold Dg waitsFor at hm;simp only at hm;rw [ni] at hm;obtain ⟨x,hx,hp⟩:=Array.any_eq_true'.1 hm;simp only [Bool.and_eq_true,beq_iff_eq] at hp;exact pJ x hx hp.2 hp.1
    have h2:=wpOp_putIf ni (xm j oj ni lp xo pJ) (fun cs b=>tN i oi cs b hi) (fun cs b=>tN j oj cs b ni) hQ hy (H.2 j (ready_mono hj lp));have fS:i∈Region.ready md ops (aH.setIfInBounds j true):=ready_mono hr (Ne.symm lp);refine wpOp_mono (fun a' w' h3=>?_) h2;have Dh:=Array.setIfInBounds_comm (xs:=aH) true true lp;obtain ⟨h4,h5⟩:S w'∧_:=h3.2.resolve_left (fun h=>mj h.1);exact .inr ⟨h4,Gx.first hi tN hQ hm n (aH.setIfInBounds j true) a' w' (fun k ok hk Di xq pJ=>by
     refine xm k ok hk Di ?_ pJ
     by_cases xu:j=k
     ·subst xu;exact xo
     ·rw [getD_set_ne true xu] at xq;exact xq) fS h3.1 h4 (by rw [Dh];exact h5)⟩
end
def Dj (md:Region.Mode) (ops:Array Oper) (m:Option Nat) (aH:Array Bool) (i:Nat):Bool :=
 Region.noSelect ops && Region.free md ops aH i && (Region.ready md ops aH).contains i && Dg md ops m i
def jD (L:List ai) (T:List Nat):List Nat:=T.flatMap fun i=>match L[i]? with
 | some r=>r.bM
 | none=>[]
theorem xw {L:List ai} {T:List Nat} {x:Nat}:x∈jD L T↔∃ i∈T,∃ r,L[i]?=some r∧x∈r.bM:=by
 unfold jD;rw [List.mem_flatMap]
 constructor
 ·rintro ⟨i,hi,hx⟩
  cases h:L[i]? with
  | none=>rw [h] at hx;cases hx
  | some r=>rw [h] at hx;exact ⟨i,hi,r,h,hx⟩
 ·rintro ⟨i,hi,r,h,hx⟩
  exact ⟨i,hi,by rw [h];exact hx⟩
theorem Ag {L:List ai} {T:List Nat} {x:Nat} (h:x∈jD L T):x∈aO L:=by
 obtain ⟨i,_,r,hr,hx⟩:=xw.1 h;exact c9.2 ⟨r,List.mem_of_getElem? hr,hx⟩
section
variable (P:Program) (c:Cx)
structure JW (ops:Array Oper) (n:Nat) (aH:Array Bool) (k:List Item) (f:Fm) (L:List ai):Prop where
 go:∀ a w,St c f L a w→wpAny P .any ops (fun e a' w'=>e=.normal∧jU P c k a' w') n aH a w
structure JD (ops:Array Oper) (m:Option Nat) (T:List Nat) (n:Nat) (aH:Array Bool) (k:List Item) (f:Fm) (L:List ai) (f0:Fm) (L0:List ai):Prop where
 go:∀ a w w0,St c f L a w→St c f0 L0 a w0→aj (jD L0 T) w0 w→(∀ x∈aO L,x∈aO L0∨w0.heap.size≤x)→Gx P .any ops (fun e a' w'=>e=.normal∧jU P c k a' w') (fun w'=>aj (jD L0 T) w0 w') m n aH a w
end
section
variable {P:Program} {c:Cx} {k:List Item} {f f0:Fm} {L L0:List ai} {ops:Array Oper} {l:List Oper} {o:Oper} {m:Option Nat} {T:List Nat} {n:Nat} {aH:Array Bool}
theorem J.draw {id:Nat} (hm:P.follows .mixedOrders=true) (hn:l.length=n) (h:JW P c l.toArray n (Array.replicate n false) k f L):J P c (.code (.region id l.toArray true) :: k) f L:=⟨fun a w s=>by
 refine jU.wp (wp_region_any hm ?_);have s':St c f L a w.drew:=⟨s.kp.drew,s.size,s.jT,fun r hr=>(s.res r hr).cK ((aj.refl [] w).drew) (Mon.kT ((aj.refl [] w).drew) fun g _ hg=>⟨hg,by simp⟩) (by simp),s.fN,s.ap,fun t d ht=>RD.cK (Mon.kT ((aj.refl [] w).drew) fun g _ hg=>⟨hg,by simp⟩) d _ (s.fr t d ht)⟩
 have:=h.go a w.drew s';subst hn;simpa using this⟩
theorem JW.iR (T:List Nat) (m:Option Nat) (h:JD P c ops m T n aH k f L f L):JW P c ops n aH k f L:=⟨fun a w s =>
 Gx.any (S:=fun w'=>aj (jD L T) w w') (m:=m) _ _ _ _ (h.go a w w s s (aj.refl _ _) (fun g hg=>.inl hg))⟩
theorem JW.base (m:Option Nat) (h:JD P c ops m [] n aH k f L f L):JW P c ops n aH k f L:=JW.iR [] m h
theorem JW.done (hl:Region.ready .any ops aH=[]) (h:J P c k f L):JW P c ops n aH k f L:=⟨fun a w s=>wpAny_done hl ⟨rfl,h.go _ w s⟩ n⟩
theorem St.undef {a:Act} {w:World} {t:Nat} (s:St c f L a w) (ht:t < c.N):St c ((t,.aV []) :: f) L (a.put (some t) Go.undef) w:=s.mq ht (by unfold RD;exact ⟨[],rfl,rfl⟩)
theorem JD.take (i:Nat) {t:Nat} {d:D} {U:List Nat} (hi:ops[i]?=some o) (hd:o.dst=some t) (hk:Dj .any ops m aH i=true) (hw:dJ ops o f0=true) (ht:t < c.N) (q:Qt P c U o f0 L0 d) (hu:(U.all fun j=>!T.contains j)=true) (h:JD P c ops m T n (aH.setIfInBounds i true) k ((t,d) :: f) L ((t,d) :: f0) L0):JD P c ops m T (n + 1) aH k f L f0 L0:=⟨fun a w w0 s s0 kp ho=>by
 obtain ⟨v,h1,h2⟩:=q.go a w0 s0;unfold Dj at hk;simp only [Bool.and_eq_true] at hk;obtain ⟨⟨⟨k1,k2⟩,k3⟩,k4⟩:=hk;have m1:Mon (bh c L0) (bh c L) w0 w:=Mon.kT kp fun g hg fX=>⟨⟨fX.1,fun hx=>by rcases ho g hx with h | h;exact fX.2 h;omega⟩,fun hm=>fX.2 (Ag hm)⟩
 have Dk:∀ w',aj (jD L0 T) w0 w'→qA L0 U w0 w':=fun w' tO=>⟨_,tO,fun x hx=>Ag hx,fun x hx j hj r hr qF=>by
  obtain ⟨i,hi,r2,fS,qD⟩:=xw.1 hx;have qH:j≠i:=fun e=>by
   subst e;have:=List.all_eq_true.1 hu j hj;simp [hi] at this
  exact fA.ne s0.ap hr fS qH x qF qD⟩
 refine Gx.first hi (Region.noSelect_spec k1) (fun c a w h=>by cases h.1) k4 n aH a w (Region.free_spec hi k2) (by simpa using k3) (v:=v) (.inl ⟨dJ.run hw s0,fun w' tO=>h2 w' (Dk w' tO)⟩) kp ?_
 have:=h.go (a.put o.dst v) w w0 (by rw [hd];exact s.mq ht (RD.cK m1 _ _ h1)) (by rw [hd];exact s0.mq ht h1) kp ho;exact this⟩
def stays:D→D
 | .c (.v x)=>.c (.v x)
 | _=>.any
theorem stays.rep {d:D} {ok gf:Nat→Prop} {w w':World} {x:Value} (h:RD ok w d x):RD gf w' (stays d) x:=by
 unfold stays
 split
 ·unfold RD RA at h ⊢;exact h
 ·unfold RD;trivial
inductive rX (L0:List ai):List ai→Prop
 | refl:rX L0 L0
 | cons {r L}:rX L0 L→rX L0 (r :: L)
theorem rX.mem {L0 L:List ai} (h:rX L0 L):∀ q∈L0,q∈L:=by
 induction h with
 | refl=>exact fun _ h=>h
 | cons _ ih=>exact fun q hq=>List.mem_cons_of_mem _ (ih q hq)
inductive Since (T:List Nat) (L0 L:List ai):List Nat→Prop
 | none:Since T L0 L []
 | nil:Since T L0 L (cW (.slice none 0 0))
 | first {v e sz m Lr}:L=.row v e sz m :: Lr→rX L0 Lr→Since T L0 L (cW v)
 | any {r i Lr}:L[i]?=some r→L.eraseIdx i=Lr→rX L0 Lr→Since T L0 L r.bM
 | there {r j}:L0[j]?=some r→T.contains j=true→Since T L0 L r.bM
theorem Since.row {L0 L L':List ai} {v:Value} {e sz i:Nat} {m:List (List A)} [bx:gz L v e sz m i] [er:mu L i L'] (ht:rX L0 L'):Since T L0 L (cW v):=.any bx.h er.h ht
theorem Since.tS {L0 L:List ai} {v:Value} {e sz i:Nat} {m:List (List A)} [bx:gz L0 v e sz m i] (ht:T.contains i=true):Since T L0 L (cW v):=.there bx.h ht
theorem Since.mz {L0 L:List ai} {b B i:Nat} {cs:List A} [bx:lM L0 b B cs i] (ht:T.contains i=true):Since T L0 L [b]:=.there bx.h ht
theorem Since.keeps {S:List Nat} (hS:Since T L0 L S) {a:Act} {w w0 w':World} (s:St c f L a w) (kp:aj (jD L0 T) w0 w) (ho:∀ x∈aO L,x∈aO L0∨w0.heap.size≤x) (qI:aj S w w'):aj (jD L0 T) w0 w':=by
 refine kp.trans qI fun x hx=>?_
 cases hS with
 | none=>cases hx
 | nil=>cases hx
 | first e ht =>
  subst e;rcases ho x (c9.2 ⟨_,List.mem_cons_self ..,hx⟩) with h | h
  ·obtain ⟨q,hq,mw⟩:=c9.1 h;exact absurd mw ((List.pairwise_cons.1 s.ap).1 q (ht.mem q hq) x hx)
  ·exact .inr h
 | any h1 e ht =>
  rcases ho x (c9.2 ⟨_,List.mem_of_getElem? h1,hx⟩) with h | h
  ·obtain ⟨q,hq,mw⟩:=c9.1 h;have hm:=ht.mem q hq;rw [← e] at hm;obtain ⟨j,hj⟩:=List.mem_iff_getElem?.1 hm;rw [List.getElem?_eraseIdx] at hj
   exfalso
   split at hj
   ·exact fA.ne s.ap h1 hj (by omega) x hx mw
   ·exact fA.ne s.ap h1 hj (by omega) x hx mw
  ·exact .inr h
 | there h1 ht=>exact .inl (xw.2 ⟨_,by simpa using ht,_,h1,hx⟩)
structure JS (P:Program) (c:Cx) (ops:Array Oper) (m:Option Nat) (T:List Nat) (n:Nat) (aH:Array Bool) (k:List Item) (f:Fm) (L:List ai) (f0:Fm) (L0:List ai) (i:Nat):Prop where
 go:∀ a w w0,St c f L a w→St c f0 L0 a w0→aj (jD L0 T) w0 w→(∀ x∈aO L,x∈aO L0∨w0.heap.size≤x) →
  wpOp P ops (fun e a' w'=>e=.normal∧jU P c k a' w') i (fun a' w'=>(some i=m∧wpAny P .any ops (fun e a' w'=>e=.normal∧jU P c k a' w') n (aH.setIfInBounds i true) a' w')∨(aj (jD L0 T) w0 w'∧Gx P .any ops (fun e a' w'=>e=.normal∧jU P c k a' w') (fun w'=>aj (jD L0 T) w0 w') m n (aH.setIfInBounds i true) a' w')) a w
theorem JS.bp {S:List Nat} {i t:Nat} {ι:Type} {g:ι→D} {L':ι→List ai} (hi:ops[i]?=some o) (hd:o.dst=some t) (hw:dJ ops o f=true) (ht:t < c.N) (q:Ld P c o f L S (fun x=>(t,g x) :: f) L') (hS:Since T L0 L S)
  (h:∀ x,JD P c ops m T n (aH.setIfInBounds i true) k ((t,g x) :: f) (L' x) ((t,stays (g x)) :: f0) L0):JS P c ops m T n aH k f L f0 L0 i:=⟨fun a w w0 s s0 kp ho=>by
 refine wpOp_step hi (fun K hK=>?_);rw [dJ.run hw s,if_pos rfl];refine q.go a w s K _ fun x v w' qI sx hf=>?_
 have rY:=hS.keeps s kp ho qI;refine hK _ _ (.inr ⟨rY,(h x).go _ w' w0 sx ?_ rY ?_⟩)
 ·rw [hd];exact s0.mq ht (stays.rep (by
   have h1:=sx.fr t (g x) (rW _ _ _);have h2:=s.size;rw [hd] at h1;simpa [Act.put,Array.getD_eq_getD_getElem?,Array.getElem?_setIfInBounds,h2,ht] using h1))
 ·intro y hy;rcases hf y hy with h1 | h1
  ·exact ho y h1
  ·exact .inr (Nat.le_trans kp.size h1)⟩
theorem JS.st {S:List Nat} {i:Nat} {ι:Type} {L':ι→List ai} (hi:ops[i]?=some o) (hd:o.dst=none) (hw:dJ ops o f=true) (q:Ld P c o f L S (fun _=>f) L') (hS:Since T L0 L S)
  (h:∀ x,JD P c ops m T n (aH.setIfInBounds i true) k f (L' x) f0 L0):JS P c ops m T n aH k f L f0 L0 i:=⟨fun a w w0 s s0 kp ho=>by
 refine wpOp_step hi (fun K hK=>?_);rw [dJ.run hw s,if_pos rfl];refine q.go a w s K _ fun x v w' qI sx hf=>?_
 have rY:=hS.keeps s kp ho qI;refine hK _ _ (.inr ⟨rY,(h x).go _ w' w0 sx (by rw [hd];exact s0) rY ?_⟩);intro y hy;rcases hf y hy with h1 | h1
 ·exact ho y h1
 ·exact .inr (Nat.le_trans kp.size h1)⟩
theorem JS.q {i t:Nat} {d:D} {U:List Nat} (hi:ops[i]?=some o) (hd:o.dst=some t) (hw:dJ ops o f=true) (ht:t < c.N) (q:Qt P c U o f L d)
  (h:JD P c ops m T n (aH.setIfInBounds i true) k ((t,d) :: f) L ((t,stays d) :: f0) L0):JS P c ops m T n aH k f L f0 L0 i:=⟨fun a w w0 s s0 kp ho=>by
 obtain ⟨v,h1,h2⟩:=q.go a w s;refine wpOp_step hi (fun K hK=>?_);rw [dJ.run hw s,if_pos rfl];simp only [Oper.wp,h2 w (qA.now _ _ _),Oper.upon];exact hK _ _ (.inr ⟨kp,h.go _ w w0 (by rw [hd];exact s.mq ht h1) (by rw [hd];exact s0.mq ht (stays.rep h1)) kp ho⟩)⟩
theorem JS.last {i:Nat} {ι:Type} {f':ι→Fm} {L':ι→List ai} {S:List Nat} (hi:ops[i]?=some o) (hw:dJ ops o f=true) (q:Ld P c o f L S f' L') (h:∀ x,JW P c ops n (aH.setIfInBounds i true) k (f' x) (L' x)):JS P c ops (some i) T n aH k f L f0 L0 i:=⟨fun a w w0 s s0 kp ho=>by
 refine wpOp_step hi (fun K hK=>?_);rw [dJ.run hw s,if_pos rfl];exact q.go a w s K _ fun x v w' qI sx hf=>hK _ _ (.inl ⟨rfl,(h x).go _ w' sx⟩)⟩
theorem JD.bk {i:Nat} (hr:Region.ready .any ops aH=[i]) (h:JS P c ops m T n aH k f L f0 L0 i):JD P c ops m T (n + 1) aH k f L f0 L0:=⟨fun a w w0 s s0 kp ho=>by
 refine ⟨fun h0=>(by rw [hr] at h0;cases h0),fun j hj=>?_⟩;rw [hr] at hj;simp at hj;subst hj;exact h.go a w w0 s s0 kp ho⟩
theorem JD.cB {i j:Nat} (hr:Region.ready .any ops aH=[i,j]) (h1:JS P c ops m T n aH k f L f0 L0 i) (h2:JS P c ops m T n aH k f L f0 L0 j):JD P c ops m T (n + 1) aH k f L f0 L0:=⟨fun a w w0 s s0 kp ho=>by
 refine ⟨fun h0=>(by rw [hr] at h0;cases h0),fun j hj=>?_⟩;rw [hr] at hj;simp at hj;rcases hj with rfl | rfl
 ·exact h1.go a w w0 s s0 kp ho
 ·exact h2.go a w w0 s s0 kp ho⟩
theorem JD.Ho {i j q:Nat} (hr:Region.ready .any ops aH=[i,j,q]) (h1:JS P c ops m T n aH k f L f0 L0 i) (h2:JS P c ops m T n aH k f L f0 L0 j) (h3:JS P c ops m T n aH k f L f0 L0 q):JD P c ops m T (n + 1) aH k f L f0 L0:=⟨fun a w w0 s s0 kp ho=>by
 refine ⟨fun h0=>(by rw [hr] at h0;cases h0),fun j hj=>?_⟩;rw [hr] at hj;simp at hj;rcases hj with rfl | rfl | rfl
 ·exact h1.go a w w0 s s0 kp ho
 ·exact h2.go a w w0 s s0 kp ho
 ·exact h3.go a w w0 s s0 kp ho⟩
theorem JD.done (hl:Region.ready .any ops aH=[]) (h:J P c k f L):JD P c ops m T n aH k f L f0 L0:=⟨fun a w w0 s s0 kp ho=>by
 have hq:=h.go _ w s
 cases n with
 | zero=>exact ⟨hl,rfl,hq⟩
 | succ n=>exact ⟨fun _=>⟨rfl,hq⟩,fun k hk=>by rw [hl] at hk;cases hk⟩⟩
end
end Fl
open Go.RowKit
namespace Fl
def vf (P:Program) (T:TypeId):Option (List (Nat × Nat)):=match P.underlying T with
 | some (.struct fs)=>fs.toList.mapM fun f=>(P.info? f.type).map fun i=>(f.offset,i.size)
 | _=>none
class mA (P:Program) (T:TypeId) (pl:outParam (List (Nat × Nat))):Prop where h:vf P T=some pl:=by kernel_rfl
def rZ (pl:List (Nat × Nat)):List A→List (Nat × List A)→Option (List A)
 | cs,[]=>some cs
 | cs,(i,es) :: r=>match pl[i]? with
  | none=>none
  | some (off,size)=>cond (Nat.beq es.length size && Nat.ble (off + es.length) cs.length) (rZ pl (iP cs off es) r) none
def xx:List (Nat × Nat)→Nat→List (Nat × List A)→List A→List A
 | [],_,_,_=>[]
 | (_,n) :: pl,k,[],zs=>zs.take n ++ xx pl (k + 1) [] (zs.drop n)
 | (_,n) :: pl,k,(i,es) :: r,zs=>cond (Nat.beq i k) (es ++ xx pl (k + 1) r (zs.drop n)) (zs.take n ++ xx pl (k + 1) ((i,es) :: r) (zs.drop n))
theorem OZ (l:List Value):∀ (k:Nat) (z:Array Value),k + l.length≤z.size→∀ off,off≤k→(l.zipIdx (k - off)).foldl (fun cs x=>cs.setIfInBounds (off + x.2) x.1) z=(z.toList.take k ++ l ++ z.toList.drop (k + l.length)).toArray:=by
 induction l with
 | nil=>intro k z hz off ho;simp
 | cons x l ih =>
  intro k z hz off ho;simp only [List.length_cons] at hz;rw [List.zipIdx_cons,List.foldl_cons];have:=ih (k + 1) (z.setIfInBounds (off + (k - off)) x) (by simp;omega) off (by omega);rw [show k + 1 - off=k - off + 1 by omega] at this;rw [this];simp only [show off + (k - off)=k by omega];apply congrArg;simp only [Array.toList_setIfInBounds,List.length_cons];rw [List.take_add_one,List.take_set,List.getElem?_set_self (by simp;omega)];rw [List.set_eq_of_length_le (by simp;omega),List.drop_set,if_pos (by omega)];simp only [Option.toList_some,List.append_assoc,List.singleton_append,List.cons_append,List.nil_append];rw [show k + (l.length + 1)=k + 1 + l.length by omega]
theorem rZ.run {ok:Nat→Prop} {w:World} {pl:List (Nat × Nat)}:∀ (ps:List (Nat × List A)) (xs:List (Nat × Value)) (cs jC:List A) (us:Array Value),rZ pl cs ps=some jC→RC ok w cs us.toList→xs.map (·.1)=ps.map (·.1)→(∀ (j:Nat) (p:Nat × List A) (x:Nat × Value),ps[j]?=some p→xs[j]?=some x→RC ok w p.2 x.2.cells.toList) →
  ∃ Ah,Instr.fill (pl.toArray[·]?) us xs=some Ah∧RC ok w jC Ah.toList
 | [],xs,cs,jC,us,h,hr,hm,hx=>by
  have:xs=[]:=by simpa using hm
  subst this;simp [rZ] at h;subst h;exact ⟨us,rfl,hr⟩
 | (i,es) :: ps,[],cs,jC,us,h,hr,hm,hx=>by simp at hm
 | (i,es) :: ps,(i',x) :: xs,cs,jC,us,h,hr,hm,hx=>by
  simp only [List.map_cons,List.cons.injEq] at hm;obtain ⟨rfl,hm⟩:=hm;have Dl:=hx 0 _ _ rfl rfl;simp only at Dl;unfold rZ at h
  cases hp:pl[i']? with
  | none=>rw [hp] at h;cases h
  | some q =>
   obtain ⟨off,size⟩:=q;rw [hp] at h;simp only at h
   cases hc:(Nat.beq es.length size && Nat.ble (off + es.length) cs.length) with
   | false=>rw [hc] at h;cases h
   | true =>
    rw [hc] at h;simp only [Bool.and_eq_true] at hc;have h1:=Nat.eq_of_beq_eq_true hc.1;have h2:=Nat.le_of_ble_eq_true hc.2;have nj:=Dl.len;have iS:=hr.len;simp only [Array.length_toList] at nj iS;have hf:=OZ x.cells.toList off us (by simp;omega) off (Nat.le_refl _);rw [Nat.sub_self] at hf;have fS:RC ok w (iP cs off es) (us.toList.take off ++ x.cells.toList ++ us.toList.drop (off + x.cells.toList.length)):=by
     unfold iP;have:es.length=x.cells.toList.length:=by simp;omega
     rw [this];exact RC.app (RC.app (hr.take off) Dl) (hr.drop _)
    obtain ⟨Ah,g1,g2⟩:=rZ.run ps xs _ jC ((us.toList.take off ++ x.cells.toList ++ us.toList.drop (off + x.cells.toList.length)).toArray) h (by simpa using fS) hm (fun j p x hp fC=>hx (j + 1) p x (by simpa using hp) (by simpa using fC));refine ⟨Ah,?_,g2⟩;have O0:pl.toArray[i']?=some (off,size):=by simpa using hp
    unfold Instr.fill;rw [O0];simp only;rw [if_neg (by simp;omega)];rw [← g1]
    congr 1
    rw [← Array.foldl_toList,Array.toList_zipIdx];exact hf
section
variable {P:Program}
theorem vf.run {T:Nat} {pl:List (Nat × Nat)} (h:vf P T=some pl):∃ fs,P.underlying T=some (.struct fs)∧∀ w,(fs.mapM fun f=>do pure (f.offset,← sizeOf f.type):Sem (Array (Nat × Nat))).run P w=.ok pl.toArray w:=by
 unfold vf at h
 cases hu:P.underlying T with
 | none=>rw [hu] at h;cases h
 | some d =>
  rw [hu] at h
  cases d with
  | struct fs =>
   simp only at h;refine ⟨fs,rfl,fun w=>?_⟩;have key:∀ (l:List Field) (pl:List (Nat × Nat)),(l.mapM fun f=>(P.info? f.type).map fun i=>(f.offset,i.size))=some pl→(l.mapM fun f=>do pure (f.offset,← sizeOf f.type):Sem (List (Nat × Nat))).run P w=.ok pl w:=by
    intro l
    induction l with
    | nil=>intro pl h;simp at h;subst h;simp
    | cons f l ih =>
     intro pl h;rw [List.mapM_cons] at h
     cases hi:P.info? f.type with
     | none=>rw [hi] at h;cases h
     | some i =>
      rw [hi] at h;simp only [Option.map_some,Option.bind_eq_bind,Option.bind_some] at h
      cases hm:(l.mapM fun f=>(P.info? f.type).map fun i=>(f.offset,i.size)) with
      | none=>rw [hm] at h;cases h
      | some q =>
       rw [hm] at h;simp at h;subst h;have h5:=ih q hm;have h6:(sizeOf f.type).run P w=.ok i.size w:=by simp [sizeOf,typeInfo,Sem.run_bind,hi]
       rw [List.mapM_cons,Sem.run_bind,Sem.run_bind,h6];simp only [Result.andThen_ok,Sem.run_pure,Sem.run_bind,h5]
   have h2:=key fs.toList pl h;have e:(fs.mapM fun f=>do pure (f.offset,← sizeOf f.type):Sem (Array (Nat × Nat)))=(do let l ← (fs.toList.mapM fun f=>do pure (f.offset,← sizeOf f.type));pure l.toArray):=by
    rw [Array.mapM_eq_mapM_toList,map_eq_pure_bind]
   rw [e,Sem.run_bind,h2];rfl
  | _=>cases h
end
def Hp (P:Program) (X k:Nat):Bool:=match P.underlying X with
  | some (.struct fs)=>match fs[k]? with
   | some fd=>lJ P fd.type == some false
   | none=>false
  | _=>false
theorem Hq {α β:Type} {g:α→Option β}:∀ {l:List α} {q:List β},l.mapM g=some q→∀ {k:Nat} {a:α},l[k]?=some a→∃ b,q[k]?=some b∧g a=some b
  | [],q,h,k,a,e=>by simp at e
  | x :: l,q,h,k,a,e=>by
   rw [List.mapM_cons] at h
   cases hx:g x with
   | none=>rw [hx] at h;cases h
   | some b =>
    rw [hx] at h;simp only [Option.bind_eq_bind,Option.bind_some] at h
    cases hl:l.mapM g with
    | none=>rw [hl] at h;cases h
    | some r =>
     rw [hl] at h;simp at h;subst h
     cases k with
     | zero=>simp at e;subst e;exact ⟨b,rfl,hx⟩
     | succ k=>simp at e;simpa using Hq hl e
def qJ (f:Fm):List (Nat × Operand)→Option (List (Nat × List A))
 | []=>some []
 | (i,x) :: r=>match aN f x with
  | none=>none
  | some d=>match gD d,qJ f r with
   | some cs,some l=>some ((i,cs) :: l)
   | _,_=>none
section
variable {P:Program} {c:Cx} {f:Fm} {L:List ai} {t:Option Tmp} {T:TypeId} {ps:String} {af:Array Edge} {gd:Option (Nat × Bool)}
theorem qJ.rep {a:Act} {w:World} (s:St c f L a w):∀ {parts:List (Nat × Operand)} {l:List (Nat × List A)},qJ f parts=some l→(parts.map fun p=>(p.1,a.eval p.2)).map (·.1)=l.map (·.1)∧∀ (j:Nat) (p:Nat × List A) (x:Nat × Value),l[j]?=some p→(parts.map fun p=>(p.1,a.eval p.2))[j]?=some x→RC (bh c L) w p.2 x.2.cells.toList
 | [],l,h=>by simp [qJ] at h;subst h;simp
 | (i,x) :: r,l,h=>by
  unfold qJ at h
  cases h1:aN f x with
  | none=>rw [h1] at h;cases h
  | some d =>
   rw [h1] at h;simp only at h
   cases h2:gD d with
   | none=>rw [h2] at h;cases h
   | some cs =>
    cases h3:qJ f r with
    | none=>rw [h2,h3] at h;cases h
    | some l' =>
     rw [h2,h3] at h
     cases h;obtain ⟨g1,g2⟩:=qJ.rep s h3;refine ⟨by simpa using g1,fun j p x hp hx=>?_⟩
     cases j with
     | zero=>simp at hp hx;subst hp;subst hx;exact gD.rep h2 (s.ev h1)
     | succ j=>exact g2 j p x (by simpa using hp) (by simpa using hx)
theorem Qt.build {X:Nat} {parts:List (Nat × Operand)} {pl:List (Nat × Nat)} {zs:List Value} {l:List (Nat × List A)} [z:aQ P X zs] [i:mA P X pl] (h:qJ f parts=some l) (hf:rZ pl (vs zs) l=some (xx pl 0 l (vs zs))):Qt P c [] ⟨t,.build X parts.toArray,T,ps,af,gd⟩ f L (.agg (xx pl 0 l (vs zs))):=⟨fun a w s=>by
 obtain ⟨g1,g2⟩:=qJ.rep s h;obtain ⟨zv,Ad,xj⟩:=pH.run z.h;obtain ⟨fs,u1,u2⟩:=vf.run i.h;obtain ⟨us,r1,r2⟩:=rZ.run (ok:=bh c L) (w:=w) l (parts.map fun p=>(p.1,a.eval p.2)) (vs zs) _ zv.cells hf (by rw [Ad];exact RC.vs z.o) g1 g2;refine ⟨.agg us,by unfold RD;exact ⟨us.toList,by simp,r2⟩,fun w' k=>?_⟩;have e:(parts.toArray.map fun (i,x)=>(i,a.eval x)).toList=parts.map fun p=>(p.1,a.eval p.2):=by simp
 simp only [execOp,Instr.build,Sem.run_bind,xj,Result.andThen_ok,run_underlying u1,u2,e,r1,Sem.run_pure]⟩
theorem Qt.field {x:Operand} {X k off:Nat} {cs:List A} {e:A} {pl:List (Nat × Nat)} [i:mA P X pl] (h:aN f x=some (.agg cs)) (hp:pl[k]?=some (off,1)) (hv:Hp P X k=true) (he:cs[off]?=some e):Qt P c [] ⟨t,.field X x k,T,ps,af,gd⟩ f L (.c e):=⟨fun a w s=>by
 have r:=s.ev h;unfold RD at r;obtain ⟨vs,hx,hr⟩:=r;obtain ⟨y,hy,O1⟩:=hr.get off he;refine ⟨y,by unfold RD;exact O1,fun w' k'=>?_⟩;unfold Hp at hv;have hi:=i.h;unfold vf at hi
 cases hu:P.underlying X with
 | none=>rw [hu] at hi;cases hi
 | some d =>
  rw [hu] at hi hv
  cases d with
  | struct fs =>
   simp only at hi hv
   cases hf:fs[k]? with
   | none=>rw [hf] at hv;cases hv
   | some fd =>
    rw [hf] at hv;simp only [beq_iff_eq] at hv;have O2:fd.offset=off:=by
     have h3:=Hq hi (k:=k) (a:=fd) (by simpa using hf);obtain ⟨q,Hr,tT⟩:=h3;rw [hp] at Hr;cases Hr
     cases jj:P.info? fd.type with
     | none=>rw [jj] at tT;cases tT
     | some ii=>rw [jj] at tT;simp at tT;exact tT.1
    simp [execOp,Instr.field,Sem.run_bind,run_underlying hu,hf,hx,asAgg,part,lJ.CZ hv,O2,hy]
  | _=>cases hv⟩
def oG (f:Fm) (x:Option Operand) (n:Int):Option Int:=match x with
 | none=>some n
 | some y=>match aN f y with
  | some (.c (.v (.int _ m)))=>some m
  | _=>none
theorem oG.run {a:Act} {w:World} (s:St c f L a w) {x:Option Operand} {n m:Int} (h:oG f x n=some m):(x=none∧m=n)∨∃ y k,x=some y∧a.eval y=.int k m:=by
 unfold oG at h
 cases x with
 | none=>simp at h;exact .inl ⟨rfl,h.symm⟩
 | some y =>
  simp only at h
  split at h
  ·rename_i k q e
   cases h;exact .inr ⟨y,k,rfl,s.val e⟩
  ·cases h
theorem Qt.pK {x:Operand} {lo hi:Option Operand} {X e sz:Nat} {l:List (List A)} {m n:Int} [i:eY P X e sz] (h:aN f x=some (.c (.r sz l))) (Dm:oG f lo 0=some m) (Dn:oG f hi l.length=some n) (h1:0≤m) (h2:m≤n) (h3:n≤l.length):Qt P c [] ⟨t,.slice X x lo hi none,T,ps,af,gd⟩ f L (.c (.r sz ((l.take n.toNat).drop m.toNat))):=⟨fun a w s=>by
 have r:=s.ev h;unfold RD RA at r;obtain ⟨ao,cap,hx,g1,g2,g3⟩:=r;have hn:n.toNat≤l.length:=by omega
 refine ⟨.slice (if cap=m.toNat then ao else ao.map (·.add (m.toNat * sz))) (n.toNat - m.toNat) (cap - m.toNat),?_,fun w' k=>?_⟩
 ·unfold RD RA;refine ⟨if cap=m.toNat then ao else ao.map (·.add (m.toNat * sz)),cap - m.toNat,by simp [hn],by simp;omega,by omega,?_⟩
  by_cases hz:((l.take n.toNat).drop m.toNat)=[]
  ·exact .inl hz
  ·have br:l≠[]:=fun e=>hz (by simp [e])
   rcases g3 with g3 | ⟨g,off,rfl,g5,g6,g7⟩
   ·exact absurd g3 br
   ·have cA:m.toNat < cap:=by
     rcases Nat.lt_or_ge m.toNat cap with h | h
     ·exact h
     ·exact absurd (List.eq_nil_of_length_eq_zero (by simp;omega)) hz
    refine .inr ⟨g,off + m.toNat * sz,by rw [if_neg (by omega)];simp [Addr.add_mid],g5,g6,?_⟩;exact (g7.take n.toNat).drop m.toNat
 ·have Dp:∀ w,(match lo.map a.eval with | some v=>Instr.sliceBound v n.toNat .sliceB | none=>pure 0:Sem Nat).run P w=.ok m.toNat w:=fun w=>by
   rcases oG.run s Dm with ⟨rfl,rfl⟩ | ⟨y,kd,rfl,hy⟩
   ·simp
   ·simp only [Option.map_some,hy,Instr.sliceBound,asIntOf,Sem.run_bind,Sem.run_pure,Result.andThen_ok];rw [if_pos ⟨h1,by omega⟩];rfl
  have Dq:∀ w,(match hi.map a.eval,(none:Option Value) with | some v,some _=>Instr.sliceBound v cap .slice3B | some v,none=>Instr.sliceBound v cap (if true then .sliceAcap else .sliceAlen) | none,none=>pure l.length | none,some _=>stuck "Slice: max without high":Sem Nat).run P w=.ok n.toNat w:=fun w=>by
   rcases oG.run s Dn with ⟨rfl,rfl⟩ | ⟨y,kd,rfl,hy⟩
   ·simp
   ·simp only [Option.map_some,hy,Instr.sliceBound,asIntOf,Sem.run_bind,Sem.run_pure,Result.andThen_ok];rw [if_pos ⟨by omega,by omega⟩];rfl
  have Dr:∀ w,(Instr.sliceBounds true l.length cap (lo.map a.eval) (hi.map a.eval) none).run P w=.ok (m.toNat,n.toNat,cap) w:=fun w=>by
   unfold Instr.sliceBounds;simp only [Sem.run_bind,Sem.run_pure,Result.andThen_ok,Option.isSome_none,Bool.false_eq_true,↓reduceIte];have a1:=Dq w;have a2:=Dp w
   cases Ds:hi.map a.eval <;> cases Dt:lo.map a.eval <;> rw [Ds] at a1 <;> rw [Dt] at a2 <;> simp only [↓reduceIte,Sem.run_pure,Result.ok.injEq,and_true] at a1 a2 <;> simp [Sem.run_bind,a1,a2]
  simp only [execOp,Option.map_none,Instr.sliceAt,Instr.slice,hx,Sem.run_bind,run_underlying (kU.jW i.h),Result.andThen_ok,Dr,iO.run i.s,Sem.run_pure]⟩
theorem Qt.eq {U:List Nat} {o:Oper} {d d':D} (q:Qt P c U o f L d) (h:d=d'):Qt P c U o f L d':=h ▸ q
theorem fJ {n:Int} (h1:-9223372036854775808≤n) (h2:n≤9223372036854775807):IntKind.i64.wrap n=n:=IntWalk.i64_in n ⟨h1,h2⟩
end
section
variable {P:Program} {c:Cx} {k:List Item} {f:Fm} {L L2:List ai} {o:Oper}
theorem qL (hp:L2.Perm L) (x:Nat):x∈aO L2↔x∈aO L:=by
 rw [c9,c9];exact ⟨fun ⟨q,hq,hx⟩=>⟨q,hp.mem_iff.1 hq,hx⟩,fun ⟨q,hq,hx⟩=>⟨q,hp.mem_iff.2 hq,hx⟩⟩
theorem St.perm (hp:L2.Perm L) {a:Act} {w:World} (s:St c f L a w):St c f L2 a w:=by
 have ho:bh c L2=bh c L:=by
  funext x;unfold bh;rw [qL hp]
 exact ⟨s.kp,s.size,s.jT,fun q hq=>by rw [ho];exact s.res q (hp.mem_iff.1 hq),fun x hx=>s.fN x ((qL hp x).1 hx),(hp.pairwise_iff (fun {x y} lI z hz qz=>lI z qz hz)).2 s.ap,fun u d hu=>by rw [ho];exact s.fr u d hu⟩
theorem Ld.perm (hp:L2.Perm L) {S:List Nat} {ι:Type} {f':ι→Fm} {L':ι→List ai} (h:Ld P c o f L2 S f' L'):Ld P c o f L S f' L':=⟨fun a w s K Q hK =>
 h.go a w (s.perm hp) K Q fun x v w' kp sx hf=>hK x v w' kp sx fun y hy=>by
  rcases hf y hy with h | h
  ·exact .inl ((qL hp y).1 h)
  ·exact .inr h⟩
theorem Du {r:ai} {i:Nat} {L':List ai} (h:L[i]?=some r) (e:L.eraseIdx i=L'):(r :: L').Perm L:=e ▸ rV L i h
variable {T X:TypeId} {ps:String} {af:Array Edge} {gd:Option (Nat × Bool)} {t:Nat} {e sz bytes i:Nat} {z:Value} {x y:Operand} {v:Value} {l1 l2:List (List A)} {L':List ai} {d2:D}
theorem ng.cR {j e':Nat} {u:Value} {m:List (List A)} [bx:gz L' u e' sz m j]:ng L' sz (.c (.v u)) m:=.own j bx.h
theorem Ld.bY [E:gB P X e sz bytes z] [bx:gz L v e sz l1 i] [er:mu L i L'] (ht:t < c.N) (h1:aN f x=some (.c (.v v))) (h2:aN f y=some d2) (hs:ng L' sz d2 l2) (hb:(l1.length + l2.length) * bytes≤140737488355328) :
  Ld P c ⟨some t,.call ⟨.builtin .append,#[x,y],#[X,X]⟩,T,ps,af,gd⟩ f L (cW v) (fun v':Value=>(t,.c (.v v')) :: f) (fun v'=>.row v' e sz (l1 ++ l2) :: L') :=
 Ld.perm (Du bx.h er.h) (Ld.De ht h1 (.own rfl) h2 hs hb)
theorem Ld.fK [E:gB P X e sz bytes z] [bx:gz L v e sz l1 i] [er:mu L i L'] (ht:t < c.N) (h1:aN f x=some (.c (.v v))) (h2:aN f y=some d2) (hs:ng L' sz d2 l2) (hb:(l1.length + l2.length) * bytes≤140737488355328) :
  Ld P c ⟨some t,.call ⟨.builtin .append,#[x,y],#[X,X]⟩,T,ps,af,gd⟩ f L (cW v) (fun _:Unit=>(t,.c (.r sz (l1 ++ l2))) :: f) (fun _=>L') :=
 Ld.perm (Du bx.h er.h) (Ld.G8 ht h1 (.own rfl) h2 hs hb)
theorem Ld.xy [E:gB P X e sz bytes z] (ht:t < c.N) (h1:aN f x=some (.c (.v (.slice none 0 0)))) (h2:aN f y=some d2) (hs:ng L sz d2 l2) (hb:l2.length * bytes≤140737488355328) :
  Ld P c ⟨some t,.call ⟨.builtin .append,#[x,y],#[X,X]⟩,T,ps,af,gd⟩ f L (cW (.slice none 0 0)) (fun v':Value=>(t,.c (.v v')) :: f) (fun v'=>.row v' e sz l2 :: L) :=
 Ld.De ht h1 .nil h2 hs (by simpa using hb)
theorem Ld.gE [E:gB P X e sz bytes z] (ht:t < c.N) (h1:aN f x=some (.c (.v (.slice none 0 0)))) (h2:aN f y=some d2) (hs:ng L sz d2 l2) (hb:l2.length * bytes≤140737488355328) :
  Ld P c ⟨some t,.call ⟨.builtin .append,#[x,y],#[X,X]⟩,T,ps,af,gd⟩ f L (cW (.slice none 0 0)) (fun _:Unit=>(t,.c (.r sz l2)) :: f) (fun _=>L) :=
 Ld.G8 ht h1 .nil h2 hs (by simpa using hb)
end
section
variable {P:Program} {c:Cx} {k:List Item} {f:Fm} {L:List ai}
theorem J.aU {f':Fm} (h:J P c k f' L) (ho:uS f f'):J P c k f L:=J.only f' ho h
theorem J.dZ {L':List ai} (e:L'=L) (h:J P c k f L'):J P c k f L:=e ▸ h
theorem J.jE (t:Nat) {v:Value} {e sz i:Nat} {l:List (List A)} {L':List ai} [bx:gz L v e sz l i] [er:mu L i L'] (h1:look f t=some (.c (.v v))) (h:J P c k ((t,.c (.r sz l)) :: f) L'):J P c k f L:=⟨fun a w s=>by
 have hp:(ai.row v e sz l :: L').Perm L:=by rw [← er.h];exact rV L i bx.h
 have hm:∀ x,x∈aO (ai.row v e sz l :: L')↔x∈aO L:=fun x=>by
  rw [c9,c9];exact ⟨fun ⟨q,hq,hx⟩=>⟨q,hp.mem_iff.1 hq,hx⟩,fun ⟨q,hq,hx⟩=>⟨q,hp.mem_iff.2 hq,hx⟩⟩
 have ho:bh c (ai.row v e sz l :: L')=bh c L:=by
  funext x;unfold bh;rw [hm]
 have s1:St c ((t,.c (.v v)) :: f) (ai.row v e sz l :: L') a w:=by
  refine ⟨s.kp,s.size,s.jT,fun q hq=>by rw [ho];exact s.res q (hp.mem_iff.1 hq),fun x hx=>s.fN x ((hm x).1 hx),(hp.pairwise_iff (fun {x y} lI z hz qz=>lI z qz hz)).2 s.ap,fun u d hu=>?_⟩;rw [ho]
  by_cases e1:t=u
  ·subst e1;rw [rW] at hu;cases hu;exact s.fr t _ h1
  ·rw [uV e1] at hu;exact s.fr u d hu
 exact h.go a w s1.freeze⟩
end
namespace K
section
variable {P:Program} {c:Cx} {k:List Item} {f:Fm} {L:List ai} {ops:Array Oper} {l:List Oper} {t:Option Tmp} {T:TypeId} {ps:String} {af:Array Edge} {gd:Option (Nat × Bool)}
theorem load {X:TypeId} {x:Operand} (h:JO P c ops (⟨t,.load X x,T,ps,af,gd⟩ :: l) k f L):JO P c ops (⟨t,.load X x,T,ps,af,gd⟩ :: l) k f L:=h
theorem store {X:TypeId} {x y:Operand} (h:JO P c ops (⟨t,.store X x y,T,ps,af,gd⟩ :: l) k f L):JO P c ops (⟨t,.store X x y,T,ps,af,gd⟩ :: l) k f L:=h
theorem move {x:Operand} (h:JO P c ops (⟨t,.move x,T,ps,af,gd⟩ :: l) k f L):JO P c ops (⟨t,.move x,T,ps,af,gd⟩ :: l) k f L:=h
theorem assign {x:Operand} (h:JO P c ops (⟨t,.assign x,T,ps,af,gd⟩ :: l) k f L):JO P c ops (⟨t,.assign x,T,ps,af,gd⟩ :: l) k f L:=h
theorem fieldAddr {X:TypeId} {x:Operand} {n:Nat} (h:JO P c ops (⟨t,.fieldAddr X x n,T,ps,af,gd⟩ :: l) k f L):JO P c ops (⟨t,.fieldAddr X x n,T,ps,af,gd⟩ :: l) k f L:=h
theorem indexAddr {X:TypeId} {x y:Operand} (h:JO P c ops (⟨t,.indexAddr X x y,T,ps,af,gd⟩ :: l) k f L):JO P c ops (⟨t,.indexAddr X x y,T,ps,af,gd⟩ :: l) k f L:=h
theorem binOp {b:BinOp} {X Y:TypeId} {x y:Operand} (h:JO P c ops (⟨t,.binOp b X x y Y,T,ps,af,gd⟩ :: l) k f L):JO P c ops (⟨t,.binOp b X x y Y,T,ps,af,gd⟩ :: l) k f L:=h
theorem unOp {b:UnOp} {X:TypeId} {x:Operand} (h:JO P c ops (⟨t,.unOp b X x,T,ps,af,gd⟩ :: l) k f L):JO P c ops (⟨t,.unOp b X x,T,ps,af,gd⟩ :: l) k f L:=h
theorem call {x:Operand} {eP:Array Operand} {tys:Array TypeId} (h:JO P c ops (⟨t,.call ⟨.value x,eP,tys⟩,T,ps,af,gd⟩ :: l) k f L):JO P c ops (⟨t,.call ⟨.value x,eP,tys⟩,T,ps,af,gd⟩ :: l) k f L:=h
theorem bi {b:Builtin} {eP:Array Operand} {tys:Array TypeId} (h:JO P c ops (⟨t,.call ⟨.builtin b,eP,tys⟩,T,ps,af,gd⟩ :: l) k f L):JO P c ops (⟨t,.call ⟨.builtin b,eP,tys⟩,T,ps,af,gd⟩ :: l) k f L:=h
theorem extract {x:Operand} {n:Nat} (h:JO P c ops (⟨t,.extract x n,T,ps,af,gd⟩ :: l) k f L):JO P c ops (⟨t,.extract x n,T,ps,af,gd⟩ :: l) k f L:=h
theorem build {X:TypeId} {eP:Array (Nat × Operand)} (h:JO P c ops (⟨t,.build X eP,T,ps,af,gd⟩ :: l) k f L):JO P c ops (⟨t,.build X eP,T,ps,af,gd⟩ :: l) k f L:=h
theorem lit {X:TypeId} {n:Nat} {eP:Array (Nat × Operand)} (h:JO P c ops (⟨t,.buildSlice X n eP,T,ps,af,gd⟩ :: l) k f L):JO P c ops (⟨t,.buildSlice X n eP,T,ps,af,gd⟩ :: l) k f L:=h
theorem slice {X:TypeId} {x:Operand} {lo hi mx:Option Operand} (h:JO P c ops (⟨t,.slice X x lo hi mx,T,ps,af,gd⟩ :: l) k f L):JO P c ops (⟨t,.slice X x lo hi mx,T,ps,af,gd⟩ :: l) k f L:=h
theorem pick {x y z:Operand} (h:JO P c ops (⟨t,.pick x y z,T,ps,af,gd⟩ :: l) k f L):JO P c ops (⟨t,.pick x y z,T,ps,af,gd⟩ :: l) k f L:=h
theorem nilCheck {x:Operand} (h:JO P c ops (⟨t,.nilCheck x,T,ps,af,gd⟩ :: l) k f L):JO P c ops (⟨t,.nilCheck x,T,ps,af,gd⟩ :: l) k f L:=h
theorem convert {X Y:TypeId} {x:Operand} (h:JO P c ops (⟨t,.convert X Y x,T,ps,af,gd⟩ :: l) k f L):JO P c ops (⟨t,.convert X Y x,T,ps,af,gd⟩ :: l) k f L:=h
theorem field {X:TypeId} {x:Operand} {n:Nat} (h:JO P c ops (⟨t,.field X x n,T,ps,af,gd⟩ :: l) k f L):JO P c ops (⟨t,.field X x n,T,ps,af,gd⟩ :: l) k f L:=h
theorem make {X:TypeId} {x y:Operand} (h:JO P c ops (⟨t,.makeSlice X x y,T,ps,af,gd⟩ :: l) k f L):JO P c ops (⟨t,.makeSlice X x y,T,ps,af,gd⟩ :: l) k f L:=h
end
end K
end Fl
end Go.Proofs.YtofnbflkhgammaaGreat
