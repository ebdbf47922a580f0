/-
  What the laws need, part Q3.
  Conditions: none.
-/
import Derived.Test.YtdibmkjoaghafaaQ2
set_option linter.unusedVariables false
set_option linter.unusedSimpArgs false
set_option linter.unnecessarySimpa false
set_option maxHeartbeats 2000000
namespace Go.Proofs.Ytdibmkjoaghafaa
open Go.RowKit
namespace Fl
def fieldOff (P:Program) (T:TypeId) (k:Nat):Option Nat:=match P.underlying T with
 | some (.struct fs)=>match fs[k]? with
  | some f=>match P.info? f.type with
   | some i=>if i.size=0 then none else some f.offset
   | none=>none
  | none=>none
 | _=>none
def tySize (P:Program) (T:TypeId):Option Nat:=(P.info? T).map (·.size)
def tyAgg (P:Program) (T:TypeId):Option Bool:=match P.underlying T with
 | some (.struct _) | some (.array _ _)=>some true
 | some _=>some false
 | none=>none
def tyElem (P:Program) (T:TypeId):Option TypeId:=match P.underlying T with
 | some (.slice e)=>some e
 | _=>none
def tyZero (P:Program) (T:TypeId):Option (List Value):=(P.info? T).bind (fun i=>i.zero.map (·.cells.toList))
def tyInt (P:Program) (T:TypeId):Option IntKind:=match P.underlying T with
 | some (.int k)=>some k
 | _=>none
class TyF (P:Program) (T:TypeId) (k:Nat) (off:outParam Nat):Prop where h:fieldOff P T k=some off:=by kernel_rfl
class TyV (P:Program) (T:TypeId):Prop where h:tyAgg P T=some false:=by kernel_rfl
class TyA (P:Program) (T:TypeId) (n:outParam Nat):Prop where
 h:tyAgg P T=some true:=by kernel_rfl
 s:tySize P T=some n:=by kernel_rfl
class TyS (P:Program) (T:TypeId) (e:outParam TypeId) (sz:outParam Nat):Prop where
 h:tyElem P T=some e:=by kernel_rfl
 s:tySize P e=some sz:=by kernel_rfl
class TyN (P:Program) (T:TypeId) (n:outParam Nat):Prop where h:tySize P T=some n:=by kernel_rfl
class TyZ (P:Program) (T:TypeId) (zs:outParam (List Value)):Prop where h:tyZero P T=some zs:=by kernel_rfl
def tyBool (P:Program) (T:TypeId):Bool:=match P.underlying T with
 | some .bool=>true
 | _=>false
class TyB (P:Program) (T:TypeId):Prop where h:tyBool P T=true:=by kernel_rfl
class TyI (P:Program) (T:TypeId) (k:outParam IntKind):Prop where h:tyInt P T=some k:=by kernel_rfl
section
variable {P:Program}
theorem fieldOff.run {T k off:Nat} (h:fieldOff P T k=some off) (w:World) (b o:Nat):(Instr.fieldAt T (.pointer (some ⟨b,o,none⟩)) k).run P w=.ok (.pointer (some ⟨b,o + off,none⟩)) w:=by
 unfold fieldOff at h
 cases hu:P.underlying T with
 | none=>rw [hu] at h;cases h
 | some d =>
  rw [hu] at h
  cases d with
  | struct fs =>
   simp only at h
   cases hf:fs[k]? with
   | none=>rw [hf] at h;cases h
   | some f =>
    rw [hf] at h;simp only at h
    cases hi:P.info? f.type with
    | none=>rw [hi] at h;cases h
    | some i =>
     rw [hi] at h;simp only at h
     by_cases hz:i.size=0
     ·rw [if_pos hz] at h;cases h
     ·rw [if_neg hz] at h;cases h;simp [Instr.fieldAt,Sem.run_bind,run_underlying hu,hf,Instr.sureAddr,fieldPlace,sizeOf,typeInfo,hi,hz,Addr.add_mid]
  | _=>cases h
theorem tyAgg.runT {T:Nat} (h:tyAgg P T=some true) (w:World):(isAgg T).run P w=.ok true w:=by
 unfold tyAgg at h
 cases hu:P.underlying T with
 | none=>rw [hu] at h;cases h
 | some d=>rw [hu] at h;unfold isAgg;rw [Sem.run_bind,run_underlying hu w];cases d <;> first | rfl | (cases h;done)
theorem tyAgg.runF {T:Nat} (h:tyAgg P T=some false) (w:World):(isAgg T).run P w=.ok false w:=by
 unfold tyAgg at h
 cases hu:P.underlying T with
 | none=>rw [hu] at h;cases h
 | some d=>rw [hu] at h;unfold isAgg;rw [Sem.run_bind,run_underlying hu w];cases d <;> first | rfl | (cases h;done)
theorem tySize.run {T n:Nat} (h:tySize P T=some n) (w:World):(sizeOf T).run P w=.ok n w:=by
 unfold tySize at h
 cases hu:P.info? T with
 | none=>rw [hu] at h;cases h
 | some i=>rw [hu] at h;simp at h;simp [sizeOf,typeInfo,Sem.run_bind,hu,h]
theorem tyElem.und {T e:Nat} (h:tyElem P T=some e):P.underlying T=some (.slice e):=by
 unfold tyElem at h
 cases hu:P.underlying T with
 | none=>rw [hu] at h;cases h
 | some d=>rw [hu] at h;cases d <;> first | (cases h;rfl) | (cases h;done)
theorem tyBool.und {T:Nat} (h:tyBool P T=true):P.underlying T=some .bool:=by
 unfold tyBool at h
 cases hu:P.underlying T with
 | none=>rw [hu] at h;cases h
 | some d=>rw [hu] at h;cases d <;> first | rfl | (cases h;done)
theorem run_eqBool {X:Nat} (hu:P.underlying X=some .bool) (w:World) (m n:Bool):(Op.equal X (.bool m) (.bool n)).run P w=.ok (m == n) w:=by
 unfold Op.equal;rw [show Op.maxDepth=9999 + 1 from rfl,Op.equalIn];simp [Sem.run_bind,run_underlying hu]
theorem tyInt.und {T:Nat} {k:IntKind} (h:tyInt P T=some k):P.underlying T=some (.int k):=by
 unfold tyInt at h
 cases hu:P.underlying T with
 | none=>rw [hu] at h;cases h
 | some d=>rw [hu] at h;cases d <;> first | (cases h;rfl) | (cases h;done)
end
section
variable (P:Program) (c:Cx)
structure Later (L:List Res) (U:List Nat) (w w':World):Prop where
 go:∃ T,Keeps T w w'∧(∀ x∈T,x∈foots L)∧∀ x∈T,∀ j∈U,∀ r,L[j]?=some r→x∉r.foot
theorem Later.now (L:List Res) (U:List Nat) (w:World):Later L U w w:=⟨[],Keeps.refl _ _,by simp,by simp⟩
structure Qt (U:List Nat) (o:Oper) (f:Fm) (L:List Res) (d:D):Prop where
 go:∀ a w,St c f L a w→∃ v,RD (okk c L) w d v∧∀ w',Later L U w w'→(execOp a.eval o).run P w'=.ok (.value v) w'
def Wants (ops:Array Oper) (o:Oper) (f:Fm):Bool:=match o.guard with
 | none=>true
 | some (j,b)=>match (ops[j]?).bind (·.dst) with
  | none=>false
  | some t=>match look f t with
   | some (.c (.v (.bool b')))=>b == b'
   | _=>false
def Wants0 (ops:Array Oper) (o:Oper) (f:Fm):Bool:=match o.guard with
 | none=>false
 | some (j,b)=>match (ops[j]?).bind (·.dst) with
  | none=>false
  | some t=>match look f t with
   | some (.c (.v (.bool b')))=>b != b'
   | some (.tup _)=>true
   | _=>false
structure JO (ops:Array Oper) (l:List Oper) (k:List Item) (f:Fm) (L:List Res):Prop where
 go:∀ a w,St c f L a w→wpList P ops (fun e a' w'=>e=.normal∧Run P c k a' w') l a w
end
section
variable {P:Program} {c:Cx} {k:List Item} {f:Fm} {L:List Res} {ops:Array Oper} {l:List Oper} {o:Oper}
theorem Wants.run (h:Wants ops o f=true) {a:Act} {w:World} (s:St c f L a w):Region.wanted o (yielded ops a.tmps)=true:=by
 unfold Wants at h;unfold Region.wanted
 cases hg:o.guard with
 | none=>rfl
 | some p =>
  obtain ⟨j,b⟩:=p;rw [hg] at h;simp only at h ⊢;unfold yielded
  cases hd:(ops[j]?).bind (·.dst) with
  | none=>rw [hd] at h;cases h
  | some t =>
   rw [hd] at h;simp only at h
   cases hl:look f t with
   | none=>rw [hl] at h;cases h
   | some d =>
    have hr:=s.fr t d hl;rw [hl] at h
    cases d with
    | c x=>cases x with
     | v y=>cases y with
      | bool b' =>
       unfold RD RA at hr;simp at h;subst h;obtain ⟨h1,_⟩:=hr;rw [Array.getD_eq_getD_getElem?] at h1
       cases ht:a.tmps[t]? with
       | none=>rw [ht] at h1;cases h1
       | some z=>rw [ht] at h1;simp at h1;subst h1;simp [ht]
      | _=>cases h
     | r _ _=>cases h
    | _=>cases h
theorem Wants0.run (h:Wants0 ops o f=true) {a:Act} {w:World} (s:St c f L a w):Region.wanted o (yielded ops a.tmps)=false:=by
 unfold Wants0 at h;unfold Region.wanted
 cases hg:o.guard with
 | none=>rw [hg] at h;cases h
 | some p =>
  obtain ⟨j,b⟩:=p;rw [hg] at h;simp only at h ⊢;unfold yielded
  cases hd:(ops[j]?).bind (·.dst) with
  | none=>rw [hd] at h;cases h
  | some t =>
   rw [hd] at h;simp only at h
   cases hl:look f t with
   | none=>rw [hl] at h;cases h
   | some d =>
    have hr:=s.fr t d hl;rw [hl] at h
    cases d with
    | c x=>cases x with
     | v y=>cases y with
      | bool b' =>
       unfold RD RA at hr;obtain ⟨h1,_⟩:=hr;rw [Array.getD_eq_getD_getElem?] at h1
       cases ht:a.tmps[t]? with
       | none=>rw [ht] at h1;cases h1
       | some z=>rw [ht] at h1;simp at h1;subst h1;simp [ht];intro e;subst e;simp at h
      | _=>cases h
     | r _ _=>cases h
    | tup q =>
     unfold RD at hr;obtain ⟨vs,h1,_⟩:=hr;rw [Array.getD_eq_getD_getElem?] at h1
     cases ht:a.tmps[t]? with
     | none=>simp [ht]
     | some z=>rw [ht] at h1;simp at h1;subst h1;simp [ht]
    | _=>cases h
theorem look_cons_eq (t:Nat) (d:D) (f:Fm):look ((t,d) :: f) t=some d:=by simp [look,Nat.beq_refl]
theorem look_cons_ne {t u:Nat} (h:t≠u) (d:D) (f:Fm):look ((t,d) :: f) u=look f u:=by
 have:Nat.beq t u=false:=by
  cases hb:Nat.beq t u with
  | false=>rfl
  | true=>exact absurd (Nat.eq_of_beq_eq_true hb) h
 simp [look,this]
theorem St.put {L':List Res} {a:Act} {w w':World} {t:Nat} {d:D} {v:Value} (s:St c f L a w) (ht:t < c.N) (hd:RD (okk c L') w' d v) (kp:Keeps c.lent c.e w') (res:∀ r∈L',r.holds (okk c L') w') (frm:∀ x∈foots L',x∈c.lent∨c.e.heap.size≤x) (ap:Apart L') (m:Mon (okk c L) (okk c L') w w') :
  St c ((t,d) :: f) L' (a.put (some t) v) w':=by
 refine ⟨kp,by simp [Act.put,s.size],s.dfr,res,frm,ap,fun u e hu=>?_⟩
 by_cases e1:t=u
 ·subst e1;rw [look_cons_eq] at hu;cases hu;have:(a.put (some t) v).tmps.getD t undef=v:=by
   have:=s.size;simp [Act.put,Array.getD_eq_getD_getElem?,Array.getElem?_setIfInBounds,this,ht]
  rw [this];exact hd
 ·rw [look_cons_ne e1] at hu;have:(a.put (some t) v).tmps.getD u undef=a.tmps.getD u undef:=by
   simp [Act.put,Array.getD_eq_getD_getElem?,Array.getElem?_setIfInBounds_ne e1]
  rw [this];exact RD.mon m e _ (s.fr u e hu)
theorem St.put0 {a:Act} {w:World} {t:Nat} {d:D} {v:Value} (s:St c f L a w) (ht:t < c.N) (hd:RD (okk c L) w d v):St c ((t,d) :: f) L (a.put (some t) v) w :=
 s.put ht hd s.kp s.res s.frm s.ap (Mon.refl _ _)
theorem JO.nil (h:J P c k f L):JO P c ops [] k f L:=⟨fun a w s=>wpList_nil ⟨rfl,h.go a w s⟩⟩
theorem J.region {id:Nat} (h:JO P c l.toArray l k f L) (hd:ndf c l=true:=by rfl):J P c (.code (.region id l.toArray false) :: k) f L:=⟨fun a w s=>Run.wp (by
 rcases ndf.cases hd with e | e
 ·exact ndf.none e (wp_region_lit (h.go a w s))
 ·exact region_round e noOut (h.go a w s))⟩
theorem JO.q {t:Nat} {d:D} (hd:o.dst=some t) (hw:Wants ops o f=true) (ht:t < c.N) {U:List Nat} (q:Qt P c U o f L d) (h:JO P c ops l k ((t,d) :: f) L):JO P c ops (o :: l) k f L:=⟨fun a w s=>by
 obtain ⟨v,h1,h2⟩:=q.go a w s;refine wpList_step fun K hK=>?_
 rw [Wants.run hw s];simp only [↓reduceIte,Oper.wp,h2 w (Later.now _ _ _),Oper.upon];exact hK _ _ (h.go _ _ (by rw [hd];exact s.put0 ht h1))⟩
theorem JO.no {t:Nat} (hd:o.dst=some t) (hw:Wants0 ops o f=true) (ht:t < c.N) (h:JO P c ops l k ((t,.tup []) :: f) L):JO P c ops (o :: l) k f L:=⟨fun a w s=>by
 refine wpList_step fun K hK=>?_
 rw [Wants0.run hw s];simp only [Bool.false_eq_true,↓reduceIte];exact hK _ _ (h.go _ _ (by rw [hd];exact s.put0 ht (by unfold RD;exact ⟨[],rfl,rfl⟩)))⟩
end
class BoxAt (L:List Res) (b:Nat) (t:outParam TypeId) (cs:outParam (List A)) (i:outParam Nat):Prop where h:L[i]?=some (.box b t cs)
class RowAt (L:List Res) (v:Value) (e:outParam TypeId) (sz:outParam Nat) (l:outParam (List (List A))) (i:outParam Nat):Prop where h:L[i]?=some (.row v e sz l)
instance BoxAt.succ {q:Res} {M:List Res} {b:Nat} {t:TypeId} {cs:List A} {i:Nat} [h:BoxAt M b t cs i]:BoxAt (q :: M) b t cs (i + 1):=⟨by simpa using h.h⟩
instance BoxAt.zero {M:List Res} {b:Nat} {t:TypeId} {cs:List A}:BoxAt (.box b t cs :: M) b t cs 0:=⟨rfl⟩
instance RowAt.succ {q:Res} {M:List Res} {v:Value} {e:TypeId} {sz:Nat} {l:List (List A)} {i:Nat} [h:RowAt M v e sz l i]:RowAt (q :: M) v e sz l (i + 1):=⟨by simpa using h.h⟩
instance RowAt.zero {M:List Res} {v:Value} {e:TypeId} {sz:Nat} {l:List (List A)}:RowAt (.row v e sz l :: M) v e sz l 0:=⟨rfl⟩
class SetAt (L:List Res) (i:Nat) (r:Res) (L':outParam (List Res)):Prop where h:L.set i r=L'
instance SetAt.succ {q r:Res} {M M':List Res} {i:Nat} [h:SetAt M i r M']:SetAt (q :: M) (i + 1) r (q :: M'):=⟨by rw [List.set_cons_succ,h.h]⟩
instance SetAt.zero {q r:Res} {M:List Res}:SetAt (q :: M) 0 r (r :: M):=⟨rfl⟩
class EraseAt (L:List Res) (i:Nat) (L':outParam (List Res)):Prop where h:L.eraseIdx i=L'
instance EraseAt.succ {q:Res} {M M':List Res} {i:Nat} [h:EraseAt M i M']:EraseAt (q :: M) (i + 1) (q :: M'):=⟨by rw [List.eraseIdx_cons_succ,h.h]⟩
instance EraseAt.zero {q:Res} {M:List Res}:EraseAt (q :: M) 0 M:=⟨rfl⟩
section
variable {P:Program} {c:Cx} {f:Fm} {L:List Res} {t:Option Tmp} {T:TypeId} {ps:String} {af:Array Edge} {gd:Option (Nat × Bool)}
theorem Qt.move {x:Operand} {d:D} (h:evD f x=some d):Qt P c [] ⟨t,.move x,T,ps,af,gd⟩ f L d:=⟨fun a w s=>⟨_,s.ev h,fun w' k=>rfl⟩⟩
theorem Qt.assign {x:Operand} {d:D} (h:evD f x=some d):Qt P c [] ⟨t,.assign x,T,ps,af,gd⟩ f L d:=⟨fun a w s=>⟨_,s.ev h,fun w' k=>rfl⟩⟩
def shift (n:Nat):D→Option D
 | .c (.v (.pointer (some ⟨b,o,none⟩)))=>some (.c (.v (.pointer (some ⟨b,o + n,none⟩))))
 | .el cs o=>some (.el cs (o + n))
 | .ow v sz k o=>some (.ow v sz k (o + n))
 | _=>none
theorem shift.rep {n:Nat} {d d':D} (h:shift n d=some d') {ok:Nat→Prop} {w:World} {x:Value} (r:RD ok w d x):∃ b o,x=.pointer (some ⟨b,o,none⟩)∧RD ok w d' (.pointer (some ⟨b,o + n,none⟩)):=by
 unfold shift at h
 split at h
 ·cases h;unfold RD RA at r ⊢;obtain ⟨rfl,_⟩:=r;exact ⟨_,_,rfl,rfl,rfl⟩
 ·cases h;unfold RD at r ⊢;obtain ⟨g,off,vs,rfl,h⟩:=r;exact ⟨_,_,rfl,g,off,vs,by rw [Nat.add_assoc],h⟩
 ·cases h;unfold RD at r ⊢;obtain ⟨g,off,m,cap,rfl,rfl⟩:=r;exact ⟨_,_,rfl,g,off,m,cap,rfl,by rw [Nat.add_assoc]⟩
 ·cases h
theorem Qt.fieldAddr {x:Operand} {X k off:Nat} {d d':D} [i:TyF P X k off] (h:evD f x=some d) (hs:shift off d=some d'):Qt P c [] ⟨t,.fieldAddr X x k,T,ps,af,gd⟩ f L d':=⟨fun a w s=>by
 obtain ⟨b,o,hx,hr⟩:=shift.rep hs (s.ev h);refine ⟨_,hr,fun w' k=>?_⟩;simp only [execOp,hx,Sem.run_bind,fieldOff.run i.h,Result.andThen_ok,Sem.run_pure]⟩
def ptrD:D→Bool
 | .c (.v (.pointer (some _)))=>true
 | .el _ _=>true
 | .ow _ _ _ _=>true
 | _=>false
theorem Qt.nilCheck {x:Operand} {d:D} (h:evD f x=some d) (hp:ptrD d=true):Qt P c [] ⟨t,.nilCheck x,T,ps,af,gd⟩ f L d:=⟨fun a w s=>by
 have r:=s.ev h;have:∃ p,a.eval x=.pointer (some p):=by
  unfold ptrD at hp
  split at hp
  ·unfold RD RA at r;exact ⟨_,r.1⟩
  ·unfold RD at r;obtain ⟨g,off,vs,h1,_⟩:=r;exact ⟨_,h1⟩
  ·unfold RD at r;obtain ⟨g,off,vs,cap,_,h1⟩:=r;exact ⟨_,h1⟩
  ·cases hp
 obtain ⟨p,hp⟩:=this;refine ⟨_,r,fun w' k=>?_⟩;simp only [execOp,hp,Sem.run_pure]⟩
inductive Cells (L:List Res):D→List A→Nat→List Nat→Prop
 | box (i:Nat) {b t cs o}:L[i]?=some (.box b t cs)→Cells L (.c (.v (.pointer (some ⟨b,o,none⟩)))) cs o [i]
 | el {cs o}:Cells L (.el cs o) cs o []
 | ow (i:Nat) {v e sz l k o cs}:L[i]?=some (.row v e sz l)→l[k]?=some cs→Cells L (.ow v sz k o) cs o [i]
theorem rangeAt_keepT {w w':World} {g off:Nat} {vs:List Value} {T:List Nat} (h:w.rangeAt g off vs) (k:Keeps T w w') (hg:g∉T):w'.rangeAt g off vs:=fun j v hj=>k.cell (h j v hj) hg
theorem Cells.rep {d:D} {cs:List A} {o:Nat} {U:List Nat} (h:Cells L d cs o U) {a:Act} {w:World} (s:St c f L a w) {x:Value} (r:RD (okk c L) w d x):∃ b off,∃ vs:List Value,x=.pointer (some ⟨b,off + o,none⟩)∧(∀ w',Later L U w w'→w'.rangeAt b off vs)∧RC (okk c L) w cs vs:=by
 cases h with
 | @box i b t _ _ hi =>
  obtain ⟨vs,h1,h2⟩:=s.res _ (List.mem_of_getElem? hi);unfold RD RA at r;exact ⟨b,0,vs,by rw [r.1,Nat.zero_add],fun w' ⟨T,k1,k2,k3⟩=>rangeAt_keepT h1.range k1 fun hm=>k3 b hm i (by simp) _ hi (by simp [Res.foot]),h2⟩
 | el=>unfold RD at r;obtain ⟨g,off,vs,h1,h2,h3,h4,h5⟩:=r;exact ⟨g,off,vs,h1,fun w' ⟨T,k1,k2,k3⟩=>rangeAt_keepT h4 k1 fun hm=>h2.2 (k2 g hm),h5⟩
 | @ow i v e sz l k _ _ hi hl =>
  obtain ⟨xs,h1,h2⟩:=s.res _ (List.mem_of_getElem? hi);unfold RD at r;obtain ⟨g,off,n,cap,rfl,hx⟩:=r;obtain ⟨vs,g1,g2,g3⟩:=h2.get k hl;have hk:k < l.length:=(List.getElem?_eq_some_iff.1 hl).1;obtain ⟨g',off',h5,h6,h7,h8,h9⟩:=h1.cells (by omega);obtain ⟨rfl,rfl⟩:=by simpa using h5
  have hfoot:g∈vfoot (.slice (some ⟨g,off,none⟩) n cap):=by simp [vfoot]
  refine ⟨g,off + k * sz,vs,hx,fun w' ⟨T,k1,k2,k3⟩=>rangeAt_keepT (fun j v hj=>?_) k1 fun hm=>k3 g hm i (by simp) _ hi hfoot,g3⟩;have hjs:j < sz:=by rw [← g1];exact (List.getElem?_eq_some_iff.1 hj).1
  have hlen:=RX.len h2;have hb:k * sz + j < xs.length:=by
   rw [hlen]
   calc k * sz + j < k * sz + sz:=by omega
    _=(k + 1) * sz:=by rw [Nat.add_mul];omega
    _≤l.length * sz:=Nat.mul_le_mul_right _ hk
  rw [Nat.add_assoc,h8 _ hb,g2 j hjs,hj]
theorem Qt.load1 {x:Operand} {X o:Nat} {d:D} {cs:List A} {e:A} {U:List Nat} [i:TyV P X] (h:evD f x=some d) (hc:Cells L d cs o U) (he:cs[o]?=some e):Qt P c U ⟨t,.load X x,T,ps,af,gd⟩ f L (.c e):=⟨fun a w s=>by
 obtain ⟨b,off,vs,hx,h1,h2⟩:=hc.rep s (s.ev h);obtain ⟨y,hy,hr⟩:=h2.get o he;refine ⟨y,by unfold RD;exact hr,fun w' k=>?_⟩;have hcell:=h1 w' k o y hy;have hl:(load ⟨b,off + o,none⟩).run P w'=.ok y w':=by simp [load,Sem.run,hcell]
 simp only [execOp,hx,Instr.loadAt,Instr.sureAddr,loadVar,Sem.run_bind,Sem.run_pure,Result.andThen_ok,tyAgg.runF i.h,Bool.false_eq_true,↓reduceIte,hl]⟩
theorem rangeAt_sub {w:World} {b off:Nat} {vs:List Value} (h:w.rangeAt b off vs) (o n:Nat):w.rangeAt b (off + o) ((vs.drop o).take n):=fun j v hj=>by
 rw [List.getElem?_take] at hj
 split at hj
 ·rw [List.getElem?_drop] at hj;rw [Nat.add_assoc];exact h (o + j) v hj
 ·cases hj
theorem Qt.loadN {x:Operand} {X o n:Nat} {d:D} {cs es:List A} {U:List Nat} [i:TyA P X n] (h:evD f x=some d) (hc:Cells L d cs o U) (he:(cs.drop o).take n=es) (hn:es.length=n):Qt P c U ⟨t,.load X x,T,ps,af,gd⟩ f L (.agg es):=⟨fun a w s=>by
 obtain ⟨b,off,vs,hx,h1,h2⟩:=hc.rep s (s.ev h);have h4:=(h2.drop o).take n;rw [he] at h4;refine ⟨.agg ((vs.drop o).take n).toArray,by unfold RD;exact ⟨_,rfl,h4⟩,fun w' k=>?_⟩;have hr:=rangeAt_sub (h1 w' k) o n;have hsz:=i.s;have hl:((vs.drop o).take n).length=n:=by rw [h4.len,hn]
 have hlc:(loadCells ⟨b,off + o,none⟩ ((vs.drop o).take n).length).run P w'=.ok ((vs.drop o).take n).toArray w' :=
  run_loadCells_list (P:=P) w' ⟨b,off + o,none⟩ _ (fun j v hv=>by rw [Addr.add_mid];exact hr j v hv)
 rw [hl] at hlc;simp only [execOp,hx,Instr.loadAt,Instr.sureAddr,loadVar,Sem.run_bind,Sem.run_pure,Result.andThen_ok,tyAgg.runT i.h,↓reduceIte,tySize.run i.s,hlc]⟩
theorem Qt.loadW {x:Operand} {X n:Nat} {d:D} {cs:List A} {U:List Nat} [i:TyA P X n] (h:evD f x=some d) (hc:Cells L d cs 0 U) (hn:cs.length=n):Qt P c U ⟨t,.load X x,T,ps,af,gd⟩ f L (.agg cs) :=
 Qt.loadN h hc (by subst hn;simp) hn
theorem Qt.load1b {x:Operand} {X b o B j:Nat} {cs:List A} {e:A} [i:TyV P X] [bx:BoxAt L b B cs j] (h:evD f x=some (.c (.v (.pointer (some ⟨b,o,none⟩))))) (he:cs[o]?=some e):Qt P c [j] ⟨t,.load X x,T,ps,af,gd⟩ f L (.c e):=Qt.load1 h (.box j bx.h) he
theorem Qt.loadWb {x:Operand} {X b B j n:Nat} {cs:List A} [i:TyA P X n] [bx:BoxAt L b B cs j] (h:evD f x=some (.c (.v (.pointer (some ⟨b,0,none⟩))))) (hn:cs.length=n):Qt P c [j] ⟨t,.load X x,T,ps,af,gd⟩ f L (.agg cs):=Qt.loadW h (.box j bx.h) hn
theorem Qt.loadNb {x:Operand} {X b o B j n:Nat} {cs es:List A} [i:TyA P X n] [bx:BoxAt L b B cs j] (h:evD f x=some (.c (.v (.pointer (some ⟨b,o,none⟩))))) (he:(cs.drop o).take n=es) (hn:es.length=n):Qt P c [j] ⟨t,.load X x,T,ps,af,gd⟩ f L (.agg es):=Qt.loadN h (.box j bx.h) he hn
theorem Qt.load1o {x:Operand} {X sz q o e j:Nat} {v:Value} {l:List (List A)} {cs:List A} {u:A} [i:TyV P X] [bx:RowAt L v e sz l j] (h:evD f x=some (.ow v sz q o)) (hq:l[q]?=some cs) (he:cs[o]?=some u):Qt P c [j] ⟨t,.load X x,T,ps,af,gd⟩ f L (.c u):=Qt.load1 h (.ow j bx.h hq) he
theorem Qt.loadWo {x:Operand} {X sz q e j n:Nat} {v:Value} {l:List (List A)} {cs:List A} [i:TyA P X n] [bx:RowAt L v e sz l j] (h:evD f x=some (.ow v sz q 0)) (hq:l[q]?=some cs) (hn:cs.length=n):Qt P c [j] ⟨t,.load X x,T,ps,af,gd⟩ f L (.agg cs):=Qt.loadW h (.ow j bx.h hq) hn
theorem Qt.indexR {x y:Operand} {X e sz:Nat} {kd:IntKind} {n:Int} {l:List (List A)} {cs:List A} [i:TyS P X e sz] (h:evD f x=some (.c (.r sz l))) (hy:evD f y=some (.c (.v (.int kd n)))) (hn:0≤n) (hk:l[n.toNat]?=some cs):Qt P c [] ⟨t,.indexAddr X x y,T,ps,af,gd⟩ f L (.el cs 0):=⟨fun a w s=>by
 have r:=s.ev h;have ry:=s.val hy;unfold RD RA at r;obtain ⟨ao,cap,hx,h1,h2,h3⟩:=r;have hlt:=(List.getElem?_eq_some_iff.1 hk).1;rcases h3 with rfl | ⟨g,off,rfl,hok,hg,hl⟩
 ·simp at hlt
 obtain ⟨vs,g1,g2,g3⟩:=hl.get _ hk;refine ⟨.pointer (some ⟨g,off + n.toNat * sz,none⟩),by unfold RD;exact ⟨g,_,vs,by rw [Nat.add_zero],hok,hg,g2,g3⟩,fun w' k=>?_⟩;have hb:0≤n∧n < (l.length:Int):=by omega
 simp only [execOp,hx,ry,Instr.indexAt,asIntOf,Sem.run_bind,Sem.run_pure,Result.andThen_ok,run_underlying (tyElem.und i.h),hb,and_self,↓reduceIte,tySize.run i.s,Addr.add_mid]⟩
theorem Qt.indexO {x y:Operand} {X e sz j:Nat} {kd:IntKind} {n:Int} {v:Value} {l:List (List A)} [i:TyS P X e sz] [bx:RowAt L v e sz l j] (h:evD f x=some (.c (.v v))) (hy:evD f y=some (.c (.v (.int kd n)))) (hn:0≤n) (hk:n < l.length):Qt P c [] ⟨t,.indexAddr X x y,T,ps,af,gd⟩ f L (.ow v sz n.toNat 0):=⟨fun a w s=>by
 have rx:=s.val h;have ry:=s.val hy;obtain ⟨xs,h1,h2⟩:=s.res _ (List.mem_of_getElem? bx.h);obtain ⟨ao,cap,rfl⟩:=h1.shape;obtain ⟨g,off,rfl,_⟩:=h1.cells (by omega);refine ⟨.pointer (some ⟨g,off + n.toNat * sz,none⟩),by unfold RD;exact ⟨g,off,_,cap,rfl,by rw [Nat.add_zero]⟩,fun w' k=>?_⟩;simp only [execOp,rx,ry,Instr.indexAt,asIntOf,Sem.run_bind,Sem.run_pure,Result.andThen_ok,run_underlying (tyElem.und i.h),hn,hk,and_self,↓reduceIte,tySize.run i.s,Addr.add_mid]⟩
def cmpI:BinOp→Int→Int→Option Bool
 | .eql,a,b=>some (a == b)
 | .neq,a,b=>some (a != b)
 | .lss,a,b=>some (decide (a < b))
 | .leq,a,b=>some (decide (a≤b))
 | .gtr,a,b=>some (decide (a > b))
 | .geq,a,b=>some (decide (a ≥ b))
 | _,_,_=>none
theorem Qt.cmp {op:BinOp} {x y:Operand} {X Y:Nat} {kd:IntKind} {m n:Int} {b:Bool} (h:evD f x=some (.c (.v (.int kd m)))) (hy:evD f y=some (.c (.v (.int kd n)))) (hb:cmpI op m n=some b):Qt P c [] ⟨t,.binOp op X x y Y,T,ps,af,gd⟩ f L (.c (.v (.bool b))):=⟨fun a w s=>by
 have rx:=s.val h;have ry:=s.val hy;refine ⟨.bool b,by unfold RD RA;exact ⟨rfl,rfl⟩,fun w' k=>?_⟩
 cases op <;> simp only [cmpI,Option.some.injEq,reduceCtorEq] at hb <;> subst hb <;> simp [execOp,rx,ry,eqGuard_at_int,binOp,Op.intCmp,Sem.run_bind]⟩
theorem Qt.eqB {x y:Operand} {X Y:Nat} {m n:Bool} [i:TyB P X] (h:evD f x=some (.c (.v (.bool m)))) (hy:evD f y=some (.c (.v (.bool n)))):Qt P c [] ⟨t,.binOp .eql X x y Y,T,ps,af,gd⟩ f L (.c (.v (.bool (m == n)))):=⟨fun a w s=>by
 have rx:=s.val h;have ry:=s.val hy;refine ⟨.bool (m == n),by unfold RD RA;exact ⟨rfl,rfl⟩,fun w' k=>?_⟩;have hu:=run_eqBool (tyBool.und i.h) w' m n;simp [execOp,rx,ry,eqGuard_at_bool,binOp,Sem.run_bind,hu,bne]⟩
theorem Qt.neB {x y:Operand} {X Y:Nat} {m n:Bool} [i:TyB P X] (h:evD f x=some (.c (.v (.bool m)))) (hy:evD f y=some (.c (.v (.bool n)))):Qt P c [] ⟨t,.binOp .neq X x y Y,T,ps,af,gd⟩ f L (.c (.v (.bool (m != n)))):=⟨fun a w s=>by
 have rx:=s.val h;have ry:=s.val hy;refine ⟨.bool (m != n),by unfold RD RA;exact ⟨rfl,rfl⟩,fun w' k=>?_⟩;have hu:=run_eqBool (tyBool.und i.h) w' m n;simp [execOp,rx,ry,eqGuard_at_bool,binOp,Sem.run_bind,hu,bne]⟩
def ariI:BinOp→Int→Int→Option Int
 | .add,a,b=>some (a + b)
 | .sub,a,b=>some (a - b)
 | .mul,a,b=>some (a * b)
 | _,_,_=>none
theorem Qt.ari {op:BinOp} {x y:Operand} {X Y:Nat} {kd:IntKind} {m n r r':Int} (h:evD f x=some (.c (.v (.int kd m)))) (hy:evD f y=some (.c (.v (.int kd n)))) (hr:ariI op m n=some r) (hf:kd.wrap r=r'):Qt P c [] ⟨t,.binOp op X x y Y,T,ps,af,gd⟩ f L (.c (.v (.int kd r'))):=⟨fun a w s=>by
 have rx:=s.val h;have ry:=s.val hy;subst hf;refine ⟨.int kd (kd.wrap r),by unfold RD RA;exact ⟨rfl,rfl⟩,fun w' k=>?_⟩
 cases op <;> simp only [ariI,Option.some.injEq,reduceCtorEq] at hr <;> subst hr <;> simp [execOp,rx,ry,eqGuard_at_int,binOp,Op.intArith,Sem.run_bind]⟩
theorem Qt.not {x:Operand} {X:Nat} {b:Bool} (h:evD f x=some (.c (.v (.bool b)))):Qt P c [] ⟨t,.unOp .not X x,T,ps,af,gd⟩ f L (.c (.v (.bool (!b)))):=⟨fun a w s=>by
 have rx:=s.val h;refine ⟨.bool (!b),by unfold RD RA;exact ⟨rfl,rfl⟩,fun w' k=>?_⟩;simp [execOp,rx,Op.unary,Sem.run_bind]⟩
theorem Qt.extract {x:Operand} {n:Nat} {l:List D} {d:D} (h:evD f x=some (.tup l)) (hn:l[n]?=some d):Qt P c [] ⟨t,.extract x n,T,ps,af,gd⟩ f L d:=⟨fun a w s=>by
 have r:=s.ev h;unfold RD at r;obtain ⟨vs,hx,hr⟩:=r;obtain ⟨y,hy,h2⟩:=hr.get n hn;refine ⟨y,h2,fun w' k=>?_⟩;simp [execOp,hx,Instr.extract,Sem.run_bind,hy]⟩
theorem Qt.lenR {x:Operand} {X sz:Nat} {l:List (List A)} {e sz':Nat} [i:TyS P X e sz'] (h:evD f x=some (.c (.r sz l))):Qt P c [] ⟨t,.call ⟨.builtin .len,#[x],#[X]⟩,T,ps,af,gd⟩ f L (.c (.v (.int .i64 l.length))):=⟨fun a w s=>by
 have r:=s.ev h;unfold RD RA at r;obtain ⟨ao,cap,hx,_⟩:=r;refine ⟨.int .i64 l.length,by unfold RD RA;exact ⟨rfl,rfl⟩,fun w' k=>?_⟩;simp [execOp,resolve,invoke,builtin,hx,Sem.run_bind,Builtin.len_,run_underlying (tyElem.und i.h),goInt]⟩
theorem Qt.lenM {x:Operand} {X sz:Nat} {α:Type} {g:α→List A} {l:List α} {e sz':Nat} [i:TyS P X e sz'] (h:evD f x=some (.c (.r sz (l.map g)))):Qt P c [] ⟨t,.call ⟨.builtin .len,#[x],#[X]⟩,T,ps,af,gd⟩ f L (.c (.v (.int .i64 l.length))):=by
 have:=Qt.lenR (P:=P) (c:=c) (t:=t) (T:=T) (ps:=ps) (af:=af) (gd:=gd) (L:=L) (X:=X) h;rw [List.length_map] at this;exact this
theorem Qt.lenO {x:Operand} {X sz j:Nat} {v:Value} {l:List (List A)} {e e' sz':Nat} [i:TyS P X e' sz'] [bx:RowAt L v e sz l j] (h:evD f x=some (.c (.v v))):Qt P c [] ⟨t,.call ⟨.builtin .len,#[x],#[X]⟩,T,ps,af,gd⟩ f L (.c (.v (.int .i64 l.length))):=⟨fun a w s=>by
 have rx:=s.val h;obtain ⟨xs,h1,h2⟩:=s.res _ (List.mem_of_getElem? bx.h);obtain ⟨ao,cap,rfl⟩:=h1.shape;refine ⟨.int .i64 l.length,by unfold RD RA;exact ⟨rfl,rfl⟩,fun w' k=>?_⟩;simp [execOp,resolve,invoke,builtin,rx,Sem.run_bind,Builtin.len_,run_underlying (tyElem.und i.h),goInt]⟩
theorem Qt.lenV {x:Operand} {X:Nat} {ao:Option Addr} {n m:Nat} {e' sz':Nat} [i:TyS P X e' sz'] (h:evD f x=some (.c (.v (.slice ao n m)))):Qt P c [] ⟨t,.call ⟨.builtin .len,#[x],#[X]⟩,T,ps,af,gd⟩ f L (.c (.v (.int .i64 n))):=⟨fun a w s=>by
 have rx:=s.val h;refine ⟨.int .i64 n,by unfold RD RA;exact ⟨rfl,rfl⟩,fun w' k=>?_⟩;simp [execOp,resolve,invoke,builtin,rx,Sem.run_bind,Builtin.len_,run_underlying (tyElem.und i.h),goInt]⟩
theorem Qt.pick {x y z:Operand} {b:Bool} {d:D} (h:evD f x=some (.c (.v (.bool b)))) (hd:evD f (cond b y z)=some d):Qt P c [] ⟨t,.pick x y z,T,ps,af,gd⟩ f L d:=⟨fun a w s=>by
 have rx:=s.val h;refine ⟨_,s.ev hd,fun w' k=>?_⟩
 cases b <;> simp [execOp,rx,asBool,Sem.run_bind]⟩
theorem Qt.conv {x:Operand} {X Y:Nat} {kd kd':IntKind} {m r:Int} [i:TyI P X kd] [j:TyI P Y kd'] (h:evD f x=some (.c (.v (.int kd m)))) (hr:kd'.wrap m=r):Qt P c [] ⟨t,.convert X Y x,T,ps,af,gd⟩ f L (.c (.v (.int kd' r))):=⟨fun a w s=>by
 have rx:=s.val h;subst hr;refine ⟨.int kd' (kd'.wrap m),by unfold RD RA;exact ⟨rfl,rfl⟩,fun w' k=>?_⟩;simp [execOp,rx,convert,Sem.run_bind,run_underlying (tyInt.und i.h),run_underlying (tyInt.und j.h),Conv.intToInt]⟩
end
end Fl
open Go.RowKit
namespace Fl
class TyZ' (P:Program) (T:TypeId) (zs:outParam (List Value)):Prop where
 h:tyZero P T=some zs:=by kernel_rfl
 o:zs.all (·.oneCell')=true:=by kernel_rfl
 s:tySize P T=some zs.length:=by kernel_rfl
class TyE (P:Program) (T:TypeId) (e:outParam TypeId) (sz bytes:outParam Nat) (z:outParam Value):Prop where h:Elem P T e sz bytes z
def canEnter (P:Program) (F:FuncId):Bool:=match P.funcs[F]? with
 | some fn=>fn.name != "runtime.NumGoroutine" && fn.body.isSome
 | none=>false
class TyC (P:Program) (F:FuncId):Prop where h:canEnter P F=true:=by kernel_rfl
def vs (zs:List Value):List A:=zs.map A.v
theorem RC.vs {ok:Nat→Prop} {w:World}:∀ {zs:List Value},zs.all (·.oneCell')=true→RC ok w (vs zs) zs
 | [],_=>RC.nil
 | z :: zs,h=>by
  simp only [List.all_cons,Bool.and_eq_true] at h;exact RC.cons (by unfold RA;exact ⟨rfl,h.1⟩) (RC.vs h.2)
section
variable (P:Program) (c:Cx)
structure Ld (o:Oper) (f:Fm) (L:List Res) (S:List Nat) {ι:Type} (f':ι→Fm) (L':ι→List Res):Prop where
 go:∀ a w,St c f L a w→∀ (K:Act→World→Prop) (Q:Exit→Act→World→Prop),(∀ x v w',Keeps S w w'→St c (f' x) (L' x) (a.put o.dst v) w'→(∀ y∈foots (L' x),y∈foots L∨w.heap.size≤y)→K (a.put o.dst v) w')→o.wp P a w K Q
end
section
variable {P:Program} {c:Cx} {k:List Item} {f:Fm} {L:List Res} {ops:Array Oper} {l:List Oper} {o:Oper}
theorem JO.ld {S:List Nat} {ι:Type} {f':ι→Fm} {L':ι→List Res} (h:Ld P c o f L S f' L') (hw:Wants ops o f=true) (hr:∀ x,JO P c ops l k (f' x) (L' x)):JO P c ops (o :: l) k f L:=⟨fun a w s=>by
 refine wpList_step fun K hK=>?_
 rw [Wants.run hw s];simp only [↓reduceIte];exact h.go a w s K _ fun x v w' _ hp _=>hK _ _ ((hr x).go _ w' hp)⟩
theorem okk_cons_new {r:Res} {w:World} (hr:∀ x∈r.foot,w.heap.size≤x):∀ g,g < w.heap.size→okk c L g→okk c (r :: L) g:=fun g hg ho =>
 ⟨ho.1,fun hm=>by
  obtain ⟨q,hq,hx⟩:=mem_foots.1 hm;rcases List.mem_cons.1 hq with rfl | hq
  ·have:=hr g hx;omega
  ·exact ho.2 (mem_foots.2 ⟨q,hq,hx⟩)⟩
theorem St.new {a:Act} {w w':World} {t:Nat} {d:D} {v:Value} {r:Res} (s:St c f L a w) (ht:t < c.N) (k:Keeps [] w w') (hr:∀ x∈r.foot,w.heap.size≤x) (h:r.holds (okk c (r :: L)) w') (hd:RD (okk c (r :: L)) w' d v):St c ((t,d) :: f) (r :: L) (a.put (some t) v) w':=by
 have m:Mon (okk c L) (okk c (r :: L)) w w':=Mon.of_keeps k fun g hg ho=>⟨okk_cons_new hr g hg ho,by simp⟩
 refine s.put ht hd (s.kp.then k) ?_ ?_ ?_ m
 ·intro q hq;rcases List.mem_cons.1 hq with rfl | hq
  ·exact h
  ·exact (s.res q hq).mon k m (by simp)
 ·intro x hx;obtain ⟨q,hq,hxq⟩:=mem_foots.1 hx;rcases List.mem_cons.1 hq with e | hq
  ·exact .inr (Nat.le_trans s.kp.size (hr x (e ▸ hxq)))
  ·exact s.frm x (mem_foots.2 ⟨q,hq,hxq⟩)
 ·refine List.pairwise_cons.2 ⟨fun q hq x hx hx'=>?_,s.ap⟩;have h1:=hr x hx;have h2:=s.lt x (mem_foots.2 ⟨q,hq,hx'⟩);omega
theorem foots_new {r:Res} {w:World} (hr:∀ x∈r.foot,w.heap.size≤x):∀ y∈foots (r :: L),y∈foots L∨w.heap.size≤y:=fun y hy=>by
 obtain ⟨q,hq,h⟩:=mem_foots.1 hy;rcases List.mem_cons.1 hq with e | hq
 ·exact .inr (hr y (e ▸ h))
 ·exact .inl (mem_foots.2 ⟨q,hq,h⟩)
theorem St.more {a:Act} {w w':World} {t:Nat} {d:D} {v:Value} (s:St c f L a w) (ht:t < c.N) (k:Keeps [] w w') (hd:RD (okk c L) w' d v):St c ((t,d) :: f) L (a.put (some t) v) w':=by
 have m:Mon (okk c L) (okk c L) w w':=Mon.of_keeps k fun g hg ho=>⟨ho,by simp⟩
 exact s.put ht hd (s.kp.then k) (fun q hq=>(s.res q hq).mon k m (by simp)) s.frm s.ap m
theorem tyZero.run {T:Nat} {zs:List Value} (h:tyZero P T=some zs):∃ z:Value,z.cells.toList=zs∧∀ w,(zeroValue T).run P w=.ok z w:=by
 unfold tyZero at h
 cases hi:P.info? T with
 | none=>rw [hi] at h;cases h
 | some i =>
  rw [hi] at h
  cases hz:i.zero with
  | none=>simp [hz] at h
  | some z=>simp [hz] at h;exact ⟨z,h,fun w=>by simp [zeroValue,typeInfo,Sem.run_bind,hi,hz]⟩
variable {T X:TypeId} {ps:String} {af:Array Edge} {gd:Option (Nat × Bool)} {t:Nat}
theorem Ld.alloc {zs:List Value} [i:TyZ' P X zs] (ht:t < c.N):Ld P c ⟨some t,.alloc X,T,ps,af,gd⟩ f L [] (fun b:Nat=>(t,.c (.v (.pointer (some ⟨b,0,none⟩)))) :: f) (fun b=>.box b X (vs zs) :: L):=⟨fun a w s K Q hK=>by
 obtain ⟨z,hz,hr⟩:=tyZero.run i.h;have hk:Keeps [] w (w.alloc (.cells z.cells X)):=(Keeps.refl [] w).alloc _;have hrun:(execOp a.eval ⟨some t,.alloc X,T,ps,af,gd⟩).run P w=.ok (.value (.pointer (some ⟨w.heap.size,0,none⟩))) (w.alloc (.cells z.cells X)):=by
  simp [execOp,Instr.alloc,Sem.run_bind,hr,newVar,newRow]
 unfold Oper.wp;rw [hrun];refine hK w.heap.size _ _ hk (s.new ht hk (by simp [Res.foot]) ⟨zs,?_,RC.vs i.o⟩ (by unfold RD RA;exact ⟨rfl,rfl⟩)) (foots_new (by simp [Res.foot]));subst hz;have:=Blk.new w z.cells.toList X;simpa using this⟩
def cellsD:D→Option (List A)
 | .c a=>some [a]
 | .agg cs=>some cs
 | _=>none
theorem cellsD.rep {d:D} {cs:List A} (h:cellsD d=some cs) {ok:Nat→Prop} {w:World} {x:Value} (r:RD ok w d x):RC ok w cs x.cells.toList:=by
 unfold cellsD at h
 split at h
 ·cases h;unfold RD at r;have h1:=r.one;have:x.cells.toList=[x]:=by cases x <;> first | rfl | (cases h1;done)
  rw [this];exact RC.cons r RC.nil
 ·cases h;unfold RD at r;obtain ⟨vs,rfl,h⟩:=r;simpa [Value.cells] using h
 ·cases h
theorem Ld.box {x:Operand} {d:D} {cs:List A} (ht:t < c.N) (h:evD f x=some d) (hc:cellsD d=some cs):Ld P c ⟨some t,.box X x,T,ps,af,gd⟩ f L [] (fun b:Nat=>(t,.c (.v (.pointer (some ⟨b,0,none⟩)))) :: f) (fun b=>.box b X cs :: L):=⟨fun a w s K Q hK=>by
 have hr:=cellsD.rep hc (s.ev h);have hk:Keeps [] w (w.alloc (.cells (a.eval x).cells X)):=(Keeps.refl [] w).alloc _;have hrun:(execOp a.eval ⟨some t,.box X x,T,ps,af,gd⟩).run P w=.ok (.value (.pointer (some ⟨w.heap.size,0,none⟩))) (w.alloc (.cells (a.eval x).cells X)):=by
  simp [execOp,Instr.box,Sem.run_bind,newVar,newRow]
 unfold Oper.wp;rw [hrun];have hf:∀ y∈(Res.box w.heap.size X cs).foot,w.heap.size≤y:=by simp [Res.foot]
 refine hK w.heap.size _ _ hk (s.new ht hk hf ⟨(a.eval x).cells.toList,?_,?_⟩ (by unfold RD RA;exact ⟨rfl,rfl⟩)) (foots_new hf)
 ·have:=Blk.new w (a.eval x).cells.toList X;simpa using this
 ·exact RC.mon (Mon.of_keeps hk fun g hg ho=>⟨okk_cons_new hf g hg ho,by simp⟩) cs _ hr⟩
theorem foots_set {i:Nat} {r r':Res} (hi:L[i]?=some r) (hf:r'.foot=r.foot) (x:Nat):x∈foots (L.set i r')↔x∈foots L:=by
 have:(L.set i r').map Res.foot=L.map Res.foot:=by
  rw [List.map_set];apply List.ext_getElem?;intro j;rw [List.getElem?_set]
  split
  ·rename_i e;subst e
   split
   ·rw [List.getElem?_map,hi];simp [hf]
   ·rename_i hn;simp at hn;rw [List.getElem?_eq_none (by simpa using hn)]
  ·rfl
 unfold foots;rw [List.flatMap_def,List.flatMap_def,this]
theorem okk_set {i:Nat} {r r':Res} (hi:L[i]?=some r) (hf:r'.foot=r.foot):okk c (L.set i r')=okk c L:=by
 funext x;unfold okk;rw [foots_set hi hf]
theorem apart_set:∀ {L:List Res} {i:Nat} {r r':Res},L[i]?=some r→(∀ x,x∈r'.foot→x∈r.foot)→Apart L→Apart (L.set i r')
 | [],i,r,r',h,hf,ha=>by simp at h
 | q :: L,0,r,r',h,hf,ha=>by
  simp at h;subst h;have:=List.pairwise_cons.1 ha;exact List.pairwise_cons.2 ⟨fun s hs x hx=>this.1 s hs x (hf x hx),this.2⟩
 | q :: L,i + 1,r,r',h,hf,ha=>by
  simp at h;have:=List.pairwise_cons.1 ha;simp only [List.set_cons_succ];refine List.pairwise_cons.2 ⟨fun s hs x hx hx'=>?_,apart_set h hf this.2⟩;rcases List.mem_or_eq_of_mem_set hs with hs | rfl
  ·exact this.1 s hs x hx hx'
  ·exact this.1 r (List.mem_of_getElem? h) x hx (hf x hx')
theorem Apart.ne:∀ {L:List Res} {i j:Nat} {r q:Res},Apart L→L[i]?=some r→L[j]?=some q→i≠j→∀ x∈r.foot,x∉q.foot
 | [],i,j,r,q,ha,hi,hj,hn,x,hx=>by simp at hi
 | p :: L,0,0,r,q,ha,hi,hj,hn,x,hx=>by simp at hn
 | p :: L,0,j + 1,r,q,ha,hi,hj,hn,x,hx=>by
  simp at hi hj;subst hi;exact (List.pairwise_cons.1 ha).1 q (List.mem_of_getElem? hj) x hx
 | p :: L,i + 1,0,r,q,ha,hi,hj,hn,x,hx=>fun hx'=>by
  simp at hi hj;subst hj;exact (List.pairwise_cons.1 ha).1 r (List.mem_of_getElem? hi) x hx' hx
 | p :: L,i + 1,j + 1,r,q,ha,hi,hj,hn,x,hx=>by
  simp at hi hj;exact Apart.ne (List.pairwise_cons.1 ha).2 hi hj (by omega) x hx
theorem St.set {a:Act} {w w':World} {i:Nat} {r r':Res} (s:St c f L a w) (hi:L[i]?=some r) (hf:r'.foot=r.foot) (k:Keeps r.foot w w') (h:r'.holds (okk c L) w'):St c f (L.set i r') a w':=by
 have ho:=okk_set (c:=c) hi hf;have hin:∀ x∈r.foot,x∈foots L:=fun x hx=>mem_foots.2 ⟨r,List.mem_of_getElem? hi,hx⟩
 have m:Mon (okk c L) (okk c L) w w':=Mon.of_keeps k fun g hg hg'=>⟨hg',fun hm=>hg'.2 (hin g hm)⟩
 refine ⟨s.kp.trans k (fun x hx=>s.frm x (hin x hx)),s.size,s.dfr,fun q hq=>?_,fun x hx=>s.frm x ((foots_set hi hf x).1 hx),apart_set hi (fun x hx=>hf ▸ hx) s.ap,fun t d hd=>by rw [ho];exact RD.mon m d _ (s.fr t d hd)⟩;rw [ho];obtain ⟨j,hj⟩:=List.getElem?_of_mem hq;rw [List.getElem?_set] at hj
 split at hj
 ·split at hj
  ·simp at hj;subst hj;exact h
  ·cases hj
 ·rename_i hne;exact (s.res q (List.mem_of_getElem? hj)).mon k m (fun x hx hm=>Apart.ne s.ap hi hj hne x hm hx)
theorem Blk.puts {t:TypeId} {g:Nat}:∀ (cs p z q:List Value) (w:World),z.length=cs.length→Blk w g (p ++ z ++ q) t→Blk (w.setCells g p.length cs) g (p ++ cs ++ q) t∧Keeps [g] w (w.setCells g p.length cs)
 | [],p,z,q,w,h,hb=>by
  have:z=[]:=List.length_eq_zero_iff.1 h;subst this;exact ⟨hb,Keeps.refl _ _⟩
 | c :: cs,p,[],q,w,h,hb=>by simp at h
 | c :: cs,p,x :: z,q,w,h,hb=>by
  have h1:=hb.set p.length c;have e:(p ++ x :: z ++ q).set p.length c=(p ++ [c]) ++ z ++ q:=by simp
  rw [e] at h1;obtain ⟨h2,k2⟩:=Blk.puts cs (p ++ [c]) z q (w.setCell ⟨g,p.length,none⟩ c) (by simpa using h) h1;simp only [List.length_append,List.length_cons,List.length_nil,Nat.zero_add] at h2 k2;rw [World.setCells];refine ⟨by simpa using h2,((Keeps.refl [g] w).setCell (by simp) c).trans k2 (fun x hx=>.inl hx)⟩
def putC (cs:List A) (o:Nat) (new:List A):List A:=cs.take o ++ new ++ cs.drop (o + new.length)
theorem run_storeVar {T n:Nat} (hn:tySize P T=some n) (w:World) (b o:Nat) (x:Value) (hx:x.cells.size=n) (ht:w.there b o n) (h1:∀ v∈x.cells.toList,v.oneCell'=true):(storeVar T ⟨b,o,none⟩ x).run P w=.ok () (w.setCells b o x.cells.toList):=by
 have:=run_storeCells_cells (P:=P) b o x.cells.toList 0 w (fun j hj=>by simpa using (ht j (by simpa [hx] using hj)).1) (fun j hj=>by simpa using (ht j (by simpa [hx] using hj)).2) h1;simp only [Nat.add_zero] at this;simp [storeVar,Sem.run_bind,tySize.run hn,hx,this]
theorem Ld.storeB (i:Nat) {x y:Operand} {b o n:Nat} {B:TypeId} {cs es:List A} {d:D} [it:TyN P X n] (hx:evD f x=some (.c (.v (.pointer (some ⟨b,o,none⟩))))) (hi:L[i]?=some (.box b B cs)) (hy:evD f y=some d) (hd:cellsD d=some es) (hn:es.length=n) (hl:Nat.ble (o + n) cs.length=true) :
  Ld P c ⟨none,.store X x y,T,ps,af,gd⟩ f L [b] (fun _:Unit=>f) (fun _=>L.set i (.box b B (putC cs o es))):=⟨fun a w s K Q hK=>by
 have hl':o + n≤cs.length:=Nat.le_of_ble_eq_true hl;have rx:=s.val hx;have ry:=cellsD.rep hd (s.ev hy);obtain ⟨us,h1,h2⟩:=s.res _ (List.mem_of_getElem? hi);have hlen:=h2.len;have hsz:(a.eval y).cells.size=n:=by have:=ry.len;simp at this;omega
 have hb:Blk w b (us.take o ++ (us.drop o).take n ++ us.drop (o + n)) B:=by
  have e:us.take o ++ (us.drop o).take n ++ us.drop (o + n)=us:=by
   rw [← List.drop_drop,List.append_assoc,List.take_append_drop,List.take_append_drop]
  rw [e];exact h1
 have hp:=Blk.puts (a.eval y).cells.toList (us.take o) ((us.drop o).take n) (us.drop (o + n)) w (by simp;omega) hb;have ho:(us.take o).length=o:=by simp;omega
 rw [ho] at hp;have hrun:=run_storeVar it.h w b o (a.eval y) hsz (fun j hj=>⟨by rw [h1.cell];simp;omega,h1.free _⟩) ry.one;have hop:(execOp a.eval ⟨none,.store X x y,T,ps,af,gd⟩).run P w=.ok .skip (w.setCells b o (a.eval y).cells.toList):=by
  simp [execOp,Sem.run_bind,Instr.storeAt,rx,Instr.sureAddr,hrun]
 unfold Oper.wp;rw [hop];refine hK () undef _ hp.2 (s.set hi rfl hp.2 ⟨_,hp.1,?_⟩) (fun y hy=>.inl ((foots_set (r':=.box b B (putC cs o es)) hi rfl y).1 hy));have m:Mon (okk c L) (okk c L) w (w.setCells b o (a.eval y).cells.toList):=Mon.of_keeps hp.2 fun g hg hg'=>⟨hg',fun hm=>hg'.2 (mem_foots.2 ⟨_,List.mem_of_getElem? hi,by simpa [Res.foot] using hm⟩)⟩
 unfold putC;rw [hn];exact RC.app (RC.app (RC.mon m _ _ (h2.take o)) (RC.mon m _ _ ry)) (RC.mon m _ _ (h2.drop (o + n)))⟩
theorem putC_all {cs es:List A} (h:es.length=cs.length):putC cs 0 es=es:=by simp [putC,h]
theorem putC_one {cs:List A} {o:Nat} {a:A} (h:o < cs.length):putC cs o [a]=cs.set o a:=by
 unfold putC;apply List.ext_getElem?;intro j;simp only [List.length_cons,List.length_nil,Nat.zero_add];rcases Nat.lt_trichotomy j o with hj | hj | hj
 ·rw [List.append_assoc,List.getElem?_append_left (by simp;omega),List.getElem?_take,if_pos hj,List.getElem?_set_ne (by omega)]
 ·subst hj;rw [List.append_assoc,List.getElem?_append_right (by simp;omega),List.getElem?_set_self h];have:j - (List.take j cs).length=0:=by simp;omega
  rw [this];rfl
 ·rw [List.getElem?_append_right (by simp;omega),List.getElem?_set_ne (by omega),List.getElem?_drop]
  congr 1;simp;omega
end
end Fl
open Go.RowKit
namespace Fl
theorem putC_cons (cs:List A) (o:Nat) (a:A) (es:List A) (h:o < cs.length):putC cs o (a :: es)=putC (cs.set o a) (o + 1) es:=by
 unfold putC;rw [List.take_add_one,List.take_set,List.getElem?_set_self h];simp only [List.length_cons,Option.toList_some];rw [List.set_eq_of_length_le (by simp;omega),List.drop_set,if_pos (by omega)];simp only [List.append_assoc,List.singleton_append,List.cons_append,List.nil_append];rw [show o + (es.length + 1)=o + 1 + es.length by omega]
theorem putC_nil (cs:List A) (o:Nat):putC cs o []=cs:=by simp [putC]
theorem RX.put {ok:Nat→Prop} {w:World} {sz:Nat} {k:Nat}:∀ (es:List A) (us:List Value) {l:List (List A)} {xs:List Value} {cs:List A} (o:Nat),RX ok w sz l xs→l[k]?=some cs→cs.length=sz→RC ok w es us→o + es.length≤sz→RX ok w sz (l.set k (putC cs o es)) (setFrom xs (k * sz + o) us)
 | [],us,l,xs,cs,o,h,e,hc,hr,ho=>by
  unfold RC at hr;subst hr;rw [putC_nil,setFrom,List.set_eq_of_getElem? e];exact h
 | a :: es,us,l,xs,cs,o,h,e,hc,hr,ho=>by
  unfold RC at hr;obtain ⟨x,ys,rfl,h1,h2⟩:=hr;simp only [List.length_cons] at ho;have hlt:=(List.getElem?_eq_some_iff.1 e).1;have h3:=RX.set k o h e (by omega) h1;have:=RX.put es ys (o + 1) h3 (List.getElem?_set_self hlt) (by simpa using hc) h2 (by omega);rw [List.set_set] at this;rw [putC_cons cs o a es (by omega),setFrom];exact this
where
 List.set_eq_of_getElem? {α:Type} {l:List α} {k:Nat} {a:α} (e:l[k]?=some a):l.set k a=l:=by
  apply List.ext_getElem?;intro j;rw [List.getElem?_set]
  split
  ·rename_i h;subst h
   split
   ·exact e.symm
   ·rename_i hn;rw [List.getElem?_eq_none (by omega)] at e;cases e
  ·rfl
theorem RX.elen {ok:Nat→Prop} {w:World} {sz:Nat} {l:List (List A)} {xs:List Value} {k:Nat} {cs:List A} (h:RX ok w sz l xs) (e:l[k]?=some cs):cs.length=sz:=by
 obtain ⟨vs,h1,_,h3⟩:=h.get k e;rw [← h3.len,h1]
section
variable {P:Program} {c:Cx} {k:List Item} {f:Fm} {L:List Res} {ops:Array Oper} {l:List Oper} {o:Oper} {T X:TypeId} {ps:String} {af:Array Edge} {gd:Option (Nat × Bool)} {t:Nat}
theorem Ld.storeO (i:Nat) {x y:Operand} {v:Value} {sz q o n:Nat} {e:TypeId} {ll:List (List A)} {cs es:List A} {d:D} [it:TyN P X n] (hx:evD f x=some (.ow v sz q o)) (hi:L[i]?=some (.row v e sz ll)) (hq:ll[q]?=some cs) (hy:evD f y=some d) (hd:cellsD d=some es) (hn:es.length=n) (hl:Nat.ble (o + n) sz=true) :
  Ld P c ⟨none,.store X x y,T,ps,af,gd⟩ f L (vfoot v) (fun _:Unit=>f) (fun _=>L.set i (.row v e sz (ll.set q (putC cs o es)))):=⟨fun a w s K Q hK=>by
 have hl':o + n≤sz:=Nat.le_of_ble_eq_true hl;have rx:=s.ev hx;have ry:=cellsD.rep hd (s.ev hy);unfold RD at rx;obtain ⟨g,off,mm,cap,rfl,rx⟩:=rx;obtain ⟨xs,h1,h2⟩:=s.res _ (List.mem_of_getElem? hi);have hlen:=RX.len h2;have hql:=(List.getElem?_eq_some_iff.1 hq).1;have hce:=RX.elen h2 hq;have hsz:(a.eval y).cells.size=n:=by have:=ry.len;simp at this;omega
 have hks:(q + 1) * sz≤ll.length * sz:=Nat.mul_le_mul_right _ hql;rw [Nat.add_mul] at hks;obtain ⟨r1,r2⟩:=Row.puts (a.eval y).cells.toList w xs (q * sz + o) h1 (by simp;omega);obtain ⟨g',off',e1,e2,hg,hc,hf⟩:=h1.cells (by omega);obtain ⟨rfl,rfl⟩:=by simpa using e1
 rw [← Nat.add_assoc] at r1 r2;have hrun:=run_storeVar it.h w g (off + q * sz + o) (a.eval y) hsz (fun j hj=>⟨by
  rw [show off + q * sz + o + j=off + (q * sz + o + j) by omega,hc _ (by omega)];simp;omega,by
  rw [show off + q * sz + o + j=off + (q * sz + o + j) by omega];exact hf _⟩) ry.one
 have hop:(execOp a.eval ⟨none,.store X x y,T,ps,af,gd⟩).run P w=.ok .skip (w.setCells g (off + q * sz + o) (a.eval y).cells.toList):=by
  simp [execOp,Sem.run_bind,Instr.storeAt,rx,Instr.sureAddr,hrun]
 unfold Oper.wp;rw [hop];have m:Mon (okk c L) (okk c L) w (w.setCells g (off + q * sz + o) (a.eval y).cells.toList):=Mon.of_keeps r2 fun g' hg hg'=>⟨hg',fun hm=>hg'.2 (mem_foots.2 ⟨_,List.mem_of_getElem? hi,by simpa [Res.foot] using hm⟩)⟩
 refine hK () undef _ r2 (s.set hi rfl r2 ⟨_,by rw [List.length_set];exact r1,?_⟩) (fun y hy=>.inl ((foots_set (r':=.row (.slice (some ⟨g,off,none⟩) mm cap) e sz (ll.set q (putC cs o es))) hi rfl y).1 hy));exact RX.put es _ o (RX.mon m _ _ h2) hq hce (RC.mon m _ _ ry) (by omega)⟩
theorem Ld.lit0 {e sz:Nat} [i:TyS P X e sz] (ht:t < c.N):Ld P c ⟨some t,.buildSlice X 0 #[],T,ps,af,gd⟩ f L [] (fun b:Nat=>(t,.c (.v (.slice (some ⟨b,0,none⟩) 0 0))) :: f) (fun b=>.row (.slice (some ⟨b,0,none⟩) 0 0) e sz [] :: L):=⟨fun a w s K Q hK=>by
 have hk:Keeps [] w (w.alloc (.cells #[] e)):=(Keeps.refl [] w).alloc _;have hrun:(execOp a.eval ⟨some t,.buildSlice X 0 #[],T,ps,af,gd⟩).run P w=.ok (.value (.slice (some ⟨w.heap.size,0,none⟩) 0 0)) (w.alloc (.cells #[] e)):=by
  simp [execOp,Instr.buildSlice,Sem.run_bind,run_underlying (tyElem.und i.h),tySize.run i.s,Instr.fill,newRow,Array.range_zero']
 unfold Oper.wp;rw [hrun];refine hK w.heap.size _ _ hk (s.new ht hk (by simp [Res.foot,vfoot]) ⟨[],Row.lit w [] e sz 0 (by simp) (by simp [maxLen]),rfl⟩ (by unfold RD RA;exact ⟨rfl,rfl⟩)) (foots_new (by simp [Res.foot,vfoot]))⟩
theorem Ld.lit1 {e sz:Nat} {x:Operand} {d:D} {cs:List A} {zs:List Value} [i:TyS P X e sz] [z:TyZ' P e zs] (ht:t < c.N) (h:evD f x=some d) (hc:cellsD d=some cs) (hn:cs.length=sz) (h0:Nat.ble 1 sz=true) (hs:Nat.ble sz 1000=true):Ld P c ⟨some t,.buildSlice X 1 #[(0,x)],T,ps,af,gd⟩ f L [] (fun b:Nat=>(t,.c (.v (.slice (some ⟨b,0,none⟩) 1 1))) :: f) (fun b=>.row (.slice (some ⟨b,0,none⟩) 1 1) e sz [cs] :: L):=⟨fun a w s K Q hK=>by
 have h0':1≤sz:=Nat.le_of_ble_eq_true h0;have hs':sz≤1000:=Nat.le_of_ble_eq_true hs;have ry:=cellsD.rep hc (s.ev h);have hsz:(a.eval x).cells.size=sz:=by have:=ry.len;simp at this;omega
 obtain ⟨zv,hz1,hz2⟩:=tyZero.run z.h;have hzs:zv.cells.size=sz:=by
  have h1:=z.s.symm.trans i.s;simp at h1;rw [← hz1] at h1;simpa using h1
 have hk:Keeps [] w (w.alloc (.cells (a.eval x).cells e)):=(Keeps.refl [] w).alloc _;have hfill:Instr.fill (fun j=>some (j * sz,sz)) ((Array.range sz).map (zv.cells[· % zv.cells.size]!)) [(0,a.eval x)]=some (a.eval x).cells:=by
  have e1:=fill_all (a.eval x).cells ((Array.range sz).map (zv.cells[· % zv.cells.size]!)) (by simp [hsz]);simp only [Nat.zero_add] at e1;simpa [Instr.fill,hsz] using e1
 have hrun:(execOp a.eval ⟨some t,.buildSlice X 1 #[(0,x)],T,ps,af,gd⟩).run P w=.ok (.value (.slice (some ⟨w.heap.size,0,none⟩) 1 1)) (w.alloc (.cells (a.eval x).cells e)):=by
  have h1:¬ sz > 2 ^ 24:=by omega
  have h2:¬ sz=0:=by omega
  simp only [execOp,Instr.buildSlice,Sem.run_bind,run_underlying (tyElem.und i.h),tySize.run i.s,Result.andThen_ok,Nat.one_mul,h1,h2,↓reduceIte,hz2,Sem.run_pure,List.map_toArray,List.map_cons,List.map_nil,hfill,newRow,run_newObj_alloc]
 unfold Oper.wp;rw [hrun];have hf:∀ y∈(Res.row (.slice (some ⟨w.heap.size,0,none⟩) 1 1) e sz [cs]).foot,w.heap.size≤y:=by simp [Res.foot,vfoot]
 refine hK w.heap.size _ _ hk (s.new ht hk hf ⟨(a.eval x).cells.toList,?_,?_⟩ (by unfold RD RA;exact ⟨rfl,rfl⟩)) (foots_new hf)
 ·have:=Row.lit w (a.eval x).cells.toList e sz 1 (by simp [hsz]) (by simp [maxLen]);simpa [vfoot] using this
 ·refine ⟨(a.eval x).cells.toList,[],by simp,by simpa using hsz,?_,rfl⟩;exact RC.mon (Mon.of_keeps hk fun g hg ho=>⟨okk_cons_new hf g hg ho,by simp⟩) cs _ ry⟩
where
 fill_all (u z:Array Value) (h:z.size=u.size):u.zipIdx.foldl (fun cs x=>cs.setIfInBounds (0 + x.2) x.1) z=u:=by
  have key:∀ (l:List Value) (k:Nat) (z:Array Value),k + l.length≤z.size→(l.zipIdx k).foldl (fun cs x=>cs.setIfInBounds (0 + x.2) x.1) z=(z.toList.take k ++ l ++ z.toList.drop (k + l.length)).toArray:=by
   intro l
   induction l with
   | nil=>intro k z hz;simp
   | cons x l ih =>
    intro k z hz;simp only [List.length_cons] at hz;rw [List.zipIdx_cons,List.foldl_cons,ih (k + 1) _ (by simp;omega)];simp only [Nat.zero_add];apply congrArg;simp only [Array.toList_setIfInBounds,List.length_cons];rw [List.take_add_one,List.take_set,List.getElem?_set_self (by simp;omega)];rw [List.set_eq_of_length_le (by simp;omega),List.drop_set,if_pos (by omega)];simp only [Option.toList_some,List.append_assoc,List.singleton_append,List.cons_append,List.nil_append];rw [show k + (l.length + 1)=k + 1 + l.length by omega]
  rw [← Array.foldl_toList,Array.toList_zipIdx,key u.toList 0 z (by simp [h])];have:List.drop u.size z.toList=[]:=List.drop_eq_nil_of_le (by simp [h]);simp [this]
end
end Fl
end Go.Proofs.Ytdibmkjoaghafaa
