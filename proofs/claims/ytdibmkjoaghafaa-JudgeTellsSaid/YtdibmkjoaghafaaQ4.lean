/-
  What the laws need, part Q4.
  Conditions: none.
-/
import Derived.Test.YtdibmkjoaghafaaQ3
set_option linter.unusedVariables false
set_option linter.unusedSimpArgs false
set_option linter.unnecessarySimpa false
set_option maxHeartbeats 2000000
namespace Go.Proofs.Ytdibmkjoaghafaa
open Go.RowKit
namespace Fl
theorem foots_cons (r:Res) (L:List Res) (x:Nat):x∈foots (r :: L)↔x∈r.foot∨x∈foots L:=by simp [foots]
theorem RA.view {ok:Nat→Prop} {w:World} {sz:Nat} {l:List (List A)} {x:Value} (h:RA ok w (.r sz l) x):∃ ys S,View w x sz l.length ys S∧RX ok w sz l ys∧∀ g∈S,ok g:=by
 unfold RA at h;obtain ⟨ao,cap,rfl,h1,h2,h3⟩:=h;rcases h3 with rfl | ⟨g,off,rfl,hok,hg,hl⟩
 ·exact ⟨[],[],⟨by simp,ao,cap,rfl,by simpa using h1,h2,.inl ⟨rfl,rfl⟩⟩,rfl,by simp⟩
 ·have key:∀ (l:List (List A)) (off:Nat),RL ok w l g off sz→∃ ys:List Value,ys.length=l.length * sz∧w.rangeAt g off ys∧RX ok w sz l ys:=by
   intro l
   induction l with
   | nil=>intro off _;exact ⟨[],by simp,fun j v hj=>by simp at hj,rfl⟩
   | cons cs l ih =>
    intro off h;unfold RL at h;obtain ⟨⟨vs,a1,a2,a3⟩,h4⟩:=h;obtain ⟨ys,b1,b2,b3⟩:=ih _ h4;refine ⟨vs ++ ys,by simp [a1,b1,Nat.add_mul,Nat.add_comm],fun j v hj=>?_,vs,ys,rfl,a1,a3,b3⟩
    by_cases hlt:j < vs.length
    ·rw [List.getElem?_append_left hlt] at hj;exact a2 j v hj
    ·rw [List.getElem?_append_right (by omega)] at hj;have:=b2 _ v hj;rw [show off + sz + (j - vs.length)=off + j by omega] at this;exact this
  obtain ⟨ys,b1,b2,b3⟩:=key l off hl;exact ⟨ys,[g],⟨b1,_,cap,rfl,h1,h2,.inr ⟨g,off,rfl,rfl,hg,fun j hj=>by rw [List.getElem?_eq_getElem hj];exact b2 j _ (List.getElem?_eq_getElem hj)⟩⟩,b3,by simpa using hok⟩
theorem RA.of_view {ok:Nat→Prop} {w:World} {sz:Nat} {l:List (List A)} {x:Value} {ys:List Value} {S:List Nat} (h:View w x sz l.length ys S) (hr:RX ok w sz l ys) (hS:∀ g∈S,ok g):RA ok w (.r sz l) x:=by
 unfold RA;obtain ⟨hl,ao,cap,rfl,h1,h2,h3⟩:=h;refine ⟨ao,cap,rfl,h1,h2,?_⟩;rcases h3 with ⟨h3,_⟩ | ⟨g,off,rfl,rfl,hg,hc⟩
 ·exact .inl (List.length_eq_zero_iff.1 h3)
 ·refine .inr ⟨g,off,rfl,hS g (by simp),hg,?_⟩;have key:∀ (l:List (List A)) (ys:List Value) (off:Nat),w.rangeAt g off ys→RX ok w sz l ys→RL ok w l g off sz:=by
   intro l
   induction l with
   | nil=>intro ys off _ _;unfold RL;trivial
   | cons cs l ih =>
    intro ys off hc h;obtain ⟨vs,us,rfl,a1,a2,a3⟩:=h;unfold RL;refine ⟨⟨vs,a1,fun j v hj=>hc j v (by rw [List.getElem?_append_left (List.getElem?_eq_some_iff.1 hj).1];exact hj),a2⟩,ih us (off + sz) (fun j v hj=>?_) a3⟩;have:=hc (sz + j) v (by rw [List.getElem?_append_right (by omega),a1,Nat.add_sub_cancel_left];exact hj);rw [Nat.add_assoc];exact this
  exact key l ys off (fun j v hj=>by rw [hc j (List.getElem?_eq_some_iff.1 hj).1];exact hj) hr
theorem vfoot_of {w:World} {v:Value} {e:TypeId} {sz n:Nat} {xs:List Value} {S:List Nat} (h:Row w v e sz n xs S):vfoot v=S:=by
 obtain ⟨h0,ao,cap,rfl,h2,h3,h4⟩:=h;rcases h4 with ⟨rfl,_,_,rfl⟩ | ⟨g,off,cur,rfl,rfl,_⟩ <;> rfl
section
variable {P:Program} {c:Cx} {k:List Item} {f:Fm} {L:List Res} {ops:Array Oper} {l:List Oper} {o:Oper} {T X:TypeId} {ps:String} {af:Array Edge} {gd:Option (Nat × Bool)} {t:Nat}
inductive Dest (L:List Res) (e:TypeId) (sz:Nat):Value→List (List A)→List Res→Prop
 | own {v m L'}:L=.row v e sz m :: L'→Dest L e sz v m L'
 | nil:Dest L e sz (.slice none 0 0) [] L
inductive Srce (L:List Res) (sz:Nat):D→List (List A)→Prop
 | read {m}:Srce L sz (.c (.r sz m)) m
 | own (i:Nat) {v e m}:L[i]?=some (.row v e sz m)→Srce L sz (.c (.v v)) m
 | nil:Srce L sz (.c (.v (.slice none 0 0))) []
theorem Ld.append_core {e sz bytes:Nat} {z:Value} [E:TyE P X e sz bytes z] {x y:Operand} {v:Value} {l1 l2:List (List A)} {L':List Res} {d2:D} (h1:evD f x=some (.c (.v v))) (hd:Dest L e sz v l1 L') (h2:evD f y=some d2) (hs:Srce L' sz d2 l2) (hb:(l1.length + l2.length) * bytes≤140737488355328)
  {a:Act} {w:World} (s:St c f L a w):∃ v' w',(execOp a.eval ⟨some t,.call ⟨.builtin .append,#[x,y],#[X,X]⟩,T,ps,af,gd⟩).run P w=.ok (.value v') w'∧Keeps (vfoot v) w w'∧Mon (okk c L) (okk c (.row v' e sz (l1 ++ l2) :: L')) w w'∧(Res.row v' e sz (l1 ++ l2)).holds (okk c (.row v' e sz (l1 ++ l2) :: L')) w'∧(∀ g∈vfoot v',g∈vfoot v∨w.heap.size≤g)∧(∀ q∈L',q∈L∧∀ g∈q.foot,g∉vfoot v)∧Apart L'∧(∀ g∈vfoot v,g∈foots L):=by
 have rx:=s.val h1;have ry:=s.ev h2;have hD:∃ xs,Row w v e sz l1.length xs (vfoot v)∧RX (okk c L) w sz l1 xs∧(∀ q∈L',q∈L∧∀ g∈q.foot,g∉vfoot v)∧Apart L'∧(∀ g∈vfoot v,g∈foots L):=by
  cases hd with
  | own e1 =>
   subst e1;obtain ⟨xs,g1,g2⟩:=s.res _ (List.mem_cons_self ..);have ap:=List.pairwise_cons.1 s.ap;exact ⟨xs,g1,g2,fun q hq=>⟨List.mem_cons_of_mem _ hq,fun g hg hg'=>ap.1 q hq g hg' hg⟩,ap.2,fun g hg=>mem_foots.2 ⟨_,List.mem_cons_self ..,hg⟩⟩
  | nil=>exact ⟨[],Row.nil w e sz,rfl,fun q hq=>⟨hq,fun g _ hg=>by simp [vfoot] at hg⟩,s.ap,fun g hg=>by simp [vfoot] at hg⟩
 obtain ⟨xs,r1,r2,r3,r4,r5⟩:=hD;have hS:∃ ys S,View w (a.eval y) sz l2.length ys S∧RX (okk c L) w sz l2 ys:=by
  cases hs with
  | read=>unfold RD at ry;obtain ⟨ys,S,g1,g2,_⟩:=ry.view;exact ⟨ys,S,g1,g2⟩
  | own i hi =>
   obtain ⟨ys,g1,g2⟩:=s.res _ (r3 _ (List.mem_of_getElem? hi)).1;unfold RD RA at ry;rw [ry.1];exact ⟨ys,_,g1.view,g2⟩
  | nil =>
   unfold RD RA at ry;rw [ry.1];exact ⟨[],[],View.nil w sz,rfl⟩
 obtain ⟨ys,S,s1,s2⟩:=hS;obtain ⟨ao,cap,w',S',hrun,g1,g2,g3,_⟩:=run_app E.h T r1 s1 s2.one hb;have hvf:=vfoot_of g1;have hm:Mon (okk c L) (okk c (.row (.slice ao (l1.length + l2.length) cap) e sz (l1 ++ l2) :: L')) w w':=by
  refine Mon.of_keeps g2 fun g hg ho=>⟨⟨ho.1,fun hin=>?_⟩,fun hin=>ho.2 (r5 g hin)⟩
  rcases (foots_cons _ _ _).1 hin with hin | hin
  ·rw [Res.foot,hvf] at hin;rcases g3 g hin with h | h
   ·exact ho.2 (r5 g h)
   ·omega
  ·obtain ⟨q,hq,hgq⟩:=mem_foots.1 hin;exact ho.2 (mem_foots.2 ⟨q,(r3 q hq).1,hgq⟩)
 refine ⟨.slice ao (l1.length + l2.length) cap,w',?_,g2,hm,⟨xs ++ ys,by rw [hvf,List.length_append];exact g1,RX.app (RX.mon hm _ _ r2) (RX.mon hm _ _ s2)⟩,fun g hg=>by rw [hvf] at hg;exact g3 g hg,r3,r4,r5⟩;simp [execOp,resolve,invoke,builtin,rx,Sem.run_bind,hrun]
theorem St.appended {e sz:Nat} {v v':Value} {l1 l2:List (List A)} {L':List Res} {a:Act} {w w':World} (s:St c f L a w) (ht:t < c.N) (k:Keeps (vfoot v) w w') (m:Mon (okk c L) (okk c (.row v' e sz (l1 ++ l2) :: L')) w w') (hh:(Res.row v' e sz (l1 ++ l2)).holds (okk c (.row v' e sz (l1 ++ l2) :: L')) w') (hv:∀ g∈vfoot v',g∈vfoot v∨w.heap.size≤g) (h3:∀ q∈L',q∈L∧∀ g∈q.foot,g∉vfoot v) (h4:Apart L') (h5:∀ g∈vfoot v,g∈foots L) (h1:v'.oneCell'=true) :
  St c ((t,.c (.v v')) :: f) (.row v' e sz (l1 ++ l2) :: L') (a.put (some t) v') w':=by
 refine s.put ht (by unfold RD RA;exact ⟨rfl,h1⟩) (s.kp.trans k (fun g hg=>s.frm g (h5 g hg))) ?_ ?_ ?_ m
 ·intro q hq;rcases List.mem_cons.1 hq with rfl | hq
  ·exact hh
  ·exact (s.res q (h3 q hq).1).mon k m (fun g hg hg'=>(h3 q hq).2 g hg hg')
 ·intro x hx;rcases (foots_cons _ _ _).1 hx with hx | hx
  ·rcases hv x hx with h | h
   ·exact s.frm x (h5 x h)
   ·exact .inr (Nat.le_trans s.kp.size h)
  ·obtain ⟨q,hq,hxq⟩:=mem_foots.1 hx;exact s.frm x (mem_foots.2 ⟨q,(h3 q hq).1,hxq⟩)
 ·refine List.pairwise_cons.2 ⟨fun q hq x hx hx'=>?_,h4⟩;rcases hv x hx with h | h
  ·exact (h3 q hq).2 x hx' h
  ·have:=s.lt x (mem_foots.2 ⟨q,(h3 q hq).1,hx'⟩);omega
theorem Ld.appO {e sz bytes:Nat} {z:Value} [E:TyE P X e sz bytes z] {x y:Operand} {v:Value} {l1 l2:List (List A)} {L':List Res} {d2:D} (ht:t < c.N) (h1:evD f x=some (.c (.v v))) (hd:Dest L e sz v l1 L') (h2:evD f y=some d2) (hs:Srce L' sz d2 l2) (hb:(l1.length + l2.length) * bytes≤140737488355328) :
  Ld P c ⟨some t,.call ⟨.builtin .append,#[x,y],#[X,X]⟩,T,ps,af,gd⟩ f L (vfoot v) (fun v':Value=>(t,.c (.v v')) :: f) (fun v'=>.row v' e sz (l1 ++ l2) :: L'):=⟨fun a w s K Q hK=>by
 obtain ⟨v',w',hrun,g1,g2,g3,g4,g5,g6,g7⟩:=Ld.append_core (P:=P) (X:=X) (t:=t) (T:=T) (ps:=ps) (af:=af) (gd:=gd) h1 hd h2 hs hb s;unfold Oper.wp;rw [hrun];have h1c:v'.oneCell'=true:=by
  obtain ⟨xs,r,_⟩:=g3;obtain ⟨ao,cap,rfl⟩:=r.shape;rfl
 exact hK v' _ _ g1 (s.appended ht g1 g2 g3 g4 g5 g6 g7 h1c) fun y hy=>by
  rcases (foots_cons _ _ _).1 hy with hy | hy
  ·rcases g4 y hy with h | h
   ·exact .inl (g7 y h)
   ·exact .inr h
  ·obtain ⟨q,hq,hyq⟩:=mem_foots.1 hy;exact .inl (mem_foots.2 ⟨q,(g5 q hq).1,hyq⟩)⟩
theorem St.freeze {e sz:Nat} {v:Value} {l:List (List A)} {a:Act} {w:World} (s:St c ((t,.c (.v v)) :: f) (.row v e sz l :: L) a w):St c ((t,.c (.r sz l)) :: f) L a w:=by
 have m:Mon (okk c (.row v e sz l :: L)) (okk c L) w w:=⟨Nat.le_refl _,fun g _ ho=>⟨⟨ho.1,fun hx=>ho.2 ((foots_cons _ _ _).2 (.inr hx))⟩,rfl⟩⟩
 have ap:=List.pairwise_cons.1 s.ap;refine ⟨s.kp,s.size,s.dfr,fun q hq=>(s.res q (List.mem_cons_of_mem _ hq)).mon (Keeps.refl [] w) m (by simp),fun x hx=>s.frm x ((foots_cons _ _ _).2 (.inr hx)),ap.2,fun u e' hu=>?_⟩
 by_cases e1:t=u
 ·subst e1;rw [look_cons_eq] at hu;cases hu;have hv:=s.fr t _ (look_cons_eq _ _ _);obtain ⟨xs,r1,r2⟩:=s.res _ (List.mem_cons_self ..);unfold RD RA at hv;rw [hv.1];unfold RD;refine RA.of_view r1.view (RX.mon m _ _ r2) fun g hg=>⟨.inr (s.frm g ((foots_cons _ _ _).2 (.inl hg))),fun hx=>?_⟩
  obtain ⟨q,hq,hxq⟩:=mem_foots.1 hx;exact ap.1 q hq g hg hxq
 ·rw [look_cons_ne e1] at hu;exact RD.mon m e' _ (s.fr u e' (by rw [look_cons_ne e1];exact hu))
theorem Ld.appR {e sz bytes:Nat} {z:Value} [E:TyE P X e sz bytes z] {x y:Operand} {v:Value} {l1 l2:List (List A)} {L':List Res} {d2:D} (ht:t < c.N) (h1:evD f x=some (.c (.v v))) (hd:Dest L e sz v l1 L') (h2:evD f y=some d2) (hs:Srce L' sz d2 l2) (hb:(l1.length + l2.length) * bytes≤140737488355328) :
  Ld P c ⟨some t,.call ⟨.builtin .append,#[x,y],#[X,X]⟩,T,ps,af,gd⟩ f L (vfoot v) (fun _:Unit=>(t,.c (.r sz (l1 ++ l2))) :: f) (fun _=>L'):=⟨fun a w s K Q hK =>
 (Ld.appO ht h1 hd h2 hs hb).go a w s K Q fun v' u w' k' s' hf=>hK () u w' k' s'.freeze fun y hy=>hf y ((foots_cons _ _ _).2 (.inr hy))⟩
end
end Fl
open Go.RowKit
namespace Fl
inductive LeA:A→A→Prop
 | refl {a}:LeA a a
 | nil {sz}:LeA (.v (.slice none 0 0)) (.r sz [])
inductive LeC:List A→List A→Prop
 | nil:LeC [] []
 | cons {a b xs ys}:LeA a b→LeC xs ys→LeC (a :: xs) (b :: ys)
 | refl {xs}:LeC xs xs
mutual
inductive LeD:D→D→Prop
 | refl {d}:LeD d d
 | c {a b}:LeA a b→LeD (.c a) (.c b)
 | agg {a b}:LeC a b→LeD (.agg a) (.agg b)
 | any {d}:LeD d .any
 | tup {a b}:LeDs a b→LeD (.tup a) (.tup b)
inductive LeDs:List D→List D→Prop
 | nil:LeDs [] []
 | cons {a b xs ys}:LeD a b→LeDs xs ys→LeDs (a :: xs) (b :: ys)
end
theorem LeD.of_eq {a b:D} (h:a=b):LeD a b:=h ▸ .refl
section
variable {ok:Nat→Prop} {w:World}
theorem LeA.rep {a b:A} (h:LeA a b) {x:Value} (r:RA ok w a x):RA ok w b x:=by
 cases h with
 | refl=>exact r
 | nil=>unfold RA at r ⊢;exact ⟨none,0,r.1,by simp,by simp [maxLen],.inl rfl⟩
theorem LeC.rep {a b:List A} (h:LeC a b):∀ {x:List Value},RC ok w a x→RC ok w b x:=by
 induction h with
 | nil=>exact id
 | refl=>exact id
 | cons h1 h2 ih=>intro x r;unfold RC at r;obtain ⟨y,ys,rfl,r1,r2⟩:=r;exact RC.cons (h1.rep r1) (ih r2)
mutual
theorem LeD.rep {a b:D}:LeD a b→∀ {x:Value},RD ok w a x→RD ok w b x
 | .refl,x,r=>r
 | .c h,x,r=>by unfold RD at r ⊢;exact h.rep r
 | .agg h,x,r=>by unfold RD at r ⊢;obtain ⟨vs,h1,h2⟩:=r;exact ⟨vs,h1,h.rep h2⟩
 | .any,x,r=>by unfold RD;trivial
 | .tup h,x,r=>by unfold RD at r ⊢;obtain ⟨vs,h1,h2⟩:=r;exact ⟨vs,h1,LeDs.rep h h2⟩
theorem LeDs.rep {a b:List D}:LeDs a b→∀ {x:List Value},RDs ok w a x→RDs ok w b x
 | .nil,x,r=>r
 | .cons h1 h2,x,r=>by unfold RDs at r;obtain ⟨y,ys,rfl,r1,r2⟩:=r;exact RDs.cons (LeD.rep h1 r1) (LeDs.rep h2 r2)
end
end
def okr (ok:Nat→Prop) (e:World) (L pL:List Res) (g:Nat):Prop:=(ok g∨g∈foots L∨e.heap.size≤g)∧g∉foots pL
def PostR (ok:Nat→Prop) (e:World) (L:List Res) (pd:D) (pL:List Res) (en:Ending) (w':World):Prop :=
 ∃ x,en=.returned x∧Keeps (foots L) e w'∧(∀ y∈foots pL,y∈foots L∨e.heap.size≤y)∧Apart pL∧(∀ r∈pL,r.holds (okr ok e L pL) w')∧RD (okr ok e L pL) w' pd x
def SomeR {ι:Type} (ok:Nat→Prop) (e:World) (L:List Res) (post:ι→D × List Res) (en:Ending) (w':World):Prop:=∃ i,PostR ok e L (post i).1 (post i).2 en w'
structure Con (P:Program) (F:FuncId) (ds:List D) (L:List Res) {ι:Type} (post:ι→D × List Res):Prop where
 go:∀ (ok:Nat→Prop) (e:World) (xs:List Value),RDs ok e ds xs→(∀ r∈L,r.holds ok e)→Apart L→(∀ x∈foots L,¬ ok x)→Calls P F xs.toArray e (SomeR ok e L post)
abbrev Pure (P:Program) (F:FuncId) (ds:List D) (d:D):Prop:=Con P F ds [] (fun _:Unit=>(d,[]))
def cx (F:FuncId) {ι:Type} (ok:Nat→Prop) (e:World) (L:List Res) (post:ι→D × List Res) (N:Nat):Cx:=⟨F,SomeR ok e L post,foots L,ok,e,N,none,[]⟩
def frm0:Nat→List D→Fm
 | _,[]=>[]
 | k,d :: ds=>(k,d) :: frm0 (k + 1) ds
theorem look_frm0:∀ (ds:List D) (k t:Nat) (d:D),look (frm0 k ds) t=some d→k≤t∧ds[t - k]?=some d
 | [],k,t,d,h=>by simp [frm0,look] at h
 | x :: ds,k,t,d,h=>by
  simp only [frm0,look] at h
  cases hb:Nat.beq k t with
  | true =>
   rw [hb] at h;have:=Nat.eq_of_beq_eq_true hb;subst this;simp at h;subst h;simp
  | false =>
   rw [hb] at h;obtain ⟨h1,h2⟩:=look_frm0 ds (k + 1) t d h;exact ⟨by omega,by rw [show t - k=t - (k + 1) + 1 by omega];simpa using h2⟩
section
variable {P:Program} {F:FuncId} {ds:List D} {L:List Res} {ι:Type} {post:ι→D × List Res} {fn:Func} {body:Code} {N:Nat}
theorem Con.intro (hf:P.funcs[F]?=some fn) (hb:fn.body=some body) (hN:fn.ntmps=N) (hn:Nat.ble ds.length N=true)
  (h:∀ ok e,J P (cx F ok e L post N) [.code body] (frm0 0 ds) L):Con P F ds L post:=⟨fun ok e xs hd hr ha ho cs=>by
 have hlen:=hd.len;have hn':ds.length≤N:=Nat.le_of_ble_eq_true hn
 let b:Frame:={ (default:Frame) with fn:=F,kind:=.normal }
 have henter:Frame.enter P F xs.toArray .normal=b.at { tmps:=xs.toArray ++ Array.replicate (fn.ntmps - xs.toArray.size) undef,defers:=[] } [.code body]:=by
  simp [Frame.enter,Frame.at,hf,hb,b]
 have m:Mon ok (okk (cx F ok e L post N) L) e e:=⟨Nat.le_refl _,fun g _ hg=>⟨⟨.inl hg,fun hx=>ho g hx hg⟩,rfl⟩⟩
 have hst:St (cx F ok e L post N) (frm0 0 ds) L { tmps:=xs.toArray ++ Array.replicate (fn.ntmps - xs.toArray.size) undef,defers:=[] } e:=by
  refine ⟨Keeps.refl _ _,by simp [cx];omega,rfl,fun r hr'=>(hr r hr').mon (Keeps.refl [] e) m (by simp),fun x hx=>.inl hx,ha,fun t d ht=>?_⟩;obtain ⟨_,h2⟩:=look_frm0 ds 0 t d ht;rw [Nat.sub_zero] at h2;obtain ⟨x,hx,hx2⟩:=hd.get t h2;have hlt:=(List.getElem?_eq_some_iff.1 hx).1;have:(xs.toArray ++ Array.replicate (fn.ntmps - xs.toArray.size) undef).getD t undef=x:=by
   rw [Array.getD_eq_getD_getElem?,Array.getElem?_append_left (by simpa using hlt)];simp [hx]
  rw [this];exact RD.mon m d _ hx2
 obtain ⟨en,w',fr,h1,h2,h3,h4⟩:=(h ok e).go _ e hst b cs rfl rfl rfl;exact ⟨en,w',fr,h1,by rw [henter];exact h2,h3,h4⟩⟩
end
inductive ResD (P:Program) (f:Fm) (L:List Res):ResultVar→D→Prop
 | tmp {t d}:look f t=some d→ResD P f L (.tmp t) d
 | cell (i:Nat) {t b T B n cs} [TyA P T n]:look f t=some (.c (.v (.pointer (some ⟨b,0,none⟩))))→L[i]?=some (.box b B cs)→cs.length=n→ResD P f L (.cell t T) (.agg cs)
 | cell1 (i:Nat) {t b T B a} [TyV P T]:look f t=some (.c (.v (.pointer (some ⟨b,0,none⟩))))→L[i]?=some (.box b B [a])→ResD P f L (.cell t T) (.c a)
inductive ResDs (P:Program) (f:Fm) (L:List Res):List ResultVar→List D→Prop
 | nil:ResDs P f L [] []
 | cons {r d rs ds}:ResD P f L r d→ResDs P f L rs ds→ResDs P f L (r :: rs) (d :: ds)
def oneD:List D→D
 | [d]=>d
 | ds=>.tup ds
def resV (tmps:Array Value):ResultVar→Sem Value
 | .tmp t=>pure (tmps.getD t undef)
 | .cell a t=>do loadVar t (← asAddr (tmps.getD a undef))
theorem results_eq (fn:Func) (tmps:Array Value):results fn tmps=(do let vs ← fn.results.mapM (resV tmps);pure (if h:vs.size=1 then vs[0] else .tuple vs)):=rfl
section
variable {P:Program} {c:Cx} {f:Fm} {L:List Res}
theorem ResD.run {r:ResultVar} {d:D} (h:ResD P f L r d) {a:Act} {w:World} (s:St c f L a w):∃ x,RD (okk c L) w d x∧(resV a.tmps r).run P w=.ok x w:=by
 cases h with
 | tmp h1=>exact ⟨_,s.fr _ _ h1,rfl⟩
 | @cell i t b T B n cs it h1 h2 h3 =>
  have hv:=s.fr _ _ h1;unfold RD RA at hv;obtain ⟨vs,g1,g2⟩:=s.res _ (List.mem_of_getElem? h2);refine ⟨.agg vs.toArray,by unfold RD;exact ⟨vs,rfl,g2⟩,?_⟩;have hlen:=g2.len;have hlc:(loadCells ⟨b,0,none⟩ vs.length).run P w=.ok vs.toArray w:=run_loadCells_list (P:=P) w ⟨b,0,none⟩ _ (fun j v hv=>by rw [Addr.add_mid];exact g1.range j v hv);rw [hlen,h3] at hlc;simp only [resV,hv.1,asAddr,Sem.run_bind,Sem.run_pure,Result.andThen_ok,loadVar,tyAgg.runT it.h,↓reduceIte,tySize.run it.s,hlc]
 | @cell1 i t b T B e it h1 h2 =>
  have hv:=s.fr _ _ h1;unfold RD RA at hv;obtain ⟨vs,g1,g2⟩:=s.res _ (List.mem_of_getElem? h2);obtain ⟨x,hx,hr⟩:=g2.get 0 rfl;refine ⟨x,by unfold RD;exact hr,?_⟩;have hcell:w.cell? ⟨b,0,none⟩=some x:=by rw [g1.cell];exact hx
  have hl:(load ⟨b,0,none⟩).run P w=.ok x w:=by simp [load,Sem.run,hcell]
  simp only [resV,hv.1,asAddr,Sem.run_bind,Sem.run_pure,Result.andThen_ok,loadVar,tyAgg.runF it.h,Bool.false_eq_true,↓reduceIte,hl]
theorem ResDs.run {rs:List ResultVar} {ds:List D} (h:ResDs P f L rs ds) {a:Act} {w:World} (s:St c f L a w):∃ xs,RDs (okk c L) w ds xs∧(rs.mapM (resV a.tmps)).run P w=.ok xs w:=by
 induction h with
 | nil=>exact ⟨[],RDs.nil,rfl⟩
 | cons h1 h2 ih =>
  obtain ⟨x,a1,a2⟩:=h1.run s;obtain ⟨xs,b1,b2⟩:=ih;refine ⟨x :: xs,RDs.cons a1 b1,?_⟩;rw [List.mapM_cons,Sem.run_bind,a2];simp [Sem.run_bind,b2]
end
section
variable {P:Program} {F:FuncId} {ok:Nat→Prop} {e:World} {L0 L L':List Res} {ι:Type} {post:ι→D × List Res} {fn:Func} {N:Nat} {f:Fm} {k:List Item}
theorem mapM_some {α:Type} {L L':List α}:∀ {idx:List Nat},idx.map (fun i=>L[i]?)=L'.map some→∀ q∈L',q∈L
 | [],h=>by cases L' with | nil=>simp | cons x l=>simp at h
 | i :: idx,h=>by
  cases L' with
  | nil=>simp
  | cons x l =>
   simp only [List.map_cons,List.cons.injEq] at h;intro q hq;rcases List.mem_cons.1 hq with rfl | hq
   ·exact List.mem_of_getElem? h.1
   ·exact mapM_some h.2 q hq
theorem apart_idx {L:List Res} (ha:Apart L):∀ {idx:List Nat} {L':List Res},idx.Nodup→idx.map (fun i=>L[i]?)=L'.map some→Apart L'
 | [],L',hn,h=>by cases L' with | nil=>exact List.Pairwise.nil | cons x l=>simp at h
 | i :: idx,L',hn,h=>by
  cases L' with
  | nil=>simp at h
  | cons x l =>
   simp only [List.map_cons,List.cons.injEq] at h;have hn2:=List.nodup_cons.1 hn;refine List.pairwise_cons.2 ⟨fun q hq=>?_,apart_idx ha hn2.2 h.2⟩;have:∃ j∈idx,L[j]?=some q:=by
    have hm:some q∈l.map some:=List.mem_map.2 ⟨q,hq,rfl⟩;rw [← h.2] at hm;exact List.mem_map.1 hm
   obtain ⟨j,hj,hj2⟩:=this;exact Apart.ne ha h.1 hj2 (fun e=>hn2.1 (e ▸ hj))
theorem ret_run (hf:P.funcs[F]?=some fn) {rs:List ResultVar} {ds:List D} (hres:fn.results=rs.toArray) (h:ResDs P f L rs ds) {d:D} {i:ι} (hle:LeD (oneD ds) d) (idx:List Nat) (hnd:idx.Nodup) (hL:idx.map (fun i=>L[i]?)=L'.map some) (hp:post i=(d,L')) {a:Act} {w:World} (s:St (cx F ok e L0 post N) f L a w) :
  ∃ x,(results fn a.tmps).run P w=.ok x w∧SomeR ok e L0 post (.returned x) w:=by
 obtain ⟨xs,h1,h2⟩:=h.run s;have hr:(results fn a.tmps).run P w=.ok (if h:xs.toArray.size=1 then xs.toArray[0] else .tuple xs.toArray) w:=by
  rw [results_eq,hres,List.mapM_toArray,Sem.run_bind,map_eq_pure_bind,Sem.run_bind,h2];rfl
 refine ⟨_,hr,i,?_⟩;rw [hp];have hsub:=mapM_some hL;have hfo:∀ x,x∈foots L'→x∈foots L:=fun x hx=>by
  obtain ⟨q,hq,hx⟩:=mem_foots.1 hx;exact mem_foots.2 ⟨q,hsub q hq,hx⟩
 have m:Mon (okk (cx F ok e L0 post N) L) (okr ok e L0 L') w w:=⟨Nat.le_refl _,fun g _ hg=>⟨⟨hg.1,fun hx=>hg.2 (hfo g hx)⟩,rfl⟩⟩
 refine ⟨_,rfl,s.kp,fun y hy=>s.frm y (hfo y hy),apart_idx s.ap hnd hL,fun r hr=>(s.res r (hsub r hr)).mon (Keeps.refl [] w) m (by simp),RD.mon m _ _ (hle.rep ?_)⟩
 cases ds with
 | nil=>unfold RDs at h1;subst h1;unfold oneD RD;exact ⟨[],rfl,RDs.nil⟩
 | cons d1 ds =>
  unfold RDs at h1;obtain ⟨x,ys,rfl,h3,h4⟩:=h1
  cases ds with
  | nil=>unfold RDs at h4;subst h4;exact h3
  | cons d2 ds =>
   unfold RDs at h4;obtain ⟨y,zs,rfl,h5,h6⟩:=h4;unfold oneD RD;exact ⟨x :: y :: zs,rfl,RDs.cons h3 (RDs.cons h5 h6)⟩
theorem J.ret (hf:P.funcs[F]?=some fn) {rs:List ResultVar} {ds:List D} (hres:fn.results=rs.toArray) (h:ResDs P f L rs ds) {d:D} (i:ι) (hle:LeD (oneD ds) d) (idx:List Nat) (hnd:idx.Nodup) (hL:idx.map (fun i=>L[i]?)=L'.map some) (hp:post i=(d,L')):J P (cx F ok e L0 post N) (.code .ret :: k) f L:=⟨fun a w s=>by
 obtain ⟨x,h1,h2⟩:=ret_run hf hres h hle idx hnd hL hp s;exact fun b cs hb hk hr=>⟨.returned x,w,_,h2,Steps.one (stepR_ret hr),hb,rfl,s.dfr,hk,fn,by simpa [Frame.atR,hb,cx] using hf,h1⟩⟩
theorem J.fin (hf:P.funcs[F]?=some fn) {rs:List ResultVar} {ds:List D} (hres:fn.results=rs.toArray) (h:ResDs P f L rs ds) {d:D} (i:ι) (hle:LeD (oneD ds) d) (idx:List Nat) (hnd:idx.Nodup) (hL:idx.map (fun i=>L[i]?)=L'.map some) (hp:post i=(d,L')):J P (cx F ok e L0 post N) [] f L:=⟨fun a w s=>by
 obtain ⟨x,h1,h2⟩:=ret_run hf hres h hle idx hnd hL hp s;exact fun b cs hb hk hr=>⟨.returned x,w,_,h2,Steps.one (stepR_end hr),hb,rfl,s.dfr,hk,fn,by simpa [Frame.atR,hb,cx] using hf,h1⟩⟩
end
end Fl
open Go.RowKit
namespace Fl
theorem foots_app (L M:List Res) (x:Nat):x∈foots (L ++ M)↔x∈foots L∨x∈foots M:=by simp [foots]
def evDs (f:Fm):List Operand→Option (List D)
 | []=>some []
 | x :: xs=>match evD f x,evDs f xs with
  | some d,some ds=>some (d :: ds)
  | _,_=>none
section
variable {P:Program} {c:Cx} {k:List Item} {f:Fm} {L:List Res} {ops:Array Oper} {l:List Oper} {o:Oper} {T X:TypeId} {ps:String} {af:Array Edge} {gd:Option (Nat × Bool)} {t:Nat}
theorem St.evs {a:Act} {w:World} (s:St c f L a w):∀ {xs:List Operand} {ds:List D},evDs f xs=some ds→RDs (okk c L) w ds (xs.map a.eval)
 | [],ds,h=>by simp [evDs] at h;subst h;exact RDs.nil
 | x :: xs,ds,h=>by
  unfold evDs at h
  cases h1:evD f x with
  | none=>rw [h1] at h;cases h
  | some d =>
   cases h2:evDs f xs with
   | none=>rw [h1,h2] at h;cases h
   | some ds'=>rw [h1,h2] at h;cases h;exact RDs.cons (s.ev h1) (St.evs s h2)
theorem run_enter {F:FuncId} (h:canEnter P F=true) (args:Array Value) (w:World):(callFunc F args).run P w=.ok (.enter F args) w:=by
 unfold canEnter at h
 cases hf:P.funcs[F]? with
 | none=>rw [hf] at h;cases h
 | some fn =>
  rw [hf] at h;simp at h;have h2:fn.body≠none:=by intro hb;simp [hb] at h
  simp [callFunc,Sem.run_bind,hf,h.1,h2]
theorem Ld.call {F:FuncId} {args:List Operand} {tys:Array TypeId} {ds0 ds:List D} {Ll Lr:List Res} {ι:Type} {post:ι→D × List Res} [i:TyC P F] (hC:Con P F ds Ll post) (ht:t < c.N) (h:evDs f args=some ds0) (hle:LeDs ds0 ds) (hL:L=Ll ++ Lr) :
  Ld P c ⟨some t,.call ⟨.value (.func F),args.toArray,tys⟩,T,ps,af,gd⟩ f L (foots Ll) (fun i=>(t,(post i).1) :: f) (fun i=>(post i).2 ++ Lr):=⟨fun a w s K Q hK=>by
 have hev:=hle.rep (s.evs h);have hop:(execOp a.eval ⟨some t,.call ⟨.value (.func F),args.toArray,tys⟩,T,ps,af,gd⟩).run P w=.ok (.enter F (args.map a.eval).toArray) w:=by
  simp [execOp,resolve,Deferred.ofValue,invoke,Act.eval,Sem.run_bind,run_enter i.h]
 unfold Oper.wp;rw [hop];have hap:=List.pairwise_append.1 (show List.Pairwise _ (Ll ++ Lr) from hL ▸ s.ap);have hinl:∀ r∈Ll,r∈L:=fun r hr=>hL ▸ List.mem_append_left Lr hr
 have hinr:∀ r∈Lr,r∈L:=fun r hr=>hL ▸ List.mem_append_right Ll hr
 have hfl:∀ x,x∈foots Ll→x∈foots L:=fun x hx=>by rw [hL,foots_app];exact .inl hx
 have hfr:∀ x,x∈foots Lr→x∈foots L:=fun x hx=>by rw [hL,foots_app];exact .inr hx
 have hlr:∀ x,x∈foots Ll→x∉foots Lr:=fun x hx hx'=>by
  obtain ⟨q,hq,h1⟩:=mem_foots.1 hx;obtain ⟨r,hr,h2⟩:=mem_foots.1 hx';exact hap.2.2 q hq r hr x h1 h2
 refine Calls.mono (hC.go (okk c L) w (args.map a.eval) hev (fun r hr=>s.res r (hinl r hr)) hap.1 (fun x hx ho=>ho.2 (hfl x hx))) ?_
 rintro en w' ⟨i,x,rfl,kp,g1,g2,g3,g4⟩
 have hok:∀ g,g < w'.heap.size→okr (okk c L) w Ll (post i).2 g→okk c ((post i).2 ++ Lr) g:=fun g _ hg=>by
  obtain ⟨hg,hn⟩:=hg;rcases hg with hg | hg | hg
  ·exact ⟨hg.1,fun hx=>by rcases (foots_app _ _ _).1 hx with hx | hx;exact hn hx;exact hg.2 (hfr g hx)⟩
  ·exact ⟨.inr (s.frm g (hfl g hg)),fun hx=>by rcases (foots_app _ _ _).1 hx with hx | hx;exact hn hx;exact hlr g hg hx⟩
  ·exact ⟨.inr (.inr (Nat.le_trans s.kp.size hg)),fun hx=>by
    rcases (foots_app _ _ _).1 hx with hx | hx
    ·exact hn hx
    ·have:=s.lt g (hfr g hx);omega⟩
 have m1:Mon (okr (okk c L) w Ll (post i).2) (okk c ((post i).2 ++ Lr)) w' w':=⟨Nat.le_refl _,fun g hg ho=>⟨hok g hg ho,rfl⟩⟩
 have hpl:∀ y,y∈foots (post i).2→y∈foots Ll∨w.heap.size≤y:=g1;have m2:Mon (okk c L) (okk c ((post i).2 ++ Lr)) w w':=Mon.of_keeps kp fun g hg ho=>⟨⟨ho.1,fun hx=>by
  rcases (foots_app _ _ _).1 hx with hx | hx
  ·rcases hpl g hx with h | h
   ·exact ho.2 (hfl g h)
   ·omega
  ·exact ho.2 (hfr g hx)⟩,fun hx=>ho.2 (hfl g hx)⟩
 refine hK i _ _ kp (s.put ht (RD.mon m1 _ _ g4) (s.kp.trans kp (fun x hx=>s.frm x (hfl x hx))) ?_ ?_ ?_ m2) (fun y hy=>by
  rcases (foots_app _ _ _).1 hy with hy | hy
  ·rcases hpl y hy with h | h
   ·exact .inl (hfl y h)
   ·exact .inr h
  ·exact .inl (hfr y hy))
 ·intro q hq;rcases List.mem_append.1 hq with hq | hq
  ·exact (g3 q hq).mon (Keeps.refl [] w') m1 (by simp)
  ·exact (s.res q (hinr q hq)).mon kp m2 (fun x hx hx'=>hlr x hx' (mem_foots.2 ⟨q,hq,hx⟩))
 ·intro x hx;rcases (foots_app _ _ _).1 hx with hx | hx
  ·rcases hpl x hx with h | h
   ·exact s.frm x (hfl x h)
   ·exact .inr (Nat.le_trans s.kp.size h)
  ·exact s.frm x (hfr x hx)
 ·refine List.pairwise_append.2 ⟨g2,hap.2.1,fun q hq r hr x hx hx'=>?_⟩;have hxr:x∈foots Lr:=mem_foots.2 ⟨r,hr,hx'⟩;rcases hpl x (mem_foots.2 ⟨q,hq,hx⟩) with h | h
  ·exact hlr x h hxr
  ·have:=s.lt x (hfr x hxr);omega⟩
theorem JO.alloc {zs:List Value} [i:TyZ' P X zs] (hw:Wants ops ⟨some t,.alloc X,T,ps,af,gd⟩ f=true) (ht:t < c.N) (h:∀ b,JO P c ops l k ((t,.c (.v (.pointer (some ⟨b,0,none⟩)))) :: f) (.box b X (vs zs) :: L)):JO P c ops (⟨some t,.alloc X,T,ps,af,gd⟩ :: l) k f L :=
 JO.ld (Ld.alloc ht) hw h
theorem JO.box {x:Operand} {d:D} {cs:List A} (hw:Wants ops ⟨some t,.box X x,T,ps,af,gd⟩ f=true) (ht:t < c.N) (hx:evD f x=some d) (hc:cellsD d=some cs) (h:∀ b,JO P c ops l k ((t,.c (.v (.pointer (some ⟨b,0,none⟩)))) :: f) (.box b X cs :: L)):JO P c ops (⟨some t,.box X x,T,ps,af,gd⟩ :: l) k f L :=
 JO.ld (Ld.box ht hx hc) hw h
theorem Ld.storeW {x y:Operand} {b n B i:Nat} {cs es:List A} {d:D} {L':List Res} [it:TyN P X n] [bx:BoxAt L b B cs i] [st:SetAt L i (.box b B es) L'] (hx:evD f x=some (.c (.v (.pointer (some ⟨b,0,none⟩))))) (hy:evD f y=some d) (hd:cellsD d=some es) (hn:es.length=n) (hl:cs.length=n) :
  Ld P c ⟨none,.store X x y,T,ps,af,gd⟩ f L [b] (fun _:Unit=>f) (fun _=>L'):=by
 have h:=Ld.storeB (P:=P) (c:=c) (T:=T) (X:=X) (ps:=ps) (af:=af) (gd:=gd) i hx bx.h hy hd hn (by rw [hl,Nat.zero_add];exact Nat.ble_self_eq_true _);rw [putC_all (hn.trans hl.symm),st.h] at h;exact h
theorem Ld.store1 {x y:Operand} {b o B i:Nat} {cs:List A} {e:A} {L':List Res} [it:TyN P X 1] [bx:BoxAt L b B cs i] [st:SetAt L i (.box b B (cs.set o e)) L'] (hx:evD f x=some (.c (.v (.pointer (some ⟨b,o,none⟩))))) (hy:evD f y=some (.c e)) (hl:Nat.ble (o + 1) cs.length=true) :
  Ld P c ⟨none,.store X x y,T,ps,af,gd⟩ f L [b] (fun _:Unit=>f) (fun _=>L'):=by
 have h:=Ld.storeB (P:=P) (c:=c) (T:=T) (X:=X) (ps:=ps) (af:=af) (gd:=gd) i hx bx.h hy rfl rfl hl;rw [putC_one (Nat.le_of_ble_eq_true hl),st.h] at h;exact h
theorem Ld.storeN {x y:Operand} {b o n B i:Nat} {cs es:List A} {d:D} {L':List Res} [it:TyN P X n] [bx:BoxAt L b B cs i] [st:SetAt L i (.box b B (putC cs o es)) L'] (hx:evD f x=some (.c (.v (.pointer (some ⟨b,o,none⟩))))) (hy:evD f y=some d) (hd:cellsD d=some es) (hn:es.length=n) (hl:Nat.ble (o + n) cs.length=true) :
  Ld P c ⟨none,.store X x y,T,ps,af,gd⟩ f L [b] (fun _:Unit=>f) (fun _=>L'):=by
 have h:=Ld.storeB (P:=P) (c:=c) (T:=T) (X:=X) (ps:=ps) (af:=af) (gd:=gd) i hx bx.h hy hd hn hl;rw [st.h] at h;exact h
theorem Ld.storeOW {x y:Operand} {v:Value} {sz q e i:Nat} {ll:List (List A)} {es:List A} {d:D} {L':List Res} [it:TyN P X sz] [bx:RowAt L v e sz ll i] [st:SetAt L i (.row v e sz (ll.set q es)) L'] (hx:evD f x=some (.ow v sz q 0)) (hy:evD f y=some d) (hd:cellsD d=some es) (hn:es.length=sz) (hq:q < ll.length) :
  Ld P c ⟨none,.store X x y,T,ps,af,gd⟩ f L (vfoot v) (fun _:Unit=>f) (fun _=>L'):=⟨fun a w s=>by
 obtain ⟨xs,h1,h2⟩:=s.res _ (List.mem_of_getElem? bx.h);have hl:=RX.elen h2 (List.getElem?_eq_getElem hq);have h:=Ld.storeO (P:=P) (c:=c) (T:=T) (X:=X) (ps:=ps) (af:=af) (gd:=gd) i hx bx.h (List.getElem?_eq_getElem hq) hy hd hn (by rw [Nat.zero_add];exact Nat.ble_self_eq_true _);rw [putC_all (hn.trans hl.symm),st.h] at h;exact h.go a w s⟩
theorem Ld.storeO1 {x y:Operand} {v:Value} {sz q o e i:Nat} {ll:List (List A)} {cs:List A} {u:A} {L':List Res} [it:TyN P X 1] [bx:RowAt L v e sz ll i] [st:SetAt L i (.row v e sz (ll.set q (cs.set o u))) L'] (hx:evD f x=some (.ow v sz q o)) (hy:evD f y=some (.c u)) (hl:Nat.ble (o + 1) sz=true) (hq:ll[q]?=some cs) :
  Ld P c ⟨none,.store X x y,T,ps,af,gd⟩ f L (vfoot v) (fun _:Unit=>f) (fun _=>L'):=⟨fun a w s=>by
 obtain ⟨xs,h1,h2⟩:=s.res _ (List.mem_of_getElem? bx.h);have hle:=RX.elen h2 hq;have h:=Ld.storeO (P:=P) (c:=c) (T:=T) (X:=X) (ps:=ps) (af:=af) (gd:=gd) i hx bx.h hq hy rfl rfl hl;rw [putC_one (by have:=Nat.le_of_ble_eq_true hl;omega),st.h] at h;exact h.go a w s⟩
theorem Ld.pure {F:FuncId} {args:List Operand} {tys:Array TypeId} {ds0 ds:List D} {d:D} [i:TyC P F] (hC:Pure P F ds d) (ht:t < c.N) (h:evDs f args=some ds0) (hle:LeDs ds0 ds) :
  Ld P c ⟨some t,.call ⟨.value (.func F),args.toArray,tys⟩,T,ps,af,gd⟩ f L [] (fun _:Unit=>(t,d) :: f) (fun _=>L):=Ld.call hC ht h hle (Ll:=[]) (Lr:=L) rfl
theorem JO.lit0 {e sz:Nat} [i:TyS P X e sz] (hw:Wants ops ⟨some t,.buildSlice X 0 #[],T,ps,af,gd⟩ f=true) (ht:t < c.N) (h:∀ b,JO P c ops l k ((t,.c (.v (.slice (some ⟨b,0,none⟩) 0 0))) :: f) (.row (.slice (some ⟨b,0,none⟩) 0 0) e sz [] :: L)):JO P c ops (⟨some t,.buildSlice X 0 #[],T,ps,af,gd⟩ :: l) k f L :=
 JO.ld (Ld.lit0 ht) hw h
theorem JO.lit1 {e sz:Nat} {x:Operand} {d:D} {cs:List A} {zs:List Value} [i:TyS P X e sz] [z:TyZ' P e zs] (hw:Wants ops ⟨some t,.buildSlice X 1 #[(0,x)],T,ps,af,gd⟩ f=true) (ht:t < c.N) (hx:evD f x=some d) (hc:cellsD d=some cs) (hn:cs.length=sz) (h0:Nat.ble 1 sz=true) (hs:Nat.ble sz 1000=true)
  (h:∀ b,JO P c ops l k ((t,.c (.v (.slice (some ⟨b,0,none⟩) 1 1))) :: f) (.row (.slice (some ⟨b,0,none⟩) 1 1) e sz [cs] :: L)):JO P c ops (⟨some t,.buildSlice X 1 #[(0,x)],T,ps,af,gd⟩ :: l) k f L :=
 JO.ld (Ld.lit1 ht hx hc hn h0 hs) hw h
theorem JO.call {F:FuncId} {args:List Operand} {tys:Array TypeId} {ds0 ds:List D} {Ll Lr:List Res} {ι:Type} {post:ι→D × List Res} [i:TyC P F] (hC:Con P F ds Ll post) (hw:Wants ops ⟨some t,.call ⟨.value (.func F),args.toArray,tys⟩,T,ps,af,gd⟩ f=true) (ht:t < c.N) (h:evDs f args=some ds0) (hle:LeDs ds0 ds) (hL:L=Ll ++ Lr)
  (hk:∀ i,JO P c ops l k ((t,(post i).1) :: f) ((post i).2 ++ Lr)):JO P c ops (⟨some t,.call ⟨.value (.func F),args.toArray,tys⟩,T,ps,af,gd⟩ :: l) k f L :=
 JO.ld (Ld.call hC ht h hle hL) hw hk
theorem JO.pure {F:FuncId} {args:List Operand} {tys:Array TypeId} {ds0 ds:List D} {d:D} [i:TyC P F] (hC:Pure P F ds d) (hw:Wants ops ⟨some t,.call ⟨.value (.func F),args.toArray,tys⟩,T,ps,af,gd⟩ f=true) (ht:t < c.N) (h:evDs f args=some ds0) (hle:LeDs ds0 ds)
  (hk:JO P c ops l k ((t,d) :: f) L):JO P c ops (⟨some t,.call ⟨.value (.func F),args.toArray,tys⟩,T,ps,af,gd⟩ :: l) k f L :=
 JO.call hC hw ht h hle (Ll:=[]) (Lr:=L) rfl fun _=>hk
theorem J.frzB (i j n:Nat) {v:Value} {e:TypeId} {sz:Nat} {ll:List (List A)} {b:Nat} {B:TypeId} {cs:List A} (hi:L[i]?=some (.row v e sz ll)) (hj:L[j]?=some (.box b B cs)) (hc:cs[n]?=some (.v v))
  (h:J P c k f ((L.set j (.box b B (cs.set n (.r sz ll)))).eraseIdx i)):J P c k f L:=⟨fun a w s=>by
 have hne:i≠j:=fun e=>by subst e;rw [hi] at hj;cases hj
 have hlt:=(List.getElem?_eq_some_iff.1 hj).1;have hm:∀ q,q∈L.eraseIdx i→q∈L:=fun q hq=>List.mem_of_mem_eraseIdx hq
 have ho:∀ q∈L.eraseIdx i,∀ x∈q.foot,x∉vfoot v:=fun q hq x hx hx'=>by
  obtain ⟨m,hm1⟩:=List.mem_iff_getElem?.1 hq;rw [List.getElem?_eraseIdx] at hm1
  split at hm1
  ·exact Apart.ne s.ap hi hm1 (by omega) x hx' hx
  ·exact Apart.ne s.ap hi hm1 (by omega) x hx' hx
 have hf:∀ x,x∈foots (L.eraseIdx i)→x∈foots L:=fun x hx=>by
  obtain ⟨q,hq,hx⟩:=mem_foots.1 hx;exact mem_foots.2 ⟨q,hm q hq,hx⟩
 have mo:Mon (okk c L) (okk c (L.eraseIdx i)) w w:=⟨Nat.le_refl _,fun g _ hg=>⟨⟨hg.1,fun hx=>hg.2 (hf g hx)⟩,rfl⟩⟩
 have s1:St c f (L.eraseIdx i) a w:=⟨s.kp,s.size,s.dfr,fun q hq=>(s.res q (hm q hq)).mon (Keeps.refl [] w) mo (by simp),fun x hx=>s.frm x (hf x hx),s.ap.sublist (List.eraseIdx_sublist L i),fun t d ht=>RD.mon mo d _ (s.fr t d ht)⟩
 obtain ⟨xs,r1,r2⟩:=s.res _ (List.mem_of_getElem? hi);have hR:RA (okk c (L.eraseIdx i)) w (.r sz ll) v:=RA.of_view r1.view (RX.mon mo _ _ r2) fun g hg=>⟨.inr (s.frm g (mem_foots.2 ⟨_,List.mem_of_getElem? hi,hg⟩)),fun hx=>by
  obtain ⟨q,hq,hxq⟩:=mem_foots.1 hx;exact ho q hq g hxq hg⟩
 have hsome:∃ j',(L.eraseIdx i)[j']?=some (.box b B cs)∧(L.set j (.box b B (cs.set n (.r sz ll)))).eraseIdx i=(L.eraseIdx i).set j' (.box b B (cs.set n (.r sz ll))):=by
  by_cases hij:j < i
  ·refine ⟨j,by rw [List.getElem?_eraseIdx,if_pos hij];exact hj,?_⟩;apply List.ext_getElem?;intro m;rw [List.getElem?_eraseIdx,List.getElem?_set,List.getElem?_set,List.getElem?_set,List.getElem?_eraseIdx,List.length_eraseIdx];have hil:=(List.getElem?_eq_some_iff.1 hi).1
   split <;> split <;> (try split) <;> (try split) <;> (try split) <;> first | rfl | omega
  ·refine ⟨j - 1,by rw [List.getElem?_eraseIdx,if_neg (by omega),show j - 1 + 1=j by omega];exact hj,?_⟩;apply List.ext_getElem?;intro m;rw [List.getElem?_eraseIdx,List.getElem?_set,List.getElem?_set,List.getElem?_set,List.getElem?_eraseIdx,List.length_eraseIdx];have hil:=(List.getElem?_eq_some_iff.1 hi).1
   split <;> split <;> (try split) <;> (try split) <;> (try split) <;> first | rfl | omega
 obtain ⟨j',e1,e2⟩:=hsome;rw [e2] at h;obtain ⟨vs,b1,b2⟩:=s1.res _ (List.mem_of_getElem? e1);refine h.go a w (s1.set e1 rfl (Keeps.refl _ w) ⟨vs,b1,?_⟩);have hc2:=b2.get n (by exact hc);obtain ⟨x,hx,hrx⟩:=hc2;unfold RA at hrx;obtain ⟨rfl,_⟩:=hrx;have:=RC.set n b2 hR;have e3:vs.set n x=vs:=by
  apply List.ext_getElem?;intro m;rw [List.getElem?_set]
  split
  ·rename_i e;subst e
   split
   ·exact hx.symm
   ·rename_i hn;rw [List.getElem?_eq_none (by omega)] at hx;cases hx
  ·rfl
 rw [e3] at this;exact this⟩
end
end Fl
open Go.RowKit
namespace Fl
section
variable {P:Program} {ops:Array Oper} {Q:Exit→Act→World→Prop} {md:Region.Mode} {S:World→Prop} {m:Option Nat}
def Gx (P:Program) (md:Region.Mode) (ops:Array Oper) (Q:Exit→Act→World→Prop) (S:World→Prop) (m:Option Nat):Nat→Array Bool→Act→World→Prop
 | 0,listed,a,w=>Region.ready md ops listed=[]∧Q .normal a w
 | n + 1,listed,a,w=>(Region.ready md ops listed=[]→Q .normal a w) ∧
  ∀ i∈Region.ready md ops listed,wpOp P ops Q i (fun a' w'=>(some i=m∧wpAny P md ops Q n (listed.setIfInBounds i true) a' w')∨(S w'∧Gx P md ops Q S m n (listed.setIfInBounds i true) a' w')) a w
theorem Gx.any:∀ (n:Nat) (listed:Array Bool) (a:Act) (w:World),Gx P md ops Q S m n listed a w→wpAny P md ops Q n listed a w
 | 0,_,_,_,h=>h
 | n + 1,_,_,_,h=>⟨h.1,fun i hi=>wpOp_mono (fun a' w' h'=>h'.elim (·.2) (fun h'=>Gx.any n _ a' w' h'.2)) (h.2 i hi)⟩
def waitsO (md:Region.Mode) (ops:Array Oper) (m:Option Nat) (i:Nat):Bool:=match m with
 | none=>true
 | some j=>waitsFor md ops j i
theorem Gx.first {i:Nat} {oi:Oper} {v:Value} (hi:ops[i]?=some oi) (hsel:∀ (j:Nat) (o:Oper) cs b,ops[j]?=some o→o.op≠.select cs b) (hQ:∀ c a w,Q (.panic c) (a.put oi.dst v) w→Q (.panic c) a w) (hm:waitsO md ops m i=true) :
  ∀ (n:Nat) (listed:Array Bool) (a:Act) (w:World),(∀ (j:Nat) oj,ops[j]?=some oj→j≠i→listed.getD j true=false→(∀ e∈oj.after,Region.binds md e=true→e.on≠i)→oi.apart ops oj=true) →
   i∈Region.ready md ops listed→YieldsIf P ops S oi v a→S w→Gx P md ops Q S m n (listed.setIfInBounds i true) (a.put oi.dst v) w→Gx P md ops Q S m (n + 1) listed a w
 | n,listed,a,w,hfree,hr,hy,hS,H=>by
  refine ⟨fun h=>(by rw [h] at hr;cases hr),fun j hj=>?_⟩
  by_cases hji:j=i
  ·subst hji;exact hy.wpOp hi hS (.inr ⟨hS,H⟩)
  ·cases n with
   | zero =>
    have:=ready_mono hj hji;rw [H.1] at this
    cases this
   | succ n =>
    obtain ⟨hjun,oj,hoj,hall⟩:=mem_ready.1 hj;have hno:=not_ready_yet hr hall;have hjm:some j≠m:=fun e=>by
     subst e;unfold waitsO waitsFor at hm;simp only at hm;rw [hoj] at hm;obtain ⟨x,hx,hp⟩:=Array.any_eq_true'.1 hm;simp only [Bool.and_eq_true,beq_iff_eq] at hp;exact hno x hx hp.2 hp.1
    have h2:=wpOp_putIf hoj (hfree j oj hoj hji hjun hno) (fun cs b=>hsel i oi cs b hi) (fun cs b=>hsel j oj cs b hoj) hQ hy (H.2 j (ready_mono hj hji));have hr2:i∈Region.ready md ops (listed.setIfInBounds j true):=ready_mono hr (Ne.symm hji);refine wpOp_mono (fun a' w' h3=>?_) h2;have hcomm:=Array.setIfInBounds_comm (xs:=listed) true true hji;obtain ⟨h4,h5⟩:S w'∧_:=h3.2.resolve_left (fun h=>hjm h.1);exact .inr ⟨h4,Gx.first hi hsel hQ hm n (listed.setIfInBounds j true) a' w' (fun k ok hk hki hun hno=>by
     refine hfree k ok hk hki ?_ hno
     by_cases hjk:j=k
     ·subst hjk;exact hjun
     ·rw [getD_set_ne true hjk] at hun;exact hun) hr2 h3.1 h4 (by rw [hcomm];exact h5)⟩
end
def okTake (md:Region.Mode) (ops:Array Oper) (m:Option Nat) (listed:Array Bool) (i:Nat):Bool :=
 Region.noSelect ops && Region.free md ops listed i && (Region.ready md ops listed).contains i && waitsO md ops m i
def blk (L:List Res) (T:List Nat):List Nat:=T.flatMap fun i=>match L[i]? with
 | some r=>r.foot
 | none=>[]
theorem mem_blk {L:List Res} {T:List Nat} {x:Nat}:x∈blk L T↔∃ i∈T,∃ r,L[i]?=some r∧x∈r.foot:=by
 unfold blk;rw [List.mem_flatMap]
 constructor
 ·rintro ⟨i,hi,hx⟩
  cases h:L[i]? with
  | none=>rw [h] at hx;cases hx
  | some r=>rw [h] at hx;exact ⟨i,hi,r,h,hx⟩
 ·rintro ⟨i,hi,r,h,hx⟩
  exact ⟨i,hi,by rw [h];exact hx⟩
theorem blk_foots {L:List Res} {T:List Nat} {x:Nat} (h:x∈blk L T):x∈foots L:=by
 obtain ⟨i,_,r,hr,hx⟩:=mem_blk.1 h;exact mem_foots.2 ⟨r,List.mem_of_getElem? hr,hx⟩
section
variable (P:Program) (c:Cx)
structure JW (ops:Array Oper) (n:Nat) (listed:Array Bool) (k:List Item) (f:Fm) (L:List Res):Prop where
 go:∀ a w,St c f L a w→wpAny P .any ops (fun e a' w'=>e=.normal∧Run P c k a' w') n listed a w
structure JD (ops:Array Oper) (m:Option Nat) (T:List Nat) (n:Nat) (listed:Array Bool) (k:List Item) (f:Fm) (L:List Res) (f0:Fm) (L0:List Res):Prop where
 go:∀ a w w0,St c f L a w→St c f0 L0 a w0→Keeps (blk L0 T) w0 w→(∀ x∈foots L,x∈foots L0∨w0.heap.size≤x)→Gx P .any ops (fun e a' w'=>e=.normal∧Run P c k a' w') (fun w'=>Keeps (blk L0 T) w0 w') m n listed a w
end
section
variable {P:Program} {c:Cx} {k:List Item} {f f0:Fm} {L L0:List Res} {ops:Array Oper} {l:List Oper} {o:Oper} {m:Option Nat} {T:List Nat} {n:Nat} {listed:Array Bool}
theorem J.draw {id:Nat} (hm:P.follows .mixedOrders=true) (hn:l.length=n) (h:JW P c l.toArray n (Array.replicate n false) k f L) (hd:ndf c l=true:=by rfl):J P c (.code (.region id l.toArray true) :: k) f L:=⟨fun a w s=>by
 refine Run.wp ?_;have s':St c f L a w.drew:=⟨s.kp.drew,s.size,s.dfr,fun r hr=>(s.res r hr).mon ((Keeps.refl [] w).drew) (Mon.of_keeps ((Keeps.refl [] w).drew) fun g _ hg=>⟨hg,by simp⟩) (by simp),s.frm,s.ap,fun t d ht=>RD.mon (Mon.of_keeps ((Keeps.refl [] w).drew) fun g _ hg=>⟨hg,by simp⟩) d _ (s.fr t d ht)⟩
 have:=h.go a w.drew s';subst hn;rcases ndf.cases hd with e | e
 ·exact ndf.none e (wp_region_any hm (by simpa using this))
 ·exact draw_round e noOut hm (by simpa using this)⟩
theorem JW.baseT (T:List Nat) (m:Option Nat) (h:JD P c ops m T n listed k f L f L):JW P c ops n listed k f L:=⟨fun a w s =>
 Gx.any (S:=fun w'=>Keeps (blk L T) w w') (m:=m) _ _ _ _ (h.go a w w s s (Keeps.refl _ _) (fun g hg=>.inl hg))⟩
theorem JW.base (m:Option Nat) (h:JD P c ops m [] n listed k f L f L):JW P c ops n listed k f L:=JW.baseT [] m h
theorem JW.done (hl:Region.ready .any ops listed=[]) (h:J P c k f L):JW P c ops n listed k f L:=⟨fun a w s=>wpAny_done hl ⟨rfl,h.go _ w s⟩ n⟩
theorem St.undef {a:Act} {w:World} {t:Nat} (s:St c f L a w) (ht:t < c.N):St c ((t,.tup []) :: f) L (a.put (some t) Go.undef) w:=s.put0 ht (by unfold RD;exact ⟨[],rfl,rfl⟩)
theorem JD.take (i:Nat) {t:Nat} {d:D} {U:List Nat} (hi:ops[i]?=some o) (hd:o.dst=some t) (hk:okTake .any ops m listed i=true) (hw:Wants ops o f0=true) (ht:t < c.N) (q:Qt P c U o f0 L0 d) (hu:(U.all fun j=>!T.contains j)=true) (h:JD P c ops m T n (listed.setIfInBounds i true) k ((t,d) :: f) L ((t,d) :: f0) L0):JD P c ops m T (n + 1) listed k f L f0 L0:=⟨fun a w w0 s s0 kp ho=>by
 obtain ⟨v,h1,h2⟩:=q.go a w0 s0;unfold okTake at hk;simp only [Bool.and_eq_true] at hk;obtain ⟨⟨⟨k1,k2⟩,k3⟩,k4⟩:=hk;have m1:Mon (okk c L0) (okk c L) w0 w:=Mon.of_keeps kp fun g hg hg'=>⟨⟨hg'.1,fun hx=>by rcases ho g hx with h | h;exact hg'.2 h;omega⟩,fun hm=>hg'.2 (blk_foots hm)⟩
 have hlat:∀ w',Keeps (blk L0 T) w0 w'→Later L0 U w0 w':=fun w' hw'=>⟨_,hw',fun x hx=>blk_foots hx,fun x hx j hj r hr hxr=>by
  obtain ⟨i,hi,r2,hr2,hx2⟩:=mem_blk.1 hx;have hij:j≠i:=fun e=>by
   subst e;have:=List.all_eq_true.1 hu j hj;simp [hi] at this
  exact Apart.ne s0.ap hr hr2 hij x hxr hx2⟩
 refine Gx.first hi (Region.noSelect_spec k1) (fun c a w h=>by cases h.1) k4 n listed a w (Region.free_spec hi k2) (by simpa using k3) (v:=v) (.inl ⟨Wants.run hw s0,fun w' hw'=>h2 w' (hlat w' hw')⟩) kp ?_
 have:=h.go (a.put o.dst v) w w0 (by rw [hd];exact s.put0 ht (RD.mon m1 _ _ h1)) (by rw [hd];exact s0.put0 ht h1) kp ho;exact this⟩
theorem JD.skip (i:Nat) {t:Nat} (hi:ops[i]?=some o) (hd:o.dst=some t) (hk:okTake .any ops m listed i=true) (hw:Wants0 ops o f0=true) (ht:t < c.N) (h:JD P c ops m T n (listed.setIfInBounds i true) k ((t,.tup []) :: f) L ((t,.tup []) :: f0) L0):JD P c ops m T (n + 1) listed k f L f0 L0:=⟨fun a w w0 s s0 kp ho=>by
 unfold okTake at hk;simp only [Bool.and_eq_true] at hk;obtain ⟨⟨⟨k1,k2⟩,k3⟩,k4⟩:=hk;refine Gx.first hi (Region.noSelect_spec k1) (fun c a w h=>by cases h.1) k4 n listed a w (Region.free_spec hi k2) (by simpa using k3) (v:=undef) (.inr ⟨Wants0.run hw s0,rfl⟩) kp ?_
 have:=h.go (a.put o.dst undef) w w0 (by rw [hd];exact s.undef ht) (by rw [hd];exact s0.undef ht) kp ho;exact this⟩
def stays:D→D
 | .c (.v x)=>.c (.v x)
 | _=>.any
theorem stays.rep {d:D} {ok ok':Nat→Prop} {w w':World} {x:Value} (h:RD ok w d x):RD ok' w' (stays d) x:=by
 unfold stays
 split
 ·unfold RD RA at h ⊢;exact h
 ·unfold RD;trivial
inductive Tail (L0:List Res):List Res→Prop
 | refl:Tail L0 L0
 | cons {r L}:Tail L0 L→Tail L0 (r :: L)
theorem Tail.mem {L0 L:List Res} (h:Tail L0 L):∀ q∈L0,q∈L:=by
 induction h with
 | refl=>exact fun _ h=>h
 | cons _ ih=>exact fun q hq=>List.mem_cons_of_mem _ (ih q hq)
inductive Since (T:List Nat) (L0 L:List Res):List Nat→Prop
 | none:Since T L0 L []
 | nil:Since T L0 L (vfoot (.slice none 0 0))
 | first {v e sz m Lr}:L=.row v e sz m :: Lr→Tail L0 Lr→Since T L0 L (vfoot v)
 | any {r i Lr}:L[i]?=some r→L.eraseIdx i=Lr→Tail L0 Lr→Since T L0 L r.foot
 | there {r j}:L0[j]?=some r→T.contains j=true→Since T L0 L r.foot
theorem Since.row {L0 L L':List Res} {v:Value} {e sz i:Nat} {m:List (List A)} [bx:RowAt L v e sz m i] [er:EraseAt L i L'] (ht:Tail L0 L'):Since T L0 L (vfoot v):=.any bx.h er.h ht
theorem Since.box {L0 L L':List Res} {b B i:Nat} {cs:List A} [bx:BoxAt L b B cs i] [er:EraseAt L i L'] (ht:Tail L0 L'):Since T L0 L [b]:=.any bx.h er.h ht
theorem Since.trow {L0 L:List Res} {v:Value} {e sz i:Nat} {m:List (List A)} [bx:RowAt L0 v e sz m i] (ht:T.contains i=true):Since T L0 L (vfoot v):=.there bx.h ht
theorem Since.tbox {L0 L:List Res} {b B i:Nat} {cs:List A} [bx:BoxAt L0 b B cs i] (ht:T.contains i=true):Since T L0 L [b]:=.there bx.h ht
theorem Since.keeps {S:List Nat} (hS:Since T L0 L S) {a:Act} {w w0 w':World} (s:St c f L a w) (kp:Keeps (blk L0 T) w0 w) (ho:∀ x∈foots L,x∈foots L0∨w0.heap.size≤x) (kp':Keeps S w w'):Keeps (blk L0 T) w0 w':=by
 refine kp.trans kp' fun x hx=>?_
 cases hS with
 | none=>cases hx
 | nil=>cases hx
 | first e ht =>
  subst e;rcases ho x (mem_foots.2 ⟨_,List.mem_cons_self ..,hx⟩) with h | h
  ·obtain ⟨q,hq,hxq⟩:=mem_foots.1 h;exact absurd hxq ((List.pairwise_cons.1 s.ap).1 q (ht.mem q hq) x hx)
  ·exact .inr h
 | any h1 e ht =>
  rcases ho x (mem_foots.2 ⟨_,List.mem_of_getElem? h1,hx⟩) with h | h
  ·obtain ⟨q,hq,hxq⟩:=mem_foots.1 h;have hm:=ht.mem q hq;rw [← e] at hm;obtain ⟨j,hj⟩:=List.mem_iff_getElem?.1 hm;rw [List.getElem?_eraseIdx] at hj
   exfalso
   split at hj
   ·exact Apart.ne s.ap h1 hj (by omega) x hx hxq
   ·exact Apart.ne s.ap h1 hj (by omega) x hx hxq
  ·exact .inr h
 | there h1 ht=>exact .inl (mem_blk.2 ⟨_,by simpa using ht,_,h1,hx⟩)
structure JS (P:Program) (c:Cx) (ops:Array Oper) (m:Option Nat) (T:List Nat) (n:Nat) (listed:Array Bool) (k:List Item) (f:Fm) (L:List Res) (f0:Fm) (L0:List Res) (i:Nat):Prop where
 go:∀ a w w0,St c f L a w→St c f0 L0 a w0→Keeps (blk L0 T) w0 w→(∀ x∈foots L,x∈foots L0∨w0.heap.size≤x) →
  wpOp P ops (fun e a' w'=>e=.normal∧Run P c k a' w') i (fun a' w'=>(some i=m∧wpAny P .any ops (fun e a' w'=>e=.normal∧Run P c k a' w') n (listed.setIfInBounds i true) a' w')∨(Keeps (blk L0 T) w0 w'∧Gx P .any ops (fun e a' w'=>e=.normal∧Run P c k a' w') (fun w'=>Keeps (blk L0 T) w0 w') m n (listed.setIfInBounds i true) a' w')) a w
theorem JS.loud {S:List Nat} {i t:Nat} {ι:Type} {g:ι→D} {L':ι→List Res} (hi:ops[i]?=some o) (hd:o.dst=some t) (hw:Wants ops o f=true) (ht:t < c.N) (q:Ld P c o f L S (fun x=>(t,g x) :: f) L') (hS:Since T L0 L S)
  (h:∀ x,JD P c ops m T n (listed.setIfInBounds i true) k ((t,g x) :: f) (L' x) ((t,stays (g x)) :: f0) L0):JS P c ops m T n listed k f L f0 L0 i:=⟨fun a w w0 s s0 kp ho=>by
 refine wpOp_step hi (fun K hK=>?_);rw [Wants.run hw s,if_pos rfl];refine q.go a w s K _ fun x v w' kp' sx hf=>?_
 have kp2:=hS.keeps s kp ho kp';refine hK _ _ (.inr ⟨kp2,(h x).go _ w' w0 sx ?_ kp2 ?_⟩)
 ·rw [hd];exact s0.put0 ht (stays.rep (by
   have h1:=sx.fr t (g x) (look_cons_eq _ _ _);have h2:=s.size;rw [hd] at h1;simpa [Act.put,Array.getD_eq_getD_getElem?,Array.getElem?_setIfInBounds,h2,ht] using h1))
 ·intro y hy;rcases hf y hy with h1 | h1
  ·exact ho y h1
  ·exact .inr (Nat.le_trans kp.size h1)⟩
theorem JS.st {S:List Nat} {i:Nat} {ι:Type} {L':ι→List Res} (hi:ops[i]?=some o) (hd:o.dst=none) (hw:Wants ops o f=true) (q:Ld P c o f L S (fun _=>f) L') (hS:Since T L0 L S)
  (h:∀ x,JD P c ops m T n (listed.setIfInBounds i true) k f (L' x) f0 L0):JS P c ops m T n listed k f L f0 L0 i:=⟨fun a w w0 s s0 kp ho=>by
 refine wpOp_step hi (fun K hK=>?_);rw [Wants.run hw s,if_pos rfl];refine q.go a w s K _ fun x v w' kp' sx hf=>?_
 have kp2:=hS.keeps s kp ho kp';refine hK _ _ (.inr ⟨kp2,(h x).go _ w' w0 sx (by rw [hd];exact s0) kp2 ?_⟩);intro y hy;rcases hf y hy with h1 | h1
 ·exact ho y h1
 ·exact .inr (Nat.le_trans kp.size h1)⟩
theorem JS.q {i t:Nat} {d:D} {U:List Nat} (hi:ops[i]?=some o) (hd:o.dst=some t) (hw:Wants ops o f=true) (ht:t < c.N) (q:Qt P c U o f L d)
  (h:JD P c ops m T n (listed.setIfInBounds i true) k ((t,d) :: f) L ((t,stays d) :: f0) L0):JS P c ops m T n listed k f L f0 L0 i:=⟨fun a w w0 s s0 kp ho=>by
 obtain ⟨v,h1,h2⟩:=q.go a w s;refine wpOp_step hi (fun K hK=>?_);rw [Wants.run hw s,if_pos rfl];simp only [Oper.wp,h2 w (Later.now _ _ _),Oper.upon];exact hK _ _ (.inr ⟨kp,h.go _ w w0 (by rw [hd];exact s.put0 ht h1) (by rw [hd];exact s0.put0 ht (stays.rep h1)) kp ho⟩)⟩
theorem JS.last {i:Nat} {ι:Type} {f':ι→Fm} {L':ι→List Res} {S:List Nat} (hi:ops[i]?=some o) (hw:Wants ops o f=true) (q:Ld P c o f L S f' L') (h:∀ x,JW P c ops n (listed.setIfInBounds i true) k (f' x) (L' x)):JS P c ops (some i) T n listed k f L f0 L0 i:=⟨fun a w w0 s s0 kp ho=>by
 refine wpOp_step hi (fun K hK=>?_);rw [Wants.run hw s,if_pos rfl];exact q.go a w s K _ fun x v w' kp' sx hf=>hK _ _ (.inl ⟨rfl,(h x).go _ w' sx⟩)⟩
theorem JD.each1 {i:Nat} (hr:Region.ready .any ops listed=[i]) (h:JS P c ops m T n listed k f L f0 L0 i):JD P c ops m T (n + 1) listed k f L f0 L0:=⟨fun a w w0 s s0 kp ho=>by
 refine ⟨fun h0=>(by rw [hr] at h0;cases h0),fun j hj=>?_⟩;rw [hr] at hj;simp at hj;subst hj;exact h.go a w w0 s s0 kp ho⟩
theorem JD.each2 {i j:Nat} (hr:Region.ready .any ops listed=[i,j]) (h1:JS P c ops m T n listed k f L f0 L0 i) (h2:JS P c ops m T n listed k f L f0 L0 j):JD P c ops m T (n + 1) listed k f L f0 L0:=⟨fun a w w0 s s0 kp ho=>by
 refine ⟨fun h0=>(by rw [hr] at h0;cases h0),fun j hj=>?_⟩;rw [hr] at hj;simp at hj;rcases hj with rfl | rfl
 ·exact h1.go a w w0 s s0 kp ho
 ·exact h2.go a w w0 s s0 kp ho⟩
theorem JD.done (hl:Region.ready .any ops listed=[]) (h:J P c k f L):JD P c ops m T n listed k f L f0 L0:=⟨fun a w w0 s s0 kp ho=>by
 have hq:=h.go _ w s
 cases n with
 | zero=>exact ⟨hl,rfl,hq⟩
 | succ n=>exact ⟨fun _=>⟨rfl,hq⟩,fun k hk=>by rw [hl] at hk;cases hk⟩⟩
end
end Fl
end Go.Proofs.Ytdibmkjoaghafaa
