/-
  What the laws need, part Q24.
  Conditions: none.
-/
import Derived.Test.YtdibmkjoaghafaaQ23
set_option linter.unusedVariables false
set_option linter.unusedSimpArgs false
set_option linter.unnecessarySimpa false
set_option maxHeartbeats 2000000
namespace Go.Proofs.Ytdibmkjoaghafaa
open Go.RowKit Go.Maps
namespace Fl
def mapT (P:Program) (k:TypeId) (z:Value) (b N:Nat) (val:Int→Value):Res:=.obj [b] (fun w=>∃ n f,n≤N∧MapV P k w b n f∧∀ g,wf64L g→(f g).getD z=val g)
theorem mapT.holds {P:Program} {k:TypeId} {z:Value} {b N:Nat} {val:Int→Value} {ok:Nat→Prop} {w:World}:(mapT P k z b N val).holds ok w↔∃ n f,n≤N∧MapV P k w b n f∧∀ g,wf64L g→(f g).getD z=val g:=by
 constructor
 ·rintro ⟨_,h⟩;exact h w [] (Keeps.refl _ _) (by simp)
 ·rintro ⟨n,f,h1,h2,h3⟩
  exact ⟨fun x hx=>by rw [List.mem_singleton.1 hx];exact h2.lt,fun w' S kp hn=>⟨n,f,h1,h2.keep kp (hn b (by simp)),h3⟩⟩
class MapAt (P:Program) (L:List Res) (b:Nat) (k:outParam TypeId) (z:outParam Value) (N:outParam Nat) (val:outParam (Int→Value)) (i:outParam Nat):Prop where h:L[i]?=some (mapT P k z b N val)
instance MapAt.succ {P:Program} {q:Res} {M:List Res} {b:Nat} {k:TypeId} {z:Value} {N:Nat} {val:Int→Value} {i:Nat} [h:MapAt P M b k z N val i]:MapAt P (q :: M) b k z N val (i + 1):=⟨by simpa using h.h⟩
instance MapAt.zero {P:Program} {M:List Res} {b:Nat} {k:TypeId} {z:Value} {N:Nat} {val:Int→Value}:MapAt P (mapT P k z b N val :: M) b k z N val 0:=⟨rfl⟩
class TyM (P:Program) (X:TypeId) (k e:outParam TypeId) (z:outParam Value):Prop where
 h:P.underlying X=some (.map k e)
 hk:P.underlying k=some (.int .i64)
 hz:∀ w,(zeroValue e).run P w=.ok z w
section
variable {P:Program} {c:Cx} {f:Fm} {L:List Res} {T:TypeId} {ps:String} {af:Array Edge} {gd:Option (Nat × Bool)} {t:Nat} {X k e:TypeId} {z:Value}
theorem Ld.mkMap [i:TyM P X k e z] (ht:t < c.N):Ld P c ⟨some t,.makeMap X none,T,ps,af,gd⟩ f L [] (fun b:Nat=>(t,.c (.v (.map (some b)))) :: f) (fun b=>mapT P k z b 0 (fun _=>z) :: L):=⟨fun a w s K Q hK=>by
 have hk:Keeps [] w (w.alloc (.map #[] 0)):=(Keeps.refl [] w).alloc _;have hrun:(execOp a.eval ⟨some t,.makeMap X none,T,ps,af,gd⟩).run P w=.ok (.value (.map (some w.heap.size))) (w.alloc (.map #[] 0)):=by
  simp [execOp,Sem.run_bind,run_makeMap]
 unfold Oper.wp;rw [hrun];exact hK w.heap.size _ _ hk (s.new ht hk (by simp [Res.foot,mapT]) (mapT.holds.2 ⟨0,_,Nat.le_refl _,MapV.made P k w,fun g _=>rfl⟩) (by unfold RD RA;exact ⟨rfl,rfl⟩)) (foots_new (by simp [Res.foot,mapT]))⟩
theorem Qt.mapGet {x y:Operand} {b N j:Nat} {val:Int→Value} {g:Int} {v:Value} [i:TyM P X k e z] [m:MapAt P L b k z N val j] (hx:evD f x=some (.c (.v (.map (some b))))) (hy:evD f y=some (.c (.v (.int .i64 g)))) (hg:wf64L g) (hv:val g=v) (h1:v.oneCell'=true) :
  Qt P c [j] ⟨some t,.lookup X x y false,T,ps,af,gd⟩ f L (.c (.v v)):=⟨fun a w s=>by
 have rx:=s.val hx;have ry:=s.val hy;obtain ⟨n,F,q1,q2,q3⟩:=mapT.holds.1 (s.res _ (List.mem_of_getElem? m.h));refine ⟨v,by unfold RD RA;exact ⟨rfl,h1⟩,fun w' ⟨S,kp,hS,hn⟩=>?_⟩;have q4:=q2.keep kp fun hm=>hn b hm j (by simp) _ m.h (by simp [Res.foot,mapT])
 obtain ⟨D,d1,d2⟩:=q4;obtain ⟨u,_,hrun,hu⟩:=d1.lookup (int_keyed i.hk) i.h (i.hz w') (zd:=.held z) (zp:=[]) rfl (keyOf_int_mk i.hk hg);rw [show Lit.int IntKind.i64 g=i64L g from rfl,(d2 g hg).2 z] at hu;simp only [valElem,Option.some.injEq,Prod.mk.injEq,DataW.held.injEq] at hu;have:u=v:=by rw [hu.1,q3 g hg,hv]
 subst this;simp [execOp,Sem.run_bind,rx,ry,hrun]⟩
theorem Ld.mapSet {x y u:Operand} {b N j:Nat} {val:Int→Value} {g:Int} {v:Value} {L':List Res} [i:TyM P X k e z] [m:MapAt P L b k z N val j] [st:SetAt L j (mapT P k z b (N + 1) (fun c=>if c=g then v else val c)) L'] (hx:evD f x=some (.c (.v (.map (some b))))) (hy:evD f y=some (.c (.v (.int .i64 g)))) (hu:evD f u=some (.c (.v v))) (hg:wf64L g) (hN:N≤1000000) :
  Ld P c ⟨none,.mapUpdate X x y u,T,ps,af,gd⟩ f L [b] (fun _:Unit=>f) (fun _=>L'):=⟨fun a w s K Q hK=>by
 have rx:=s.val hx;have ry:=s.val hy;have ru:=s.val hu;obtain ⟨n,F,q1,⟨D,d1,d2⟩,q3⟩:=mapT.holds.1 (s.res _ (List.mem_of_getElem? m.h));obtain ⟨w',hrun,r1,r2⟩:=d1.store (int_keyed i.hk) i.h (by unfold maxLen;omega) (val:=v) (d:=.held v) (ps:=[]) (keyOf_int_mk i.hk hg) rfl;have kp:Keeps [b] w w':=keeps_turned r2;have hop:(execOp a.eval ⟨none,.mapUpdate X x y u,T,ps,af,gd⟩).run P w=.ok .skip w':=by
  simp [execOp,Sem.run_bind,rx,ry,ru,hrun]
 have hh:(mapT P k z b (N + 1) (fun c=>if c=g then v else val c)).holds (okk c L) w':=mapT.holds.2 ⟨n + 1,fun c=>if c=g then some v else F c,by omega,⟨_,r1,fun q hq=>by
  by_cases e:q=g
  ·subst e;simp only [if_pos];exact ⟨has_put_same d1.isMap (ikey hg) _,fun z=>atKey_put_same d1.isMap (ikey hg) _ _⟩
  ·simp only [if_neg e];exact ⟨(has_put_other (i64L_ne e) _).trans (d2 q hq).1,fun z=>(atKey_put_other (i64L_ne e) _ _).trans ((d2 q hq).2 z)⟩⟩,fun q hq=>by
  by_cases e:q=g
  ·simp [e]
  ·simp [e,q3 q hq]⟩
 have s2:=s.set m.h (r':=mapT P k z b (N + 1) (fun c=>if c=g then v else val c)) rfl kp hh;rw [st.h] at s2;unfold Oper.wp;rw [hop];refine hK () undef _ kp s2 fun q hq=>?_
 rw [← st.h] at hq;exact .inl ((foots_set m.h (r':=mapT P k z b (N + 1) (fun c=>if c=g then v else val c)) rfl q).1 hq)⟩
end
end Fl
open Go.RowKit
namespace Fl
theorem Since.tres {T:List Nat} {L0 L:List Res} {r:Res} {i:Nat} [bx:ResAt L0 r i] (ht:T.contains i=true):Since T L0 L r.foot:=.there bx.h ht
theorem JO.conRow {P:Program} {c:Cx} {k:List Item} {f:Fm} {L:List Res} {ops:Array Oper} {l:List Oper} {T:TypeId} {ps:String} {af:Array Edge} {gd:Option (Nat × Bool)} {t:Nat} {F:FuncId} {args:List Operand} {tys:Array TypeId} {ds0 ds:List D} {e:TypeId} {sz:Nat} {ll:List (List A)} [i:TyC P F] (hC:Con P F ds [] (fun v:Value=>(D.c (.v v),[Res.row v e sz ll]))) (hw:Wants ops ⟨some t,.call ⟨.value (.func F),args.toArray,tys⟩,T,ps,af,gd⟩ f=true) (ht:t < c.N) (h:evDs f args=some ds0) (hle:LeDs ds0 ds)
  (hk:∀ v,JO P c ops l k ((t,.c (.v v)) :: f) (.row v e sz ll :: L)):JO P c ops (⟨some t,.call ⟨.value (.func F),args.toArray,tys⟩,T,ps,af,gd⟩ :: l) k f L :=
 JO.call hC hw ht h hle (Ll:=[]) (Lr:=L) rfl hk
section
variable {P:Program} {c:Cx} {k:List Item} {f:Fm} {L:List Res} {t b:Nat} {B:TypeId} {cs:List A}
theorem St.freezeP {a:Act} {w:World} (s:St c ((t,.c (.v (.pointer (some ⟨b,0,none⟩)))) :: f) (.box b B cs :: L) a w):St c ((t,.el cs 0) :: f) L a w:=by
 have m:Mon (okk c (.box b B cs :: L)) (okk c L) w w:=⟨Nat.le_refl _,fun g _ ho=>⟨⟨ho.1,fun hx=>ho.2 ((foots_cons _ _ _).2 (.inr hx))⟩,rfl⟩⟩
 have ap:=List.pairwise_cons.1 s.ap;refine ⟨s.kp,s.size,s.dfr,fun q hq=>(s.res q (List.mem_cons_of_mem _ hq)).mon (Keeps.refl [] w) m (by simp),fun x hx=>s.frm x ((foots_cons _ _ _).2 (.inr hx)),ap.2,fun u e' hu=>?_⟩
 by_cases e1:t=u
 ·subst e1;rw [look_cons_eq] at hu;cases hu;have hv:=s.fr t _ (look_cons_eq _ _ _);obtain ⟨vs,r1,r2⟩:=s.res _ (List.mem_cons_self ..);unfold RD RA at hv;rw [hv.1];unfold RD;have hb:b∈(Res.box b B cs).foot:=by simp [Res.foot]
  refine ⟨b,0,vs,rfl,⟨.inr (s.frm b ((foots_cons _ _ _).2 (.inl hb))),fun hx=>?_⟩,r1.lt,r1.range,RC.mon m _ _ r2⟩;obtain ⟨q,hq,hxq⟩:=mem_foots.1 hx;exact ap.1 q hq b hb hxq
 ·rw [look_cons_ne e1] at hu;exact RD.mon m e' _ (s.fr u e' (by rw [look_cons_ne e1];exact hu))
theorem J.frzP (t:Nat) (h1:look f t=some (.c (.v (.pointer (some ⟨b,0,none⟩))))) (h:J P c k ((t,.el cs 0) :: f) L):J P c k f (.box b B cs :: L):=⟨fun a w s=>by
 have s1:St c ((t,.c (.v (.pointer (some ⟨b,0,none⟩)))) :: f) (.box b B cs :: L) a w:=by
  refine ⟨s.kp,s.size,s.dfr,s.res,s.frm,s.ap,fun u d hu=>?_⟩
  by_cases e1:t=u
  ·subst e1;rw [look_cons_eq] at hu;cases hu;exact s.fr t _ h1
  ·rw [look_cons_ne e1] at hu;exact s.fr u d hu
 exact h.go a w s1.freezeP⟩
end
def staysO:D→D
 | .ow v sz k o=>.ow v sz k o
 | d=>stays d
theorem staysO.rep {d:D} {ok ok':Nat→Prop} {w w':World} {x:Value} (h:RD ok w d x):RD ok' w' (staysO d) x:=by
 unfold staysO
 split
 ·unfold RD at h ⊢;exact h
 ·exact stays.rep h
section
variable {P:Program} {c:Cx} {k:List Item} {f f0:Fm} {L L0:List Res} {ops:Array Oper} {o:Oper} {m:Option Nat} {n:Nat} {listed:Array Bool}
theorem JS.ldB {S:List Nat} {i t:Nat} {ι:Type} {g:ι→D} {L':ι→List Res} (hi:ops[i]?=some o) (hd:o.dst=some t) (hw:Wants ops o f=true) (ht:t < c.N) (q:Ld P c o f L S (fun x=>(t,g x) :: f) L') (hS:SubF S L)
  (h:∀ x,JD P c ops m (allT L0) n (listed.setIfInBounds i true) k ((t,g x) :: f) (L' x) ((t,staysO (g x)) :: f0) L0):JS P c ops m (allT L0) n listed k f L f0 L0 i:=⟨fun a w w0 s s0 kp ho=>by
 refine wpOp_step hi (fun K hK=>?_);rw [Wants.run hw s,if_pos rfl];refine q.go a w s K _ fun x v w' kp' sx hf=>?_
 have kp2:Keeps (blk L0 (allT L0)) w0 w':=kp.trans kp' fun x hx=>by
  rcases ho x (hS x hx) with h | h
  ·exact .inl (blk_all h)
  ·exact .inr h
 refine hK _ _ (.inr ⟨kp2,(h x).go _ w' w0 sx ?_ kp2 ?_⟩)
 ·rw [hd];exact s0.put0 ht (staysO.rep (by
   have h1:=sx.fr t (g x) (look_cons_eq _ _ _);have h2:=s.size;rw [hd] at h1;simpa [Act.put,Array.getD_eq_getD_getElem?,Array.getElem?_setIfInBounds,h2,ht] using h1))
 ·intro y hy;rcases hf y hy with h1 | h1
  ·exact ho y h1
  ·exact .inr (Nat.le_trans kp.size h1)⟩
theorem JS.qB {T:List Nat} {i t:Nat} {d:D} {U:List Nat} (hi:ops[i]?=some o) (hd:o.dst=some t) (hw:Wants ops o f=true) (ht:t < c.N) (q:Qt P c U o f L d)
  (h:JD P c ops m T n (listed.setIfInBounds i true) k ((t,d) :: f) L ((t,staysO d) :: f0) L0):JS P c ops m T n listed k f L f0 L0 i:=⟨fun a w w0 s s0 kp ho=>by
 obtain ⟨v,h1,h2⟩:=q.go a w s;refine wpOp_step hi (fun K hK=>?_);rw [Wants.run hw s,if_pos rfl];simp only [Oper.wp,h2 w (Later.now _ _ _),Oper.upon];exact hK _ _ (.inr ⟨kp,h.go _ w w0 (by rw [hd];exact s.put0 ht h1) (by rw [hd];exact s0.put0 ht (staysO.rep h1)) kp ho⟩)⟩
end
end Fl
open Go.RowKit
namespace Fl
set_option maxRecDepth 100000
set_option maxHeartbeats 4000000
instance tyMk:TyM Try.prog 72 3 23 (.slice none 0 0) where
 h:=Try.underlying72
 hk:=Try.underlying3
 hz w:=by
  have h:(Try.prog.info? 23).map (fun i=>i.zero)=some (some (.slice none 0 0)):=by kernel_rfl
  cases hi:Try.prog.info? 23 with
  | none=>rw [hi] at h;cases h
  | some i =>
   rw [hi] at h;have h2:i.zero=some (.slice none 0 0):=by simpa using h
   simp [zeroValue,typeInfo,hi,h2]
def rwG (l:List Sx.Mk) (n k:Nat) (val:Int→Value):List Res:=(List.range n).map fun (g:Nat)=>.row (val (g:Int)) 52 13 ((Jg.ofG (l.take k) (g:Int)).map eM)
theorem rwG_at {l:List Sx.Mk} {n k:Nat} {val:Int→Value} {g:Int} (h0:0≤g) (h1:g < (n:Int)):(rwG l n k val)[g.toNat]?=some (.row (val g) 52 13 ((Jg.ofG (l.take k) g).map eM)):=by
 unfold rwG;rw [List.getElem?_eq_getElem (by simp;omega)];simp only [List.getElem_map,List.getElem_range];rw [show ((g.toNat:Nat):Int)=g by omega]
theorem rwG_set {l:List Sx.Mk} {n k:Nat} {val:Int→Value} {m:Sx.Mk} {v:Value} (hm:l[k]?=some m) (h0:0≤m.g):rwG l n (k + 1) (fun c=>if c=m.g then v else val c)=(rwG l n k val).set m.g.toNat (.row v 52 13 ((Jg.ofG (l.take k) m.g).map eM ++ [eM m])):=by
 unfold rwG;refine List.ext_getElem (by simp) fun i h1 h2=>?_
 rw [List.getElem_set];simp only [List.getElem_map,List.getElem_range];rw [Jg.ofG_snoc _ hm]
 by_cases e:m.g.toNat=i
 ·have:(i:Int)=m.g:=by omega
  rw [if_pos e,this,if_pos rfl,if_pos rfl];simp
 ·have:¬ (i:Int)=m.g:=by omega
  rw [if_neg e,if_neg this,if_neg (fun q=>this q.symm),List.append_nil]
theorem rwG_0 (l:List Sx.Mk) (n:Nat) (v:Value):rwG l n 0 (fun _=>v)=List.replicate n (.row v 52 13 []):=by
 unfold rwG;refine List.ext_getElem (by simp) fun i h1 h2=>?_
 simp [Jg.ofG]
section
variable {P:Program} {c:Cx} {k:List Item} {f:Fm} {L:List Res}
theorem J.nilsM (e sz:Nat):∀ (n:Nat) {A:List Res},J P c k f (A ++ List.replicate n (.row (.slice none 0 0) e sz []))→J P c k f A
 | 0,A,h=>by simpa using h
 | n + 1,A,h=>J.nilsM e sz n (J.nilR e sz (J.perm (by rw [List.replicate_succ];exact List.perm_middle) h))
theorem J.pull1 {x:Res} {R:List Res} {j:Nat} {r:Res} (hj:R[j]?=some r) (h:J P c k f (r :: x :: R.eraseIdx j)):J P c k f (x :: R) :=
 J.perm ((List.Perm.swap _ _ _).trans ((pull_perm R j hj).cons _)) h
theorem J.put1 {x r r':Res} {R:List Res} {j:Nat} (hj:R[j]?=some r) (h:J P c k f (x :: R.set j r')):J P c k f (r' :: x :: R.eraseIdx j) :=
 J.perm (((set_perm hj).cons _).trans (List.Perm.swap _ _ _)) h
theorem J.rowOne {v:Value} {e sz i:Nat} {ll:List (List A)} [r:RowAt L v e sz ll i] (h:v.oneCell'=true→J P c k f L):J P c k f L:=⟨fun a w s=>by
 obtain ⟨xs,r1,r2⟩:=s.res _ (List.mem_of_getElem? r.h);obtain ⟨ao,cap,hv⟩:=r1.view.shape;exact (h (by rw [hv];rfl)).go a w s⟩
end
theorem in_no {p:List (List Pn.Op)} {m:Sx.Mk} (h:¬ (0≤m.g∧m.g < (p.length:Int)∧0≤m.op∧m.op < ((p.getD m.g.toNat []).length:Int))):Jg.inP p m=false:=by
 unfold Jg.inP;exact decide_eq_false h
theorem in_yes {p:List (List Pn.Op)} {m:Sx.Mk} (h:0≤m.g∧m.g < (p.length:Int)∧0≤m.op∧m.op < ((p.getD m.g.toNat []).length:Int)):Jg.inP p m=true:=by
 unfold Jg.inP;exact decide_eq_true h
theorem t_Fits (p:List (List Pn.Op)) (l:List Sx.Mk) (hs:l.length≤400) (hp:p.length≤400):Pure Try.prog 7 [.c (opsA p),.c (.r 13 (l.map eM))] (.c (bI (Jg.fits p l))):=by
 refine Con.intro Try.func7 rfl rfl rfl (fun ok e=>?_)
 by_cases hl:l.length≤128
 case neg =>
  have t1:decide ((l.length:Int) > 128)=true:=decide_eq_true (by omega);rw [Jg.fits_no (.inr (by omega))]
  repeat (refine gn ?_)
  exact rtQ Try.func7
 have t1:decide ((l.length:Int) > 128)=false:=decide_eq_false (by omega);have CR:=c_wRight p;have hwf:∀ x:Int,0≤x→x < 1000→wf64L x:=fun x h1 h2=>by unfold wf64L Lit.wf;simp [IntKind.min,IntKind.max,IntKind.signed,IntKind.bits];omega
 cases hr:Pn.right p
 ·rw [hr] at CR;rw [Jg.fits_no (.inl hr)]
  repeat (refine gn ?_)
  exact rtQ Try.func7
 rw [hr] at CR
 repeat (first | refine JO.ld (Ld.mkMap (qb rfl)) rfl (fun _=>?_) | refine gn ?_)
 rename_i b5;refine J.nilsM 52 13 p.length ?_;rw [← rwG_0 l p.length];refine J.loop (ι:={ q:Nat × (Int→Value) // q.1≤l.length∧Jg.fitTo p l q.1∧∀ c,(q.2 c).oneCell'=true }) (fun q=>[(20,.c (nI q.1.1)),(19,.c (nI l.length)),(18,.c (.r 13 (l.map eM))),(5,.c (.v (.map (some b5)))),(0,.c (opsA p))])
  (fun q=>mapT Try.prog 3 (.slice none 0 0) b5 q.1.1 q.1.2 :: rwG l p.length q.1.1 q.1.2) (fun q=>l.length - q.1.1) ⟨(0,fun _=>.slice none 0 0),Nat.zero_le _,by unfold Jg.fitTo;simp,fun _=>rfl⟩
  (fun X h=>h.weak ⟨rfl,rfl,rfl,rfl,rfl,trivial⟩) (fun q ih=>?_)
 obtain ⟨⟨k,val⟩,hk',hft,hone⟩:=q;simp only at hk' ih hft hone ⊢
 by_cases hk:k < l.length
 ·have t2:decide ((k:Int) < (l.length:Int))=true:=decide_eq_true (by omega);obtain ⟨m,hm⟩:∃ m,l[k]?=some m:=⟨_,List.getElem?_eq_getElem hk⟩
  have AX:=s_at (enc:=eM) hm;have ST:=t_steps m
  by_cases x0:m.g < 0
  ·have g0:decide (m.g < 0)=true:=decide_eq_true x0;rw [Jg.fits_bad hm (by rw [in_no (by omega)];rfl)]
   repeat (first | (refine K.store ?_;refine JO.ld (Ld.storeW rfl rfl rfl (by exact rfl) (by exact rfl)) rfl (fun _=>?_)) | refine gmQ ?_ | intro _)
   refine J.draw (by kernel_rfl) rfl ?_;refine JW.base none ?_;refine tk 0 ?_;refine tk 1 ?_;refine JD.take 2 rfl rfl (by kernel_rfl) rfl (qb rfl) (Qt.cmp rfl rfl (congrArg some g0)) rfl ?_;refine tk 3 ?_
   (refine JD.skip 4 rfl rfl (by kernel_rfl) rfl (qb rfl) ?_)
   (refine JD.skip 5 rfl rfl (by kernel_rfl) rfl (qb rfl) ?_)
   (refine JD.skip 6 rfl rfl (by kernel_rfl) rfl (qb rfl) ?_)
   (refine JD.skip 7 rfl rfl (by kernel_rfl) rfl (qb rfl) ?_)
   (refine JD.skip 8 rfl rfl (by kernel_rfl) rfl (qb rfl) ?_)
   refine tk 9 ?_;refine tk 10 ?_
   (refine JD.skip 11 rfl rfl (by kernel_rfl) rfl (qb rfl) ?_)
   (refine JD.skip 12 rfl rfl (by kernel_rfl) rfl (qb rfl) ?_)
   (refine JD.skip 13 rfl rfl (by kernel_rfl) rfl (qb rfl) ?_)
   refine tk 14 ?_;refine tk 15 ?_
   (refine JD.skip 16 rfl rfl (by kernel_rfl) rfl (qb rfl) ?_)
   (refine JD.skip 17 rfl rfl (by kernel_rfl) rfl (qb rfl) ?_)
   (refine JD.skip 18 rfl rfl (by kernel_rfl) rfl (qb rfl) ?_)
   (refine JD.skip 19 rfl rfl (by kernel_rfl) rfl (qb rfl) ?_)
   (refine JD.skip 20 rfl rfl (by kernel_rfl) rfl (qb rfl) ?_)
   (refine JD.skip 21 rfl rfl (by kernel_rfl) rfl (qb rfl) ?_)
   (refine JD.skip 22 rfl rfl (by kernel_rfl) rfl (qb rfl) ?_)
   (refine JD.skip 23 rfl rfl (by kernel_rfl) rfl (qb rfl) ?_)
   (refine JD.skip 24 rfl rfl (by kernel_rfl) rfl (qb rfl) ?_)
   refine tk 25 ?_;refine tk 26 ?_
   (refine JD.skip 27 rfl rfl (by kernel_rfl) rfl (qb rfl) ?_)
   (refine JD.skip 28 rfl rfl (by kernel_rfl) rfl (qb rfl) ?_)
   (refine JD.skip 29 rfl rfl (by kernel_rfl) rfl (qb rfl) ?_)
   refine tk 30 ?_;refine dnQ ?_
   repeat (refine gn ?_)
   exact rtQ Try.func7
  have g0:decide (m.g < 0)=false:=decide_eq_false x0
  by_cases x1:m.g ≥ (p.length:Int)
  ·have g1:decide (m.g ≥ (p.length:Int))=true:=decide_eq_true x1;rw [Jg.fits_bad hm (by rw [in_no (by omega)];rfl)]
   repeat (first | (refine K.store ?_;refine JO.ld (Ld.storeW rfl rfl rfl (by exact rfl) (by exact rfl)) rfl (fun _=>?_)) | refine gmQ ?_ | intro _)
   refine J.draw (by kernel_rfl) rfl ?_;refine JW.base none ?_;refine tk 0 ?_;refine tk 1 ?_;refine JD.take 2 rfl rfl (by kernel_rfl) rfl (qb rfl) (Qt.cmp rfl rfl (congrArg some g0)) rfl ?_;refine tk 3 ?_;refine tk 4 ?_;refine tk 5 ?_;refine tk 6 ?_;refine tk 7 ?_
   (refine JD.take 8 rfl rfl (by kernel_rfl) rfl (qb rfl) (Qt.cmp rfl rfl (congrArg some g1)) rfl ?_)
   refine tk 9 ?_;refine tk 10 ?_
   (refine JD.skip 11 rfl rfl (by kernel_rfl) rfl (qb rfl) ?_)
   (refine JD.skip 12 rfl rfl (by kernel_rfl) rfl (qb rfl) ?_)
   (refine JD.skip 13 rfl rfl (by kernel_rfl) rfl (qb rfl) ?_)
   refine tk 14 ?_;refine tk 15 ?_
   (refine JD.skip 16 rfl rfl (by kernel_rfl) rfl (qb rfl) ?_)
   (refine JD.skip 17 rfl rfl (by kernel_rfl) rfl (qb rfl) ?_)
   (refine JD.skip 18 rfl rfl (by kernel_rfl) rfl (qb rfl) ?_)
   (refine JD.skip 19 rfl rfl (by kernel_rfl) rfl (qb rfl) ?_)
   (refine JD.skip 20 rfl rfl (by kernel_rfl) rfl (qb rfl) ?_)
   (refine JD.skip 21 rfl rfl (by kernel_rfl) rfl (qb rfl) ?_)
   (refine JD.skip 22 rfl rfl (by kernel_rfl) rfl (qb rfl) ?_)
   (refine JD.skip 23 rfl rfl (by kernel_rfl) rfl (qb rfl) ?_)
   (refine JD.skip 24 rfl rfl (by kernel_rfl) rfl (qb rfl) ?_)
   refine tk 25 ?_;refine tk 26 ?_
   (refine JD.skip 27 rfl rfl (by kernel_rfl) rfl (qb rfl) ?_)
   (refine JD.skip 28 rfl rfl (by kernel_rfl) rfl (qb rfl) ?_)
   (refine JD.skip 29 rfl rfl (by kernel_rfl) rfl (qb rfl) ?_)
   refine tk 30 ?_;refine dnQ ?_
   repeat (refine gn ?_)
   exact rtQ Try.func7
  have g1:decide (m.g ≥ (p.length:Int))=false:=decide_eq_false x1
  by_cases x2:m.op < 0
  ·have g2:decide (m.op < 0)=true:=decide_eq_true x2;rw [Jg.fits_bad hm (by rw [in_no (by omega)];rfl)]
   repeat (first | (refine K.store ?_;refine JO.ld (Ld.storeW rfl rfl rfl (by exact rfl) (by exact rfl)) rfl (fun _=>?_)) | refine gmQ ?_ | intro _)
   refine J.draw (by kernel_rfl) rfl ?_;refine JW.base none ?_;refine tk 0 ?_;refine tk 1 ?_;refine JD.take 2 rfl rfl (by kernel_rfl) rfl (qb rfl) (Qt.cmp rfl rfl (congrArg some g0)) rfl ?_;refine tk 3 ?_;refine tk 4 ?_;refine tk 5 ?_;refine tk 6 ?_;refine tk 7 ?_
   (refine JD.take 8 rfl rfl (by kernel_rfl) rfl (qb rfl) (Qt.cmp rfl rfl (congrArg some g1)) rfl ?_)
   refine tk 9 ?_;refine tk 10 ?_;refine tk 11 ?_;refine tk 12 ?_
   (refine JD.take 13 rfl rfl (by kernel_rfl) rfl (qb rfl) (Qt.cmp rfl rfl (congrArg some g2)) rfl ?_)
   refine tk 14 ?_;refine tk 15 ?_
   (refine JD.skip 16 rfl rfl (by kernel_rfl) rfl (qb rfl) ?_)
   (refine JD.skip 17 rfl rfl (by kernel_rfl) rfl (qb rfl) ?_)
   (refine JD.skip 18 rfl rfl (by kernel_rfl) rfl (qb rfl) ?_)
   (refine JD.skip 19 rfl rfl (by kernel_rfl) rfl (qb rfl) ?_)
   (refine JD.skip 20 rfl rfl (by kernel_rfl) rfl (qb rfl) ?_)
   (refine JD.skip 21 rfl rfl (by kernel_rfl) rfl (qb rfl) ?_)
   (refine JD.skip 22 rfl rfl (by kernel_rfl) rfl (qb rfl) ?_)
   (refine JD.skip 23 rfl rfl (by kernel_rfl) rfl (qb rfl) ?_)
   (refine JD.skip 24 rfl rfl (by kernel_rfl) rfl (qb rfl) ?_)
   refine tk 25 ?_;refine tk 26 ?_
   (refine JD.skip 27 rfl rfl (by kernel_rfl) rfl (qb rfl) ?_)
   (refine JD.skip 28 rfl rfl (by kernel_rfl) rfl (qb rfl) ?_)
   (refine JD.skip 29 rfl rfl (by kernel_rfl) rfl (qb rfl) ?_)
   refine tk 30 ?_;refine dnQ ?_
   repeat (refine gn ?_)
   exact rtQ Try.func7
  have g2:decide (m.op < 0)=false:=decide_eq_false x2;obtain ⟨ops,ho⟩:∃ ops,p[m.g.toNat]?=some ops:=⟨_,List.getElem?_eq_getElem (by omega)⟩
  have z0:0≤m.g:=by omega
  have ed:p.getD m.g.toNat []=ops:=by rw [List.getD_eq_getElem?_getD,ho];rfl
  have AP:(p.map fun ops=>[A.r 6 (ops.map eOp)])[m.g.toNat]?=some [A.r 6 (ops.map eOp)]:=by rw [List.getElem?_map,ho];rfl
  by_cases x3:m.op ≥ (ops.length:Int)
  ·have g3:decide (m.op ≥ (ops.length:Int))=true:=decide_eq_true x3;rw [Jg.fits_bad hm (by rw [in_no (by rw [ed];omega)];rfl)]
   repeat (first | (refine K.store ?_;refine JO.ld (Ld.storeW rfl rfl rfl (by exact rfl) (by exact rfl)) rfl (fun _=>?_)) | refine gmQ ?_ | intro _)
   refine J.draw (by kernel_rfl) rfl ?_;refine JW.base none ?_;refine tk 0 ?_;refine tk 1 ?_;refine JD.take 2 rfl rfl (by kernel_rfl) rfl (qb rfl) (Qt.cmp rfl rfl (congrArg some g0)) rfl ?_;refine tk 3 ?_;refine tk 4 ?_;refine tk 5 ?_;refine tk 6 ?_;refine tk 7 ?_
   (refine JD.take 8 rfl rfl (by kernel_rfl) rfl (qb rfl) (Qt.cmp rfl rfl (congrArg some g1)) rfl ?_)
   refine tk 9 ?_;refine tk 10 ?_;refine tk 11 ?_;refine tk 12 ?_
   (refine JD.take 13 rfl rfl (by kernel_rfl) rfl (qb rfl) (Qt.cmp rfl rfl (congrArg some g2)) rfl ?_)
   refine tk 14 ?_;refine tk 15 ?_;refine tk 16 ?_;refine tk 17 ?_;refine tk 18 ?_;refine tk 19 ?_;refine tk 20 ?_
   (refine JD.take 21 rfl rfl (by kernel_rfl) rfl (qb rfl) (Qt.indexR rfl rfl z0 AP) rfl ?_)
   refine tk 22 ?_;refine tk 23 ?_
   (refine JD.take 24 rfl rfl (by kernel_rfl) rfl (qb rfl) (Qt.cmp rfl rfl (congrArg some g3)) rfl ?_)
   refine tk 25 ?_;refine tk 26 ?_
   (refine JD.skip 27 rfl rfl (by kernel_rfl) rfl (qb rfl) ?_)
   (refine JD.skip 28 rfl rfl (by kernel_rfl) rfl (qb rfl) ?_)
   (refine JD.skip 29 rfl rfl (by kernel_rfl) rfl (qb rfl) ?_)
   refine tk 30 ?_;refine dnQ ?_
   repeat (refine gn ?_)
   exact rtQ Try.func7
  have g3:decide (m.op ≥ (ops.length:Int))=false:=decide_eq_false x3;have hin:Jg.inP p m=true:=in_yes (by rw [ed];omega)
  cases hst:Jg.steps m
  ·rw [hst] at ST;rw [Jg.fits_bad hm (by rw [hst,Bool.and_false])]
   repeat (first | (refine K.store ?_;refine JO.ld (Ld.storeW rfl rfl rfl (by exact rfl) (by exact rfl)) rfl (fun _=>?_)) | refine gmQ ?_ | intro _)
   refine J.draw (by kernel_rfl) rfl ?_;refine JW.base none ?_;refine tk 0 ?_;refine tk 1 ?_;refine JD.take 2 rfl rfl (by kernel_rfl) rfl (qb rfl) (Qt.cmp rfl rfl (congrArg some g0)) rfl ?_;refine tk 3 ?_;refine tk 4 ?_;refine tk 5 ?_;refine tk 6 ?_;refine tk 7 ?_
   (refine JD.take 8 rfl rfl (by kernel_rfl) rfl (qb rfl) (Qt.cmp rfl rfl (congrArg some g1)) rfl ?_)
   refine tk 9 ?_;refine tk 10 ?_;refine tk 11 ?_;refine tk 12 ?_
   (refine JD.take 13 rfl rfl (by kernel_rfl) rfl (qb rfl) (Qt.cmp rfl rfl (congrArg some g2)) rfl ?_)
   refine tk 14 ?_;refine tk 15 ?_;refine tk 16 ?_;refine tk 17 ?_;refine tk 18 ?_;refine tk 19 ?_;refine tk 20 ?_
   (refine JD.take 21 rfl rfl (by kernel_rfl) rfl (qb rfl) (Qt.indexR rfl rfl z0 AP) rfl ?_)
   refine tk 22 ?_;refine tk 23 ?_
   (refine JD.take 24 rfl rfl (by kernel_rfl) rfl (qb rfl) (Qt.cmp rfl rfl (congrArg some g3)) rfl ?_)
   refine tk 25 ?_;refine tk 26 ?_;refine tk 27 ?_;refine jl 28 rfl rfl rfl rfl (Ld.pure (ST) (qb rfl) rfl (by repeat (first | exact LeDs.nil | refine LeDs.cons (LeD.agg (by repeat (first | exact .nil | refine .cons .refl ?_))) ?_))) .none (fun _=>?_);refine tk 29 ?_;refine jk 30 rfl rfl rfl rfl (Qt.pick rfl rfl) ?_;refine dnQ ?_
   repeat (refine gn ?_)
   exact rtQ Try.func7
  rw [hst] at ST;have ft:=List.length_take_le k l;have fo:(Jg.ofG (l.take k) m.g).length≤(l.take k).length:=List.length_filter_le _ _;have bd:(((Jg.ofG (l.take k) m.g).map eM).length + [eM m].length) * 104≤140737488355328:=by simp only [List.length_map,List.length_cons,List.length_nil];omega
  have hgw:wf64L m.g:=hwf _ z0 (by omega);have hat:=rwG_at (l:=l) (k:=k) (val:=val) z0 (show m.g < (p.length:Int) by omega)
  repeat (first | (refine K.store ?_;refine JO.ld (Ld.storeW rfl rfl rfl (by exact rfl) (by exact rfl)) rfl (fun _=>?_)) | refine gmQ ?_ | intro _)
  refine J.draw (by kernel_rfl) rfl ?_;refine JW.base none ?_;refine tk 0 ?_;refine tk 1 ?_;refine JD.take 2 rfl rfl (by kernel_rfl) rfl (qb rfl) (Qt.cmp rfl rfl (congrArg some g0)) rfl ?_;refine tk 3 ?_;refine tk 4 ?_;refine tk 5 ?_;refine tk 6 ?_;refine tk 7 ?_
  (refine JD.take 8 rfl rfl (by kernel_rfl) rfl (qb rfl) (Qt.cmp rfl rfl (congrArg some g1)) rfl ?_)
  refine tk 9 ?_;refine tk 10 ?_;refine tk 11 ?_;refine tk 12 ?_
  (refine JD.take 13 rfl rfl (by kernel_rfl) rfl (qb rfl) (Qt.cmp rfl rfl (congrArg some g2)) rfl ?_)
  refine tk 14 ?_;refine tk 15 ?_;refine tk 16 ?_;refine tk 17 ?_;refine tk 18 ?_;refine tk 19 ?_;refine tk 20 ?_
  (refine JD.take 21 rfl rfl (by kernel_rfl) rfl (qb rfl) (Qt.indexR rfl rfl z0 AP) rfl ?_)
  refine tk 22 ?_;refine tk 23 ?_
  (refine JD.take 24 rfl rfl (by kernel_rfl) rfl (qb rfl) (Qt.cmp rfl rfl (congrArg some g3)) rfl ?_)
  refine tk 25 ?_;refine tk 26 ?_;refine tk 27 ?_;refine jl 28 rfl rfl rfl rfl (Ld.pure (ST) (qb rfl) rfl (by repeat (first | exact LeDs.nil | refine LeDs.cons (LeD.agg (by repeat (first | exact .nil | refine .cons .refl ?_))) ?_))) .none (fun _=>?_);refine tk 29 ?_;refine jk 30 rfl rfl rfl rfl (Qt.pick rfl rfl) ?_;refine dnQ ?_
  repeat (refine gn ?_)
  refine J.frzP 7 rfl ?_;refine J.pull1 hat ?_;refine J.draw (by kernel_rfl) rfl ?_;refine JW.baseA (some 10) ?_;refine tk 0 ?_;refine tk 1 ?_;refine tk 2 ?_;refine tk 3 ?_;refine tk 4 ?_;refine tk 5 ?_;refine tk 7 ?_;refine JD.each2 (i:=6) (j:=8) (by kernel_rfl) ?_ ?_;refine JS.qB rfl rfl rfl (qb rfl) (Qt.mapGet rfl rfl hgw rfl (hone _)) ?_;refine JD.each1 (i:=8) (by kernel_rfl) ?_;refine JS.ldB rfl rfl rfl (qb rfl) (Ld.lit1R (qb rfl) rfl rfl rfl rfl rfl) (SubF.nil) (fun _=>?_);refine JD.each1 (i:=9) (by kernel_rfl) ?_;refine JS.ldB rfl rfl rfl (qb rfl) (Ld.appOw (qb rfl) rfl rfl .read bd) (SubF.row) (fun _=>?_);refine jt 10 rfl rfl (Ld.mapSet rfl rfl rfl hgw (by omega)) (fun _=>?_);refine wnQ ?_
  rotate_left
  refine JS.ldB rfl rfl rfl (qb rfl) (Ld.lit1R (qb rfl) rfl rfl rfl rfl rfl) (SubF.nil) (fun _=>?_);refine JD.each1 (i:=6) (by kernel_rfl) ?_;refine JS.qB rfl rfl rfl (qb rfl) (Qt.mapGet rfl rfl hgw rfl (hone _)) ?_;refine JD.each1 (i:=9) (by kernel_rfl) ?_;refine JS.ldB rfl rfl rfl (qb rfl) (Ld.appOw (qb rfl) rfl rfl .read bd) (SubF.row) (fun _=>?_);refine jt 10 rfl rfl (Ld.mapSet rfl rfl rfl hgw (by omega)) (fun _=>?_);refine wnQ ?_
  rotate_left
  all_goals
   rename_i v' _
   repeat (refine gn ?_)
   refine J.rowOne (v:=v') (fun hv=>?_);refine J.put1 hat ?_;refine J.congL ?_ ((ih ⟨(k + 1,fun c=>if c=m.g then v' else val c),by simp only;omega,Jg.fitTo_snoc hm hin hst hft,fun c=>by simp only;split;exact hv;exact hone c⟩ (by simp only;omega)).weak ⟨rfl,rfl,rfl,rfl,rfl,trivial⟩);simp only;rw [rwG_set hm z0];rfl
 ·obtain rfl:k=l.length:=by omega
  have t2:decide ((l.length:Int) < (l.length:Int))=false:=decide_eq_false (by omega);rw [show rwG l p.length l.length val=(List.range p.length).map (fun (g:Nat)=>.row (val (g:Int)) 52 13 ((Jg.ofG l (g:Int)).map eM)) by unfold rwG;rw [List.take_length]];generalize hR:(List.range p.length).map (fun (g:Nat)=>Res.row (val (g:Int)) 52 13 ((Jg.ofG l (g:Int)).map eM))=R;clear ih
  repeat (refine gn ?_)
  refine J.loop (ι:={ g:Nat // g≤p.length∧∀ j,j < g→Jg.inRow (Jg.ofG l (j:Nat))=true }) (fun q=>[(68,.c (nI q.1)),(67,.c (nI p.length)),(5,.c (.v (.map (some b5))))]) (fun q=>mapT Try.prog 3 (.slice none 0 0) b5 l.length val :: R) (fun q=>p.length - q.1) ⟨0,Nat.zero_le _,fun j hj=>by omega⟩ (fun X h=>h.weak ⟨rfl,rfl,rfl,trivial⟩) (fun q ih=>?_);obtain ⟨g,hg',hgo⟩:=q;simp only at hg' ih ⊢
  by_cases hg:g < p.length
  ·have t3:decide ((g:Int) < (p.length:Int))=true:=decide_eq_true (by omega);have hgw:wf64L (g:Int):=hwf _ (by omega) (by omega);have hat:R[g]?=some (.row (val (g:Int)) 52 13 ((Jg.ofG l (g:Int)).map eM)):=by
    rw [← hR,List.getElem?_map,List.getElem?_range hg];rfl
   have fo:(Jg.ofG l (g:Int)).length≤l.length:=List.length_filter_le _ _;have IR:=Con.onRow (v:=val (g:Int)) (e:=52) (t_inRow (Jg.ofG l (g:Int)) (by omega) (fun m hm=>by
    have:=(hft m (by rw [List.take_length];exact (Jg.mem_of.1 hm).1)).1;unfold Jg.inP at this;simp only [decide_eq_true_eq] at this;omega))
   refine J.pull1 hat ?_
   cases hi:Jg.inRow (Jg.ofG l (g:Int))
   ·rw [hi] at IR;rw [Jg.fits_row hg hi]
    repeat (first | refine jq rfl rfl rfl (Qt.mapGet rfl rfl hgw rfl (hone _)) ?_ | (refine K.call ?_;refine JO.ld (Ld.callT (IR) (qb rfl) rfl (LeDs.cons .refl .nil)) rfl (fun _=>?_)) | refine gn ?_)
    exact rtQ Try.func7
   ·rw [hi] at IR
    repeat (first | refine jq rfl rfl rfl (Qt.mapGet rfl rfl hgw rfl (hone _)) ?_ | (refine K.call ?_;refine JO.ld (Ld.callT (IR) (qb rfl) rfl (LeDs.cons .refl .nil)) rfl (fun _=>?_)) | refine gn ?_)
    refine J.perm ?_ ((ih ⟨g + 1,by omega,fun j hj=>by
     by_cases e:j=g
     ·rw [e];exact hi
     ·exact hgo j (by omega)⟩ (by simp only;omega)).weak ⟨rfl,rfl,rfl,trivial⟩)
    exact ((pull_perm R g hat).symm.cons _).trans (List.Perm.swap _ _ _)
  ·obtain rfl:g=p.length:=by omega
   have t3:decide ((p.length:Int) < (p.length:Int))=false:=decide_eq_false (by omega);rw [Jg.fits_all hr hl hft (fun g hg=>hgo g hg)]
   repeat (refine gn ?_)
   exact rtQ Try.func7
end Fl
open Go.RowKit
namespace Fl
theorem put_all (off:Nat):∀ (l:List Value) (k:Nat) (z:Array Value),off + (k + l.length)≤z.size →
  (l.zipIdx k).foldl (fun cs x=>cs.setIfInBounds (off + x.2) x.1) z=(z.toList.take (off + k) ++ l ++ z.toList.drop (off + (k + l.length))).toArray
 | [],k,z,hz=>by simp
 | x :: l,k,z,hz=>by
  simp only [List.length_cons] at hz;rw [List.zipIdx_cons,List.foldl_cons,put_all off l (k + 1) _ (by simp;omega)];apply congrArg;simp only [Array.toList_setIfInBounds,List.length_cons];rw [← Nat.add_assoc,List.take_add_one,List.take_set,List.getElem?_set_self (by simp;omega)];rw [List.set_eq_of_length_le (by simp;omega),List.drop_set,if_pos (by omega)];simp only [Option.toList_some,List.append_assoc,List.singleton_append,List.cons_append,List.nil_append];rw [show k + (l.length + 1)=k + 1 + l.length by omega]
theorem litFill (sz:Nat):∀ (vs:List Value) (k:Nat) (z:Array Value),(∀ v∈vs,v.cells.size=sz)→(k + vs.length) * sz≤z.size →
  Instr.fill (fun j=>some (j * sz,sz)) z ((List.range' k vs.length).zip vs)=some (z.toList.take (k * sz) ++ vs.flatMap (·.cells.toList) ++ z.toList.drop ((k + vs.length) * sz)).toArray
 | [],k,z,h,hz=>by simp [Instr.fill]
 | v :: vs,k,z,h,hz=>by
  have hv:=h v (by simp);have e0:(k + (vs.length + 1)) * sz=k * sz + sz + vs.length * sz:=by simp [Nat.add_mul];omega
  simp only [List.length_cons] at hz;rw [e0] at hz;have P:=put_all (k * sz) v.cells.toList 0 z (by simp [hv];omega);simp only [Nat.zero_add,Nat.add_zero,Array.length_toList,hv] at P;have P':(v.cells.zipIdx.foldl (fun cs x=>cs.setIfInBounds (k * sz + x.2) x.1) z)=(z.toList.take (k * sz) ++ v.cells.toList ++ z.toList.drop (k * sz + sz)).toArray:=by
   rw [← Array.foldl_toList,Array.toList_zipIdx];exact P
  have ih:=litFill sz vs (k + 1) (z.toList.take (k * sz) ++ v.cells.toList ++ z.toList.drop (k * sz + sz)).toArray (fun u hu=>h u (by simp [hu])) (by simp [Nat.add_mul,hv];omega);simp only [List.length_cons,List.range'_succ,List.zip_cons_cons,Instr.fill];rw [if_neg (by simp [hv];omega)];refine Eq.trans (congrArg (fun z=>Instr.fill _ z _) P') (ih.trans ?_);have l1:(z.toList.take (k * sz) ++ v.cells.toList).length=(k + 1) * sz:=by simp [Nat.add_mul,hv];omega
  congr 2
  simp only [List.toList_toArray];rw [← l1,List.take_left' rfl,List.flatMap_cons];have e3:(k + 1 + vs.length) * sz=(z.toList.take (k * sz) ++ v.cells.toList).length + vs.length * sz:=by rw [l1];simp [Nat.add_mul]
  rw [e3,List.drop_append,List.drop_drop,e0];simp [List.append_assoc]
def litDs (f:Fm):List (Nat × Operand)→Option (List (List A))
 | []=>some []
 | (_,x) :: l=>(evD f x).bind fun d=>(cellsD d).bind fun cs=>(litDs f l).bind fun r=>some (cs :: r)
inductive LeL:List (List A)→List (List A)→Prop
 | nil:LeL [] []
 | cons {a b xs ys}:LeC a b→LeL xs ys→LeL (a :: xs) (b :: ys)
 | refl {xs}:LeL xs xs
theorem LeC.repL {ok:Nat→Prop} {w:World}:∀ {xs ys:List A},LeC xs ys→∀ {vs:List Value},RC ok w xs vs→RC ok w ys vs
 | _,_,.nil,vs,r=>r
 | _,_,.refl,vs,r=>r
 | _,_,.cons h k,vs,r=>by
  unfold RC at r;obtain ⟨x,zs,rfl,r1,r2⟩:=r;exact RC.cons (h.rep r1) (LeC.repL k r2)
theorem LeL.rep {ok:Nat→Prop} {w:World} {sz:Nat} {a b:List (List A)} (h:LeL a b):∀ {x:List Value},RX ok w sz a x→RX ok w sz b x:=by
 induction h with
 | nil=>exact fun h=>h
 | refl=>exact fun h=>h
 | cons h1 _ ih =>
  intro x r;unfold RX at r ⊢;obtain ⟨vs,ys,a1,a2,a3,a4⟩:=r;exact ⟨vs,ys,a1,a2,h1.repL a3,ih a4⟩
theorem LeL.len {a b:List (List A)} (h:LeL a b):a.length=b.length:=by
 induction h with
 | nil=>rfl
 | refl=>rfl
 | cons _ _ ih=>simp [ih]
def upA:A→A→A
 | .v (.slice none 0 0),.r sz []=>.r sz []
 | a,_=>a
def upC:List A→List A→List A
 | a :: l,b :: m=>upA a b :: upC l m
 | l,_=>l
def upL:List (List A)→List (List A)→List (List A)
 | a :: l,b :: m=>upC a b :: upL l m
 | l,_=>l
theorem upA.le (a b:A):LeA a (upA a b):=by
 unfold upA
 split
 ·exact .nil
 ·exact .refl
theorem upC.le:∀ a b:List A,LeC a (upC a b)
 | [],b=>by unfold upC;exact .refl
 | a :: l,[]=>by unfold upC;exact .refl
 | a :: l,b :: m=>by unfold upC;exact .cons (upA.le a b) (upC.le l m)
theorem upL.le:∀ a b:List (List A),LeL a (upL a b)
 | [],b=>by unfold upL;exact .refl
 | a :: l,[]=>by unfold upL;exact .refl
 | a :: l,b :: m=>by unfold upL;exact .cons (upC.le a b) (upL.le l m)
theorem LeL.of {a b:List (List A)} (h:upL a b=b):LeL a b:=h ▸ upL.le a b
section
variable {P:Program} {c:Cx} {f:Fm} {L:List Res} {X T:TypeId} {t:Nat} {ps:String} {af:Array Edge} {gd:Option (Nat × Bool)}
theorem litDs.rep {sz:Nat} {a:Act} {w:World} (s:St c f L a w):∀ {l:List (Nat × Operand)} {ll:List (List A)},litDs f l=some ll→(ll.all (·.length == sz))=true →
  RX (okk c L) w sz ll ((l.map fun x=>a.eval x.2).flatMap (·.cells.toList))∧(∀ v∈l.map (fun x=>a.eval x.2),v.cells.size=sz)∧l.length=ll.length
 | [],ll,h,_=>by
  simp only [litDs,Option.some.injEq] at h;subst h;exact ⟨rfl,by simp,rfl⟩
 | (j,x) :: l,ll,h,hs=>by
  simp only [litDs] at h
  cases e1:evD f x with
  | none=>rw [e1] at h;cases h
  | some d =>
  cases e2:cellsD d with
  | none=>rw [e1] at h;simp [e2] at h
  | some cs =>
  cases e3:litDs f l with
  | none=>rw [e1] at h;simp [e2,e3] at h
  | some r =>
  rw [e1] at h;simp only [e2,e3,Option.bind_some,Option.some.injEq] at h;subst h;simp only [List.all_cons,Bool.and_eq_true,beq_iff_eq] at hs;obtain ⟨r1,r2,r3⟩:=litDs.rep s e3 hs.2;have ry:=cellsD.rep e2 (s.ev e1);have hz:(a.eval x).cells.size=sz:=by have:=ry.len;simp at this;omega
  refine ⟨?_,?_,by simp [r3]⟩
  ·unfold RX;exact ⟨_,_,rfl,by simpa using hz,ry,r1⟩
  ·intro v hv;simp only [List.map_cons,List.mem_cons] at hv;rcases hv with rfl | hv
   ·exact hz
   ·exact r2 v hv
theorem Ld.litN {e sz n:Nat} {as_:Array (Nat × Operand)} {ll mm:List (List A)} {zs:List Value} [i:TyS P X e sz] [z:TyZ' P e zs] (ht:t < c.N) (h:litDs f as_.toList=some ll) (hi:as_.toList.map (·.1)=List.range' 0 n) (hn:ll.all (·.length == sz)=true) (hm:Nat.ble n 1000=true) (h0:Nat.ble 1 sz=true) (hs:Nat.ble sz 1000=true) (hle:LeL ll mm) :
  Ld P c ⟨some t,.buildSlice X n as_,T,ps,af,gd⟩ f L [] (fun b:Nat=>(t,.c (.v (.slice (some ⟨b,0,none⟩) n n))) :: f) (fun b=>.row (.slice (some ⟨b,0,none⟩) n n) e sz mm :: L):=⟨fun a w s K Q hK=>by
 have h0':1≤sz:=Nat.le_of_ble_eq_true h0;have hs':sz≤1000:=Nat.le_of_ble_eq_true hs;have hm':n≤1000:=Nat.le_of_ble_eq_true hm;obtain ⟨rx,rv,rl⟩:=litDs.rep s h hn;have hln:as_.toList.length=n:=by have:=congrArg List.length hi;simpa using this
 have hzip:as_.toList.map (fun x=>(x.1,a.eval x.2))=(List.range' 0 (as_.toList.map fun x=>a.eval x.2).length).zip (as_.toList.map fun x=>a.eval x.2):=by
  rw [List.length_map,hln,← hi,List.zip_map']
 obtain ⟨zv,hz1,hz2⟩:=tyZero.run z.h;generalize hvs:as_.toList.map (fun x=>a.eval x.2)=vs at rx rv hzip;have hvl:vs.length=n:=by rw [← hvs];simpa using hln
 generalize hcs:vs.flatMap (·.cells.toList)=cs at rx;have hcl:cs.length=n * sz:=by
  rw [← hcs,← hvl];clear hcs hvs rx hzip hvl
  induction vs with
  | nil=>simp
  | cons v vs ih =>
   rw [List.flatMap_cons,List.length_append,ih (fun u hu=>rv u (by simp [hu]))];have:=rv v (by simp);simp [Nat.add_mul,this];omega
 have hk:Keeps [] w (w.alloc (.cells cs.toArray e)):=(Keeps.refl [] w).alloc _;have hfill:Instr.fill (fun j=>some (j * sz,sz)) ((Array.range (n * sz)).map (zv.cells[· % zv.cells.size]!)) (as_.toList.map (fun x=>(x.1,a.eval x.2)))=some cs.toArray:=by
  rw [hzip];have e1:=litFill sz vs 0 ((Array.range (n * sz)).map (zv.cells[· % zv.cells.size]!)) rv (by simp [hvl]);rw [e1];simp only [Nat.zero_mul,List.take_zero,List.nil_append,Nat.zero_add,hvl,hcs];rw [List.drop_eq_nil_of_le (by simp)];simp
 have hrun:(execOp a.eval ⟨some t,.buildSlice X n as_,T,ps,af,gd⟩).run P w=.ok (.value (.slice (some ⟨w.heap.size,0,none⟩) n n)) (w.alloc (.cells cs.toArray e)):=by
  have h1:¬ n * sz > 2 ^ 24:=by have:=Nat.mul_le_mul hm' hs';omega
  have hfill':Instr.fill (fun j=>some (j * sz,sz)) ((Array.range (n * sz)).map (zv.cells[· % zv.cells.size]!)) ((as_.map (fun x=>(x.1,a.eval x.2))).toList)=some cs.toArray:=by simpa using hfill
  by_cases h2:n * sz=0
  ·have hn0:n=0:=by rcases Nat.mul_eq_zero.1 h2 with h | h <;> omega
   subst hn0;have ha:as_=#[]:=by apply Array.eq_empty_of_size_eq_zero;simpa using hln
   subst ha;have hc0:cs=[]:=by apply List.eq_nil_of_length_eq_zero;omega
   subst hc0;simp [execOp,Instr.buildSlice,Sem.run_bind,run_underlying (tyElem.und i.h),tySize.run i.s,Instr.fill,newRow,Array.range_zero',run_newObj_alloc]
  ·simp only [execOp,Instr.buildSlice,Sem.run_bind,run_underlying (tyElem.und i.h),tySize.run i.s,Result.andThen_ok,h1,h2,↓reduceIte,hz2,Sem.run_pure,hfill',newRow,run_newObj_alloc]
 unfold Oper.wp;rw [hrun];have hf:∀ y∈(Res.row (.slice (some ⟨w.heap.size,0,none⟩) n n) e sz mm).foot,w.heap.size≤y:=by simp [Res.foot,vfoot]
 refine hK w.heap.size _ _ hk (s.new ht hk hf ⟨cs,?_,?_⟩ (by unfold RD RA;exact ⟨rfl,rfl⟩)) (foots_new hf)
 ·have:=Row.lit w cs e sz n hcl (by simp [maxLen];omega);have l3:mm.length=n:=by rw [← hle.len,← rl,hln]
  rw [l3];simpa [vfoot] using this
 ·exact hle.rep (RX.mon (Mon.of_keeps hk fun g hg ho=>⟨okk_cons_new hf g hg ho,by simp⟩) ll _ rx)⟩
theorem Ld.litR {e sz n:Nat} {as_:Array (Nat × Operand)} {ll mm:List (List A)} {zs:List Value} [i:TyS P X e sz] [z:TyZ' P e zs] (ht:t < c.N) (h:litDs f as_.toList=some ll) (hi:as_.toList.map (·.1)=List.range' 0 n) (hn:ll.all (·.length == sz)=true) (hm:Nat.ble n 1000=true) (h0:Nat.ble 1 sz=true) (hs:Nat.ble sz 1000=true) (hle:LeL ll mm) :
  Ld P c ⟨some t,.buildSlice X n as_,T,ps,af,gd⟩ f L [] (fun _:Unit=>(t,.c (.r sz mm)) :: f) (fun _=>L):=⟨fun a w s K Q hK =>
 (Ld.litN (P:=P) (c:=c) (T:=T) (ps:=ps) (af:=af) (gd:=gd) (f:=f) (L:=L) (e:=e) (sz:=sz) (zs:=zs) (X:=X) (t:=t) ht h hi hn hm h0 hs hle).go a w s K Q fun b u w' k' s' hf=>hK () u w' k' s'.freeze fun y hy=>hf y ((foots_cons _ _ _).2 (.inr hy))⟩
end
end Fl
end Go.Proofs.Ytdibmkjoaghafaa
