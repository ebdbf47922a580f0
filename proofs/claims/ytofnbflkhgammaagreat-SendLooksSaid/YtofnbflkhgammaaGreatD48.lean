/-
  What the laws need, part D48.
  Conditions: none.
-/
import Derived.Test.YtofnbflkhgammaaGreatD47
set_option linter.unusedVariables false
set_option linter.unusedSimpArgs false
set_option linter.unnecessarySimpa false
set_option maxHeartbeats 2000000
namespace Go.Proofs.YtofnbflkhgammaaGreat
open Go.RowKit
namespace Fl
open Sx Go.Proofs.Tryz
set_option maxRecDepth 100000
theorem ZD {s:ah} {k:Nat} (hk:k < s.au.length):aE s ((k:Int) + 1) (cn s ((k:Int) + 1))=s:=by
 unfold aE;rw [show ((k:Int) + 1 - 1).toNat=k by omega,qV (oD hk)]
theorem ZE (l:List Int) (c v:Int) (h:0≤c):(fo l c v).2=decide (l.length < c.toNat)∧(fo l c v).1=Rn.wQ c.toNat l v:=by
 unfold fo Rn.wQ
 by_cases a:c≤l.length
 ·rw [if_pos a,if_neg (show ¬ l.length < c.toNat by omega)];exact ⟨(decide_eq_false (by omega)).symm,rfl⟩
 ·rw [if_neg a,if_pos (show l.length < c.toNat by omega)];exact ⟨(decide_eq_true (by omega)).symm,rfl⟩
theorem ZF (b:Nat) (u:U) (s:ah) {k:Nat} (v:Int) (hk:k < s.au.length) (h8:k < 8) (h0:0≤(cn s ((k:Int) + 1)).cap) :
  ax prog 155 [.c (.v (u.rs k)),.c (nI v)] (wd b u s) (fun _:Unit=>(.c (bI (fo (cn s ((k:Int) + 1)).buf (cn s ((k:Int) + 1)).cap v).2),wd b u (aE s ((k:Int) + 1) { cn s ((k:Int) + 1) with buf:=(fo (cn s ((k:Int) + 1)).buf (cn s ((k:Int) + 1)).cap v).1 }))):=by
 have e:=ZE (cn s ((k:Int) + 1)).buf (cn s ((k:Int) + 1)).cap v h0;rw [e.1,e.2];exact ax.at_ 11 rfl (TK (lu u s) u.TR (wU (u:=u) hk) v) fun _=>WV _ hk h8
theorem ZG (b:Nat) (u:U) (s:ah) {k:Nat} (hk:k < s.au.length) (h0:0≤(cn s ((k:Int) + 1)).cap) :
  ax prog 66 [.c (.v (u.rs k))] (wd b u s) (fun _:Unit=>(.c (nI (cn s ((k:Int) + 1)).cap),wd b u s)):=by
 have RR:=Lj (lu u s) u.TR (wU (u:=u) hk);rw [show (((cn s ((k:Int) + 1)).cap.toNat:Nat):Int)=(cn s ((k:Int) + 1)).cap by omega] at RR;exact ax.at_ 11 rfl RR fun _=>rfl
theorem ZH (b:Nat) (u:U) (s:ah) {k:Nat} (hk:k < s.au.length) :
  ax prog 172 [.c (.v (u.rs k))] (wd b u s) (fun _:Unit=>(.c (bI (decide ((cn s ((k:Int) + 1)).buf.length=(cn s ((k:Int) + 1)).cap.toNat))),wd b u s)) :=
 ax.at_ 11 rfl (TM (lu u s) u.TR (wU (u:=u) hk)) fun _=>rfl
section
variable {P:Program} {c:Cx} {k:List Item} {f:Fm} {L:List ak} {t b:Nat} {B:TypeId} {cs:List A}
theorem St.ZI {a:Act} {w:World} (s:St c ((t,.c (.v (.pointer (some ⟨b,0,none⟩)))) :: f) (.box b B cs :: L) a w):St c ((t,.el cs 0) :: f) L a w:=by
 have m:Mon (bG c (.box b B cs :: L)) (bG c L) w w:=⟨Nat.le_refl _,fun g _ ho=>⟨⟨ho.1,fun hx=>ho.2 ((jf _ _ _).2 (.inr hx))⟩,rfl⟩⟩
 have ap:=List.pairwise_cons.1 s.ap;refine ⟨s.kp,s.size,s.jV,fun q hq=>(s.res q (List.mem_cons_of_mem _ hq)).cS (aq.refl [] w) m (by simp),fun x hx=>s.fF x ((jf _ _ _).2 (.inr hx)),ap.2,fun u e' hu=>?_⟩
 by_cases e1:t=u
 ·subst e1;rw [oV] at hu;cases hu;have hv:=s.fr t _ (oV _ _ _);obtain ⟨vs,r1,r2⟩:=s.res _ (List.mem_cons_self ..);unfold RD RA at hv;rw [hv.1];unfold RD;have hb:b∈(ak.box b B cs).bY:=by simp [ak.bY]
  refine ⟨b,0,vs,rfl,⟨.inr (s.fF b ((jf _ _ _).2 (.inl hb))),fun hx=>?_⟩,r1.lt,r1.range,RC.cS m _ _ r2⟩;obtain ⟨q,hq,lQ⟩:=di.1 hx;exact ap.1 q hq b hb lQ
 ·rw [uy e1] at hu;exact RD.cS m e' _ (s.fr u e' (by rw [uy e1];exact hu))
theorem J.oQ (t:Nat) (h1:look f t=some (.c (.v (.pointer (some ⟨b,0,none⟩))))) (h:J P c k ((t,.el cs 0) :: f) L):J P c k f (.box b B cs :: L):=⟨fun a w s=>by
 have s1:St c ((t,.c (.v (.pointer (some ⟨b,0,none⟩)))) :: f) (.box b B cs :: L) a w:=by
  refine ⟨s.kp,s.size,s.jV,s.res,s.fF,s.ap,fun u d hu=>?_⟩
  by_cases e1:t=u
  ·subst e1;rw [oV] at hu;cases hu;exact s.fr t _ h1
  ·rw [uy e1] at hu;exact s.fr u d hu
 exact h.go a w s1.ZI⟩
end
def vQ:D→D
 | .ow v sz k o=>.ow v sz k o
 | d=>stays d
theorem vQ.rep {d:D} {ok fY:Nat→Prop} {w w':World} {x:Value} (h:RD ok w d x):RD fY w' (vQ d) x:=by
 unfold vQ
 split
 ·unfold RD at h ⊢;exact h
 ·exact stays.rep h
section
variable {P:Program} {c:Cx} {k:List Item} {f f0:Fm} {L L0:List ak} {ops:Array Oper} {o:Oper} {m:Option Nat} {n:Nat} {aM:Array Bool}
theorem JS.jS {S:List Nat} {i t:Nat} {ι:Type} {g:ι→D} {L':ι→List ak} (hi:ops[i]?=some o) (hd:o.dst=some t) (hw:dM ops o f=true) (ht:t < c.N) (q:Ld P c o f L S (fun x=>(t,g x) :: f) L') (hS:eW S L)
  (h:∀ x,JD P c ops m (p6 L0) n (aM.setIfInBounds i true) k ((t,g x) :: f) (L' x) ((t,vQ (g x)) :: f0) L0):JS P c ops m (p6 L0) n aM k f L f0 L0 i:=⟨fun a w w0 s s0 kp ho=>by
 refine wpOp_step hi (fun K hK=>?_);rw [dM.run hw s,if_pos rfl];refine q.go a w s K _ fun x v w' nX sx hf=>?_
 have mA:aq (jh L0 (p6 L0)) w0 w':=kp.trans nX fun x hx=>by
  rcases ho x (hS x hx) with h | h
  ·exact .inl (GF h)
  ·exact .inr h
 refine hK _ _ (.inr ⟨mA,(h x).go _ w' w0 sx ?_ mA ?_⟩)
 ·rw [hd];exact s0.kQ ht (vQ.rep (by
   have h1:=sx.fr t (g x) (oV _ _ _);have h2:=s.size;rw [hd] at h1;simpa [Act.put,Array.getD_eq_getD_getElem?,Array.getElem?_setIfInBounds,h2,ht] using h1))
 ·intro y hy;rcases hf y hy with h1 | h1
  ·exact ho y h1
  ·exact .inr (Nat.le_trans kp.size h1)⟩
theorem JS.qB {T:List Nat} {i t:Nat} {d:D} {U:List Nat} (hi:ops[i]?=some o) (hd:o.dst=some t) (hw:dM ops o f=true) (ht:t < c.N) (q:Qt P c U o f L d)
  (h:JD P c ops m T n (aM.setIfInBounds i true) k ((t,d) :: f) L ((t,vQ d) :: f0) L0):JS P c ops m T n aM k f L f0 L0 i:=⟨fun a w w0 s s0 kp ho=>by
 obtain ⟨v,h1,h2⟩:=q.go a w s;refine wpOp_step hi (fun K hK=>?_);rw [dM.run hw s,if_pos rfl];simp only [Oper.wp,h2 w (rC.now _ _ _),Oper.upon];exact hK _ _ (.inr ⟨kp,h.go _ w w0 (by rw [hd];exact s.kQ ht h1) (by rw [hd];exact s0.kQ ht (vQ.rep h1)) kp ho⟩)⟩
end
abbrev mZ (b g:Nat) (o:Pn.Op):List A:=.v (pt b) :: nI g :: dH o
theorem rm (b:Nat) (u:U) (s:ah) (g:Nat) (o:Pn.Op) [Sx.bT g s] :
  ax prog 152 [.agg (mZ b g o)] (wd b u s) (fun _:Unit=>(.ow u.vG 25 g 0,wd b u s)):=by
 refine ax.intro func152 rfl rfl rfl (fun ok e=>?_)
 repeat (first | refine av ?_ | intro _)
 refine J.oQ 1 rfl ?_;refine J.draw (by kernel_rfl) rfl ?_;refine JW.base none ?_;refine tk 0 ?_;refine tk 1 ?_;refine tk 2 ?_;refine tk 3 ?_;refine tk 4 ?_;refine tk 5 ?_;refine tk 6 ?_;refine JD.take 7 rfl rfl (by kernel_rfl) rfl (qb rfl) (Qt.bM rfl rfl eB eD) rfl ?_;refine tk 8 ?_;refine bt ?_
 repeat (fail)
 (exact J.iG func152 rfl (.cons (.tmp rfl) .nil) () (by exact .refl) rfl)
theorem nN (b:Nat) (u:U) (s:ah) (g:Nat) (o:Pn.Op) (p:Int) [h:Sx.bT g s] :
  ax prog 102 [.agg (mZ b g o),.c (nI p)] (wd b u s) (fun _:Unit=>(.aZ [],wd b u (bg s g fun x=>{ x with place:=p }))):=by
 have CM:=rm b u s g o;refine ax.intro func102 rfl rfl rfl (fun ok e=>?_)
 repeat (first | (refine K.store ?_;((refine JO.ld (Ld.dK rfl rfl (by exact rfl) bX) rfl (fun _=>?_)));refine JO.eK b g (fun x=>{ x with place:=p }) (by exact rfl) ?_) | (refine K.call ?_;refine JO.ld (Ld.aV (CM) (qb rfl) rfl (aK.cons .refl .nil)) rfl ?_;intro _) | refine av ?_ | intro _)
 (exact J.BL [_] rfl func102 rfl .nil () (by exact .refl) rfl)
theorem xW (b:Nat) (u:U) (s:ah) (g:Nat) (o:Pn.Op) (c:Int) [h:Sx.bT g s] :
  ax prog 154 [.agg (mZ b g o),.c (nI c)] (wd b u s) (fun _:Unit=>(.aZ [],wd b u (bg s g fun x=>{ x with res:=⟨c,-1,0,c == 1,0⟩ }))):=by
 have CM:=rm b u s g o;refine ax.intro func154 rfl rfl rfl (fun ok e=>?_)
 repeat (first | (refine K.store ?_;((refine JO.ld (Ld.Qd rfl rfl rfl (by exact rfl) (by exact rfl) bX) rfl (fun _=>?_)));refine JO.eK b g (fun x=>{ x with res:=⟨c,-1,0,c == 1,0⟩ }) (by exact rfl) ?_) | (refine K.call ?_;refine JO.ld (Ld.aV (CM) (qb rfl) rfl (aK.cons .refl .nil)) rfl ?_;intro _) | refine av ?_ | intro _)
 (exact J.BL [_] rfl func154 rfl .nil () (by exact .refl) rfl)
theorem OQ (b g k:Nat) (o:Pn.Op) (hk:o.ch=(k:Int) + 1) (h8:k < 8) :
  Pure prog 101 [.agg (mZ b g o)] (.c (nI (2 * ((k:Int) + 1) - 2))):=by
 have w1:IntKind.i64.wrap (2 * o.ch)=2 * ((k:Int) + 1):=by rw [hk];exact eL (by omega) (by omega)
 have w2:IntKind.i64.wrap (2 * ((k:Int) + 1) - 2)=2 * ((k:Int) + 1) - 2:=eL (by omega) (by omega);refine ax.intro func101 rfl rfl rfl (fun ok e=>?_)
 repeat (first | (refine K.binOp ?_;first | refine jq rfl rfl rfl ((Qt.dj rfl rfl rfl w1)) ?_ | refine jq rfl rfl rfl ((Qt.dj rfl rfl rfl w2)) ?_) | refine av ?_ | intro _)
 exact aA func101
theorem OS (b:Nat) (u:U) (s:ah) (g k:Nat) (o:Pn.Op) (ho:o.ch=(k:Int) + 1) (hk:k < s.au.length) (h8:k < 8) :
  ax prog 153 [.agg (mZ b g o)] (wd b u s) (fun _:Unit=>(.c (bI (cn s ((k:Int) + 1)).closed),wd b u s)):=by
 have hm:aN s o.ch=true:=by
  unfold aN;simp only [decide_eq_true_eq];omega
 have CM:=Fp b u s o.ch;rw [hm] at CM;have w1:IntKind.i64.wrap (o.ch - 1)=(k:Int):=by rw [eL (by omega) (by omega)];omega
 have i0:(0:Int)≤(k:Int):=by omega
 have i1:(k:Int) < (s.au.map fun c=>[bI c.closed]).length:=by rw [List.length_map];omega
 have AC:(s.au.map fun c=>[bI c.closed])[((k:Int)).toNat]?=some [bI (cn s ((k:Int) + 1)).closed]:=by rw [Int.toNat_natCast,List.getElem?_map,oD hk];rfl
 refine ax.intro func153 rfl rfl rfl (fun ok e=>?_)
 repeat (first | refine av ?_ | intro _)
 refine J.oQ 1 rfl ?_;refine J.draw (by kernel_rfl) rfl ?_;refine JW.p7 none ?_;refine tk 0 ?_;refine tk 1 ?_;refine tk 2 ?_;refine tk 3 ?_;refine tk 4 ?_;refine JD.bJ (i:=5) (by kernel_rfl) ?_;refine JS.jS rfl rfl rfl (qb rfl) (Ld.aV CM (qb rfl) rfl (.cons .refl (.cons .refl .nil))) (eW.aT) (fun _=>?_);refine JD.bJ (i:=6) (by kernel_rfl) ?_;refine JS.qB rfl rfl rfl (qb rfl) (Qt.move rfl) ?_;refine tk 7 ?_;refine tk 8 ?_;refine tk 9 ?_;refine tk 10 ?_;refine tk 12 ?_;refine tk 13 ?_;refine tk 14 ?_
 (refine JD.take 15 rfl rfl (by kernel_rfl) rfl (qb rfl) (Qt.dj rfl rfl rfl w1) rfl ?_)
 refine JD.bJ (i:=11) (by kernel_rfl) ?_
 (refine JS.qB rfl rfl rfl (qb rfl) (Qt.fR rfl (by exact rfl)) ?_)
 refine JD.bJ (i:=16) (by kernel_rfl) ?_;refine JS.qB rfl rfl rfl (qb rfl) (Qt.bM rfl rfl i0 i1) ?_;refine JD.bJ (i:=17) (by kernel_rfl) ?_;refine JS.qB rfl rfl rfl (qb rfl) (Qt.cE rfl AC rfl) ?_;refine JD.bJ (i:=18) (by kernel_rfl) ?_;refine JS.qB rfl rfl rfl (qb rfl) (Qt.pick rfl rfl) ?_;refine JD.bJ (i:=19) (by kernel_rfl) ?_;refine JS.qB rfl rfl rfl (qb rfl) (Qt.assign rfl) ?_;refine bt ?_
 repeat (fail)
 (exact J.iG func153 rfl (.cons (.tmp rfl) .nil) () (by exact .refl) rfl)
theorem OT {u:U} {s:ah} {k:Nat} (hk:k < s.au.length):((List.range s.au.length).map fun i=>[A.v (u.rs i)])[((k:Int)).toNat]?=some [.v (u.rs k)]:=by
 rw [Int.toNat_natCast,List.getElem?_map,List.getElem?_range hk];rfl
structure uq (s:ah) (o:Pn.Op) (k:Nat):Prop where
 e:o.ch=(k:Int) + 1
 k1:k < s.au.length
 k8:k < 8
 c0:0≤(cn s ((k:Int) + 1)).cap
 bl:((cn s ((k:Int) + 1)).buf.length:Int)≤(cn s ((k:Int) + 1)).cap
theorem ZJ (b:Nat) (u:U) (s:ah) (g k:Nat) (o:Pn.Op) (h:uq s o k) :
  ax prog 151 [.agg (mZ b g o)] (wd b u s) (fun _:Unit=>(.c (bI (Sx.room (cn s ((k:Int) + 1)))),wd b u s)):=by
 obtain ⟨ho,hk,h8,c0,bl⟩:=h;have hm:aN s o.ch=true:=by
  unfold aN;simp only [decide_eq_true_eq];omega
 have CM:=Fp b u s o.ch;rw [hm] at CM;have w1:IntKind.i64.wrap (o.ch - 1)=(k:Int):=by rw [eL (by omega) (by omega)];omega
 have i0:(0:Int)≤(k:Int):=by omega
 have i1:(k:Int) < ((List.range s.au.length).map fun i=>[A.v (u.rs i)]).length:=by rw [List.length_map,List.length_range];omega
 have AC:=OT (u:=u) hk;have RM:=ZG b u s hk c0;have FU:=ZH b u s hk;have RC:=OQ b g k o ho h8;have LR:=TA u.pQ s.aC.length (qW s) u.TQ (2 * ((k:Int) + 1) - 2);rw [BO h8] at LR;refine ax.intro func151 rfl rfl rfl (fun ok e=>?_)
 by_cases c:0 < (cn s ((k:Int) + 1)).cap
 ·have t1:decide ((cn s ((k:Int) + 1)).cap > 0)=true:=decide_eq_true c;have er:Sx.room (cn s ((k:Int) + 1))=!decide ((cn s ((k:Int) + 1)).buf.length=(cn s ((k:Int) + 1)).cap.toNat):=by
   unfold Sx.room;rw [if_pos c,← decide_not];exact decide_eq_decide.2 (by omega)
  rw [er]
  repeat (first | (refine K.call ?_;refine JO.ld (Ld.aV (CM) (qb rfl) rfl (by (exact aK.cons .refl (.cons .refl .nil)))) rfl ?_;intro _) | refine av ?_ | intro _)
  refine J.oQ 1 rfl ?_;refine J.draw (by kernel_rfl) rfl ?_;refine JW.base none ?_;refine tk 0 ?_;refine tk 1 ?_;refine tk 2 ?_;refine tk 3 ?_;refine tk 4 ?_;refine tk 5 ?_;refine tk 6 ?_;refine tk 7 ?_;refine JD.take 8 rfl rfl (by kernel_rfl) rfl (qb rfl) (Qt.dj rfl rfl rfl w1) rfl ?_;refine JD.take 9 rfl rfl (by kernel_rfl) rfl (qb rfl) (Qt.bM rfl rfl i0 i1) rfl ?_;refine JD.take 10 rfl rfl (by kernel_rfl) rfl (qb rfl) (Qt.cE rfl AC rfl) rfl ?_;refine tk 11 ?_;refine bt ?_
  repeat (first | (refine K.call ?_;first | (refine JO.ld (Ld.aV (RM) (qb rfl) rfl (aK.cons .refl .nil)) rfl ?_;intro _) | (refine JO.ld (Ld.aV (FU) (qb rfl) rfl (aK.cons .refl .nil)) rfl ?_;intro _)) | refine gn ?_)
  (exact J.iG func151 rfl (.cons (.tmp rfl) .nil) () (by exact .refl) rfl)
 ·have t1:decide ((cn s ((k:Int) + 1)).cap > 0)=false:=decide_eq_false c;have er:Sx.room (cn s ((k:Int) + 1))=decide (((cn s ((k:Int) + 1)).recv.length:Int) > 0):=by
   unfold Sx.room;rw [if_neg c];exact decide_eq_decide.2 (by omega)
  rw [er]
  repeat (first | (refine K.call ?_;refine JO.ld (Ld.aV (CM) (qb rfl) rfl (by (exact aK.cons .refl (.cons .refl .nil)))) rfl ?_;intro _) | refine av ?_ | intro _)
  refine J.oQ 1 rfl ?_;refine J.draw (by kernel_rfl) rfl ?_;refine JW.base none ?_;refine tk 0 ?_;refine tk 1 ?_;refine tk 2 ?_;refine tk 3 ?_;refine tk 4 ?_;refine tk 5 ?_;refine tk 6 ?_;refine tk 7 ?_;refine JD.take 8 rfl rfl (by kernel_rfl) rfl (qb rfl) (Qt.dj rfl rfl rfl w1) rfl ?_;refine JD.take 9 rfl rfl (by kernel_rfl) rfl (qb rfl) (Qt.bM rfl rfl i0 i1) rfl ?_;refine JD.take 10 rfl rfl (by kernel_rfl) rfl (qb rfl) (Qt.cE rfl AC rfl) rfl ?_;refine tk 11 ?_;refine bt ?_
  repeat (first | (refine K.call ?_;refine JO.ld (Ld.aV (RM) (qb rfl) rfl (aK.cons .refl .nil)) rfl ?_;intro _) | refine gn ?_)
  refine J.draw (by kernel_rfl) rfl ?_;refine JW.iS [9] none ?_;refine tk 0 ?_;refine tk 1 ?_;refine tk 2 ?_;refine tk 3 ?_;refine tk 4 ?_;refine tk 5 ?_;refine jl 6 rfl rfl rfl rfl (Ld.pure (RC) (qb rfl) rfl (by repeat (first | exact aK.nil | refine aK.cons (dB.agg (by repeat (first | exact .nil | refine .cons .refl ?_))) ?_))) .none (fun _=>?_);refine jl 7 rfl rfl rfl rfl (Ld.fQ LR (qb rfl) rfl (.cons .refl (.cons .refl .nil))) (.iO rfl) (fun _=>?_);refine jk 8 rfl rfl rfl rfl (Qt.cmp rfl rfl rfl) ?_;refine jk 9 rfl rfl rfl rfl (Qt.assign rfl) ?_;refine bt ?_
  repeat (fail)
  (exact J.iG func151 rfl (.cons (.tmp rfl) .nil) () (by exact .refl) rfl)
theorem ZK (b:Nat) (u:U) (s:ah) (g k:Nat) (o:Pn.Op) (hg:g < s.gs.length) (h:uq s o k) :
  ax prog 98 [.agg (mZ b g o)] (wd b u s) (fun _:Unit=>(.aZ [],wd b u (if Sx.room (cn s ((k:Int) + 1))=true then Sx.aI s g 4 else bH s g (aa s g).res 2))):=by
 haveI:Sx.bT g s:=⟨hg⟩
 have CR:=ZJ b u s g k o h;have CM:=rm b u s g o;refine ax.intro func98 rfl rfl rfl (fun ok e=>?_)
 cases c:Sx.room (cn s ((k:Int) + 1)) with
 | true =>
  rw [c] at CR;rw [if_pos rfl];have CG:=nN b u s g o 4
  repeat (first | (refine K.call ?_;first | (refine JO.ld (Ld.aV (CR) (qb rfl) rfl (aK.cons .refl .nil)) rfl ?_;intro _) | (refine JO.ld (Ld.aV (CG) (qb rfl) rfl (by (exact aK.cons .refl (.cons .refl .nil)))) rfl ?_;intro _)) | refine av ?_ | intro _)
  (exact J.iN [_] rfl func98 rfl .nil () (by exact .refl) rfl)
 | false =>
  rw [c] at CR;rw [if_neg (by simp)];rw [show bH s g (aa s g).res 2=bg (bg s g fun x=>{ x with bQ:=s.step }) g fun x=>{ x with place:=2 } by rw [kL hg];rfl];have CG:=nN b u (bg s g fun x=>{ x with bQ:=s.step }) g o 2
  repeat (first | (refine K.call ?_;refine JO.ld (Ld.aV (CR) (qb rfl) rfl (aK.cons .refl .nil)) rfl ?_;intro _) | refine av ?_ | intro _)
  refine J.oQ 1 rfl ?_;refine J.draw (by kernel_rfl) rfl ?_;refine JW.p7 (some 9) ?_;refine tk 0 ?_;refine tk 2 ?_;refine tk 3 ?_;refine tk 4 ?_;refine tk 5 ?_;refine JD.cU (i:=1) (j:=6) (by kernel_rfl) ?_ ?_;refine JS.jS rfl rfl rfl (qb rfl) (Ld.aV CM (qb rfl) rfl (.cons .refl .nil)) (eW.aT) (fun _=>?_);refine JD.bJ (i:=6) (by kernel_rfl) ?_
  (refine JS.qB rfl rfl rfl (qb rfl) (Qt.fR rfl (by exact rfl)) ?_)
  refine JD.bJ (i:=7) (by kernel_rfl) ?_;refine JS.qB rfl rfl rfl (qb rfl) (Qt.nilCheck rfl rfl) ?_;refine JD.bJ (i:=8) (by kernel_rfl) ?_;refine JS.qB rfl rfl rfl (qb rfl) (Qt.fieldAddr rfl rfl) ?_;refine jt 9 rfl rfl (Ld.dK rfl rfl (by exact rfl) bX) (fun _=>?_);refine bS ?_
  rotate_left
  (refine JS.qB rfl rfl rfl (qb rfl) (Qt.fR rfl (by exact rfl)) ?_)
  refine JD.bJ (i:=1) (by kernel_rfl) ?_;refine JS.jS rfl rfl rfl (qb rfl) (Ld.aV CM (qb rfl) rfl (.cons .refl .nil)) (eW.aT) (fun _=>?_);refine JD.bJ (i:=7) (by kernel_rfl) ?_;refine JS.qB rfl rfl rfl (qb rfl) (Qt.nilCheck rfl rfl) ?_;refine JD.bJ (i:=8) (by kernel_rfl) ?_;refine JS.qB rfl rfl rfl (qb rfl) (Qt.fieldAddr rfl rfl) ?_;refine jt 9 rfl rfl (Ld.dK rfl rfl (by exact rfl) bX) (fun _=>?_);refine bS ?_
  rotate_left
  all_goals
   refine J.eK b g (fun x=>{ x with bQ:=s.step }) (by exact rfl) ?_
   repeat (first | (refine K.call ?_;refine JO.ld (Ld.aV (CG) (qb rfl) rfl (by (exact aK.cons .refl (.cons .refl .nil)))) rfl ?_;intro _) | refine gn ?_)
   (exact J.lp func98 rfl .nil () (by exact .refl) rfl)
theorem ZL (b:Nat) (u:U) (s:ah) (g k:Nat) (o:Pn.Op) (hg:g < s.gs.length) (h:uq s o k) :
  ax prog 99 [.agg (mZ b g o)] (wd b u s) (fun _:Unit=>(.aZ [],wd b u (if (cn s ((k:Int) + 1)).closed=true then ai s g { aa s g with bQ:=0,place:=4 } else ai s g { aa s g with res:={ (aa s g).res with code:=2 },place:=18 }))):=by
 haveI:Sx.bT g s:=⟨hg⟩
 have CC:=OS b u s g k o h.e h.k1 h.k8;have CM:=rm b u s g o;refine ax.intro func99 rfl rfl rfl (fun ok e=>?_)
 cases c:(cn s ((k:Int) + 1)).closed with
 | true =>
  rw [c] at CC;rw [if_pos rfl];rw [show ai s g { aa s g with bQ:=0,place:=4 }=bg (bg s g fun x=>{ x with bQ:=0 }) g fun x=>{ x with place:=4 } by rw [kL hg];rfl];have CG:=nN b u (bg s g fun x=>{ x with bQ:=0 }) g o 4
  repeat (first | (refine K.store ?_;((refine JO.ld (Ld.dK rfl rfl (by exact rfl) bX) rfl (fun _=>?_)));refine JO.eK b g (fun x=>{ x with bQ:=0 }) (by exact rfl) ?_) | (refine K.call ?_;first | (refine JO.ld (Ld.aV (CC) (qb rfl) rfl (aK.cons .refl .nil)) rfl ?_;intro _) | (refine JO.ld (Ld.aV (CM) (qb rfl) rfl (aK.cons .refl .nil)) rfl ?_;intro _) | (refine JO.ld (Ld.aV (CG) (qb rfl) rfl (by (exact aK.cons .refl (.cons .refl .nil)))) rfl ?_;intro _)) | refine av ?_ | intro _)
  (exact J.iN [_] rfl func99 rfl .nil () (by exact .refl) rfl)
 | false =>
  rw [c] at CC;rw [if_neg (by simp)];rw [show ai s g { aa s g with res:={ (aa s g).res with code:=2 },place:=18 }=bg (bg s g fun x=>{ x with res:={ x.res with code:=2 } }) g fun x=>{ x with place:=18 } by rw [kL hg];rfl];have CG:=nN b u (bg s g fun x=>{ x with res:={ x.res with code:=2 } }) g o 18
  repeat (first | (refine K.store ?_;((refine JO.ld (Ld.dK rfl rfl (by exact rfl) bX) rfl (fun _=>?_)));refine JO.eK b g (fun x=>{ x with res:={ x.res with code:=2 } }) (by exact rfl) ?_) | (refine K.call ?_;first | (refine JO.ld (Ld.aV (CC) (qb rfl) rfl (aK.cons .refl .nil)) rfl ?_;intro _) | (refine JO.ld (Ld.aV (CM) (qb rfl) rfl (aK.cons .refl .nil)) rfl ?_;intro _) | (refine JO.ld (Ld.aV (CG) (qb rfl) rfl (by (exact aK.cons .refl (.cons .refl .nil)))) rfl ?_;intro _)) | refine av ?_ | intro _)
  (exact J.BL [_] rfl func99 rfl .nil () (by exact .refl) rfl)
theorem Hw {s:ah} {g:Nat} {c p:Int} (hg:g < s.gs.length):bg (bg (bg s g fun x=>{ x with res:=⟨c,-1,0,c == 1,0⟩ }) g fun x=>{ x with bQ:=s.step }) g (fun x=>{ x with place:=p })=bH s g ⟨c,-1,0,c == 1,0⟩ p:=by
 rw [kL (ud hg),kL hg];rfl
theorem ZM (b:Nat) (u:U) (s:ah) (g k:Nat) (o:Pn.Op) (hg:g < s.gs.length) (h:uq s o k) :
  ax prog 100 [.agg (mZ b g o)] (wd b u s) (fun _:Unit=>(.aZ [],wd b u (if (cn s ((k:Int) + 1)).closed=true then bH s g (Sx.res 3) 16 else Sx.aI s g 6))):=by
 haveI:Sx.bT g s:=⟨hg⟩
 have CC:=OS b u s g k o h.e h.k1 h.k8;refine ax.intro func100 rfl rfl rfl (fun ok e=>?_)
 cases c:(cn s ((k:Int) + 1)).closed with
 | false =>
  rw [c] at CC;rw [if_neg (by simp)];have CG:=nN b u s g o 6
  repeat (first | (refine K.call ?_;first | (refine JO.ld (Ld.aV (CC) (qb rfl) rfl (aK.cons .refl .nil)) rfl ?_;intro _) | (refine JO.ld (Ld.aV (CG) (qb rfl) rfl (by (exact aK.cons .refl (.cons .refl .nil)))) rfl ?_;intro _)) | refine av ?_ | intro _)
  (exact J.iN [_] rfl func100 rfl .nil () (by exact .refl) rfl)
 | true =>
  rw [c] at CC;rw [if_pos rfl,show Sx.res 3=⟨3,-1,0,(3:Int) == 1,0⟩ from rfl,← Hw hg];have CS:=xW b u s g o 3;have CM:=rm b u (bg s g fun x=>{ x with res:=⟨3,-1,0,(3:Int) == 1,0⟩ }) g o;have CG:=nN b u (bg (bg s g fun x=>{ x with res:=⟨3,-1,0,(3:Int) == 1,0⟩ }) g fun x=>{ x with bQ:=s.step }) g o 16
  repeat (first | (refine K.call ?_;first | (refine JO.ld (Ld.aV (CC) (qb rfl) rfl (aK.cons .refl .nil)) rfl ?_;intro _) | (refine JO.ld (Ld.aV (CS) (qb rfl) rfl (by (exact aK.cons .refl (.cons .refl .nil)))) rfl ?_;intro _)) | refine av ?_ | intro _)
  refine J.oQ 1 rfl ?_;refine J.draw (by kernel_rfl) rfl ?_;refine JW.p7 (some 9) ?_;refine tk 0 ?_;refine tk 2 ?_;refine tk 3 ?_;refine tk 4 ?_;refine tk 5 ?_;refine JD.cU (i:=1) (j:=6) (by kernel_rfl) ?_ ?_;refine JS.jS rfl rfl rfl (qb rfl) (Ld.aV CM (qb rfl) rfl (.cons .refl .nil)) (eW.aT) (fun _=>?_);refine JD.bJ (i:=6) (by kernel_rfl) ?_
  (refine JS.qB rfl rfl rfl (qb rfl) (Qt.fR rfl (by exact rfl)) ?_)
  refine JD.bJ (i:=7) (by kernel_rfl) ?_;refine JS.qB rfl rfl rfl (qb rfl) (Qt.nilCheck rfl rfl) ?_;refine JD.bJ (i:=8) (by kernel_rfl) ?_;refine JS.qB rfl rfl rfl (qb rfl) (Qt.fieldAddr rfl rfl) ?_;refine jt 9 rfl rfl (Ld.dK rfl rfl (by exact rfl) bX) (fun _=>?_);refine bS ?_
  rotate_left
  (refine JS.qB rfl rfl rfl (qb rfl) (Qt.fR rfl (by exact rfl)) ?_)
  refine JD.bJ (i:=1) (by kernel_rfl) ?_;refine JS.jS rfl rfl rfl (qb rfl) (Ld.aV CM (qb rfl) rfl (.cons .refl .nil)) (eW.aT) (fun _=>?_);refine JD.bJ (i:=7) (by kernel_rfl) ?_;refine JS.qB rfl rfl rfl (qb rfl) (Qt.nilCheck rfl rfl) ?_;refine JD.bJ (i:=8) (by kernel_rfl) ?_;refine JS.qB rfl rfl rfl (qb rfl) (Qt.fieldAddr rfl rfl) ?_;refine jt 9 rfl rfl (Ld.dK rfl rfl (by exact rfl) bX) (fun _=>?_);refine bS ?_
  rotate_left
  all_goals
   refine J.eK b g (fun x=>{ x with bQ:=s.step }) (by exact rfl) ?_
   repeat (first | (refine K.call ?_;refine JO.ld (Ld.aV (CG) (qb rfl) rfl (by (exact aK.cons .refl (.cons .refl .nil)))) rfl ?_;intro _) | refine gn ?_)
   (exact J.lp func100 rfl .nil () (by exact .refl) rfl)
end Fl
end Go.Proofs.YtofnbflkhgammaaGreat
