/-
  What the laws need, part RB2.
  Conditions: none.
-/
import Derived.Test.YtofnbflkhgammaaGreatD47
import Derived.Test.YtofnbflkhgammaaGreatRB1
set_option linter.unusedVariables false
set_option linter.unusedSimpArgs false
set_option linter.unnecessarySimpa false
set_option maxHeartbeats 2000000
namespace Go.Proofs.YtofnbflkhgammaaGreat
open Go.RowKit
namespace Fl
open Sx Go.Proofs.Tryz
set_option maxRecDepth 100000
theorem ZD {s:ah} {k:Nat} (hk:k < s.au.length):aE s ((k:Int) + 1) (cn s ((k:Int) + 1))=s:=by
 unfold aE;rw [show ((k:Int) + 1 - 1).toNat=k by omega,qV (oD hk)]
theorem ZG (b:Nat) (u:U) (s:ah) {k:Nat} (hk:k < s.au.length) (h0:0≤(cn s ((k:Int) + 1)).cap) :
  ax prog 66 [.c (.v (u.rs k))] (wd b u s) (fun _:Unit=>(.c (nI (cn s ((k:Int) + 1)).cap),wd b u s)):=by
 have RR:=Lj (lu u s) u.TR (wU (u:=u) hk);rw [show (((cn s ((k:Int) + 1)).cap.toNat:Nat):Int)=(cn s ((k:Int) + 1)).cap by omega] at RR;exact ax.at_ 11 rfl RR fun _=>rfl
section
variable {P:Program} {c:Cx} {k:List Item} {f:Fm} {L:List ak} {t b:Nat} {B:TypeId} {cs:List A}
theorem St.ZI {a:Act} {w:World} (s:St c ((t,.c (.v (.pointer (some ⟨b,0,none⟩)))) :: f) (.box b B cs :: L) a w):St c ((t,.el cs 0) :: f) L a w:=by
 have m:Mon (bG c (.box b B cs :: L)) (bG c L) w w:=⟨Nat.le_refl _,fun g _ ho=>⟨⟨ho.1,fun hx=>ho.2 ((jf _ _ _).2 (.inr hx))⟩,rfl⟩⟩
 have ap:=List.pairwise_cons.1 s.ap;refine ⟨s.kp,s.size,s.jV,fun q hq=>(s.res q (List.mem_cons_of_mem _ hq)).cS (aq.refl [] w) m (by simp),fun x hx=>s.fF x ((jf _ _ _).2 (.inr hx)),ap.2,fun u e' hu=>?_⟩
 by_cases e1:t=u
 ·subst e1;rw [oV] at hu;cases hu;have hv:=s.fr t _ (oV _ _ _);obtain ⟨vs,r1,r2⟩:=s.res _ (List.mem_cons_self ..);unfold RD RA at hv;rw [hv.1];unfold RD;have hb:b∈(ak.box b B cs).bY:=by simp [ak.bY]
  refine ⟨b,0,vs,rfl,⟨.inr (s.fF b ((jf _ _ _).2 (.inl hb))),fun hx=>?_⟩,r1.lt,r1.range,RC.cS m _ _ r2⟩;obtain ⟨q,hq,lQ⟩:=di.1 hx;exact ap.1 q hq b hb lQ
 ·rw [uy e1] at hu;exact RD.cS m e' _ (s.fr u e' (by rw [uy e1];exact hu))
theorem J.oQ (t:Nat) (h1:look f t=some (.c (.v (.pointer (some ⟨b,0,none⟩))))) (h:J P c k ((t,.el cs 0) :: f) L):J P c k f (.box b B cs :: L):=⟨fun a w s=>by
 have s1:St c ((t,.c (.v (.pointer (some ⟨b,0,none⟩)))) :: f) (.box b B cs :: L) a w:=by
  refine ⟨s.kp,s.size,s.jV,s.res,s.fF,s.ap,fun u d hu=>?_⟩
  by_cases e1:t=u
  ·subst e1;rw [oV] at hu;cases hu;exact s.fr t _ h1
  ·rw [uy e1] at hu;exact s.fr u d hu
 exact h.go a w s1.ZI⟩
end
def vQ:D→D
 | .ow v sz k o=>.ow v sz k o
 | d=>stays d
theorem vQ.rep {d:D} {ok fY:Nat→Prop} {w w':World} {x:Value} (h:RD ok w d x):RD fY w' (vQ d) x:=by
 unfold vQ
 split
 ·unfold RD at h ⊢;exact h
 ·exact stays.rep h
section
variable {P:Program} {c:Cx} {k:List Item} {f f0:Fm} {L L0:List ak} {ops:Array Oper} {o:Oper} {m:Option Nat} {n:Nat} {aM:Array Bool}
theorem JS.jS {S:List Nat} {i t:Nat} {ι:Type} {g:ι→D} {L':ι→List ak} (hi:ops[i]?=some o) (hd:o.dst=some t) (hw:dM ops o f=true) (ht:t < c.N) (q:Ld P c o f L S (fun x=>(t,g x) :: f) L') (hS:eW S L)
  (h:∀ x,JD P c ops m (p6 L0) n (aM.setIfInBounds i true) k ((t,g x) :: f) (L' x) ((t,vQ (g x)) :: f0) L0):JS P c ops m (p6 L0) n aM k f L f0 L0 i:=⟨fun a w w0 s s0 kp ho=>by
 refine wpOp_step hi (fun K hK=>?_);rw [dM.run hw s,if_pos rfl];refine q.go a w s K _ fun x v w' nX sx hf=>?_
 have mA:aq (jh L0 (p6 L0)) w0 w':=kp.trans nX fun x hx=>by
  rcases ho x (hS x hx) with h | h
  ·exact .inl (GF h)
  ·exact .inr h
 refine hK _ _ (.inr ⟨mA,(h x).go _ w' w0 sx ?_ mA ?_⟩)
 ·rw [hd];exact s0.kQ ht (vQ.rep (by
   have h1:=sx.fr t (g x) (oV _ _ _);have h2:=s.size;rw [hd] at h1;simpa [Act.put,Array.getD_eq_getD_getElem?,Array.getElem?_setIfInBounds,h2,ht] using h1))
 ·intro y hy;rcases hf y hy with h1 | h1
  ·exact ho y h1
  ·exact .inr (Nat.le_trans kp.size h1)⟩
theorem JS.qB {T:List Nat} {i t:Nat} {d:D} {U:List Nat} (hi:ops[i]?=some o) (hd:o.dst=some t) (hw:dM ops o f=true) (ht:t < c.N) (q:Qt P c U o f L d)
  (h:JD P c ops m T n (aM.setIfInBounds i true) k ((t,d) :: f) L ((t,vQ d) :: f0) L0):JS P c ops m T n aM k f L f0 L0 i:=⟨fun a w w0 s s0 kp ho=>by
 obtain ⟨v,h1,h2⟩:=q.go a w s;refine wpOp_step hi (fun K hK=>?_);rw [dM.run hw s,if_pos rfl];simp only [Oper.wp,h2 w (rC.now _ _ _),Oper.upon];exact hK _ _ (.inr ⟨kp,h.go _ w w0 (by rw [hd];exact s.kQ ht h1) (by rw [hd];exact s0.kQ ht (vQ.rep h1)) kp ho⟩)⟩
end
abbrev mZ (b g:Nat) (o:Pn.Op):List A:=.v (pt b) :: nI g :: dH o
theorem OT {u:U} {s:ah} {k:Nat} (hk:k < s.au.length):((List.range s.au.length).map fun i=>[A.v (u.rs i)])[((k:Int)).toNat]?=some [.v (u.rs k)]:=by
 rw [Int.toNat_natCast,List.getElem?_map,List.getElem?_range hk];rfl
structure uq (s:ah) (o:Pn.Op) (k:Nat):Prop where
 e:o.ch=(k:Int) + 1
 k1:k < s.au.length
 k8:k < 8
 c0:0≤(cn s ((k:Int) + 1)).cap
 bl:((cn s ((k:Int) + 1)).buf.length:Int)≤(cn s ((k:Int) + 1)).cap
end Fl
open Go.RowKit
namespace Sx
instance bT.serve {s:ah} {g k:Nat} {i:Int} {d:Bool} [h:bT k s]:bT k (Sx.serve s g i d):=⟨by rw [Zv];exact h.h⟩
end Sx
namespace Fl
open Sx Go.Proofs.Tryz
set_option maxRecDepth 100000
end Fl
open Go.RowKit
namespace Fl
open Sx Go.Proofs.Tryz
set_option maxRecDepth 100000
structure aac (s:ah) (ch:Int) (k:Nat):Prop where
 e:ch=(k:Int) + 1
 k1:k < s.au.length
 k8:k < 8
 c0:0≤(cn s ((k:Int) + 1)).cap
 bl:((cn s ((k:Int) + 1)).buf.length:Int)≤(cn s ((k:Int) + 1)).cap
theorem uq.is {s:ah} {o:Pn.Op} {k:Nat} (h:uq s o k):aac s o.ch k:=⟨h.e,h.k1,h.k8,h.c0,h.bl⟩
theorem aac.made {s:ah} {ch:Int} {k:Nat} (h:aac s ch k):aN s ch=true:=by
 have:=h.e;have:=h.k1;unfold aN;simp only [decide_eq_true_eq];omega
theorem aaB (b:Nat) (u:U) (s:ah) {k:Nat} (hk:k < s.au.length) :
  ax prog 189 [.c (.v (u.rs k))] (wd b u s) (fun _:Unit=>(.c (nI (cn s ((k:Int) + 1)).buf.length),wd b u s)) :=
 ax.at_ 11 rfl (aa6 (lu u s) u.TR (wU (u:=u) hk)) fun _=>rfl
theorem aba (l:List Int):(gN l).2.1=Rn.hd l∧(gN l).2.2=(!l.isEmpty)∧(gN l).1=l.tail:=by
 unfold gN Rn.hd
 cases l with
 | nil=>exact ⟨rfl,rfl,rfl⟩
 | cons x r=>rw [if_neg (by simp)];exact ⟨rfl,rfl,rfl⟩
theorem abb (b:Nat) (u:U) (s:ah) {k:Nat} (hk:k < s.au.length) (h8:k < 8) :
  ax prog 192 [.c (.v (u.rs k))] (wd b u s) (fun _:Unit=>(.aZ [.c (nI (gN (cn s ((k:Int) + 1)).buf).2.1),.c (bI (gN (cn s ((k:Int) + 1)).buf).2.2)],wd b u (aE s ((k:Int) + 1) { cn s ((k:Int) + 1) with buf:=(gN (cn s ((k:Int) + 1)).buf).1 }))):=by
 have e:=aba (cn s ((k:Int) + 1)).buf;rw [e.1,e.2.1,e.2.2];exact ax.at_ 11 rfl (aa2 (lu u s) u.TR (wU (u:=u) hk)) fun _=>WV _ hk h8
theorem abc (l:List Int) (c v:Int) (h:0≤c) (hl:(l.length:Int)≤c):(iy l c v).2.1=Rn.aaf c.toNat l∧(iy l c v).2.2=Rn.aae c.toNat l∧(iy l c v).1=Rn.aag c.toNat l v:=by
 unfold iy Rn.aaf Rn.aag Rn.aae Rn.hd
 cases l with
 | nil=>rw [if_pos (.inr rfl)];simp
 | cons x r =>
  by_cases a:((x :: r).length:Int) < c
  ·rw [if_pos (.inl a)];have:¬ (x :: r).length=c.toNat:=by omega
   rw [decide_eq_false this];simp
  ·rw [if_neg (by simp only [not_or];exact ⟨a,by simp⟩)];have:(x :: r).length=c.toNat:=by omega
   rw [decide_eq_true this];simp
theorem abd (b:Nat) (u:U) (s:ah) {k:Nat} (v:Int) (hk:k < s.au.length) (h8:k < 8) (h0:0≤(cn s ((k:Int) + 1)).cap) (hl:((cn s ((k:Int) + 1)).buf.length:Int)≤(cn s ((k:Int) + 1)).cap) :
  ax prog 117 [.c (.v (u.rs k)),.c (nI v)] (wd b u s) (fun _:Unit=>(.aZ [.c (nI (iy (cn s ((k:Int) + 1)).buf (cn s ((k:Int) + 1)).cap v).2.1),.c (bI (iy (cn s ((k:Int) + 1)).buf (cn s ((k:Int) + 1)).cap v).2.2)],wd b u (aE s ((k:Int) + 1) { cn s ((k:Int) + 1) with buf:=(iy (cn s ((k:Int) + 1)).buf (cn s ((k:Int) + 1)).cap v).1 }))):=by
 have e:=abc (cn s ((k:Int) + 1)).buf (cn s ((k:Int) + 1)).cap v h0 hl;rw [e.1,e.2.1,e.2.2];exact ax.at_ 11 rfl (aa3 (lu u s) u.TR (wU (u:=u) hk) v) fun _=>WV _ hk h8
theorem aaC (ch:Int) (k:Nat) (he:ch=(k:Int) + 1) (h8:k < 8) :
  Pure prog 166 [.c (nI ch)] (.c (nI (2 * ((k:Int) + 1) - 1))):=by
 have w1:IntKind.i64.wrap (2 * ch)=2 * ((k:Int) + 1):=by rw [he];exact eL (by omega) (by omega)
 have w2:IntKind.i64.wrap (2 * ((k:Int) + 1) - 1)=2 * ((k:Int) + 1) - 1:=eL (by omega) (by omega);refine ax.intro func166 rfl rfl rfl (fun ok e=>?_)
 repeat (first | (refine K.binOp ?_;first | refine jq rfl rfl rfl ((Qt.dj rfl rfl rfl w1)) ?_ | refine jq rfl rfl rfl ((Qt.dj rfl rfl rfl w2)) ?_) | refine gn ?_)
 exact aA func166
theorem abe (ch:Int) (k:Nat) (he:ch=(k:Int) + 1) (h8:k < 8) :
  Pure prog 168 [.c (nI ch)] (.c (nI (2 * ((k:Int) + 1) - 2))):=by
 have w1:IntKind.i64.wrap (2 * ch)=2 * ((k:Int) + 1):=by rw [he];exact eL (by omega) (by omega)
 have w2:IntKind.i64.wrap (2 * ((k:Int) + 1) - 2)=2 * ((k:Int) + 1) - 2:=eL (by omega) (by omega);refine ax.intro func168 rfl rfl rfl (fun ok e=>?_)
 repeat (first | (refine K.binOp ?_;first | refine jq rfl rfl rfl ((Qt.dj rfl rfl rfl w1)) ?_ | refine jq rfl rfl rfl ((Qt.dj rfl rfl rfl w2)) ?_) | refine gn ?_)
 exact aA func168
theorem aaD (b:Nat) (u:U) (s:ah) (ch:Int) (k:Nat) (h:aac s ch k) :
  ax prog 164 [.c (.v (pt b)),.c (nI ch)] (wd b u s) (fun _:Unit=>(.c (bI (cn s ((k:Int) + 1)).closed),wd b u s)):=by
 have CM:=Fp b u s ch;rw [h.made] at CM;obtain ⟨he,hk,h8,c0,bl⟩:=h;have w1:IntKind.i64.wrap (ch - 1)=(k:Int):=by rw [eL (by omega) (by omega)];omega
 have i0:(0:Int)≤(k:Int):=by omega
 have i1:(k:Int) < (s.au.map fun c=>[bI c.closed]).length:=by rw [List.length_map];omega
 have AC:(s.au.map fun c=>[bI c.closed])[((k:Int)).toNat]?=some [bI (cn s ((k:Int) + 1)).closed]:=by rw [Int.toNat_natCast,List.getElem?_map,oD hk];rfl
 refine ax.intro func164 rfl rfl rfl (fun ok e=>?_)
 repeat (first | (refine K.load ?_;((refine jq rfl rfl rfl (Qt.cE rfl (AC) (by exact rfl)) ?_))) | (refine K.indexAddr ?_;refine jq rfl rfl rfl (Qt.bM rfl rfl i0 i1) ?_) | (refine K.binOp ?_;refine jq rfl rfl rfl ((Qt.dj rfl rfl rfl w1)) ?_) | (refine K.call ?_;refine JO.ld (Ld.aV (CM) (qb rfl) rfl (by (exact aK.cons .refl (.cons .refl .nil)))) rfl ?_;intro _) | refine gn ?_)
 (exact J.iG func164 rfl (.cons (.tmp rfl) .nil) () (by exact .refl) rfl)
theorem abf (b:Nat) (u:U) (s:ah) (ch:Int) (k:Nat) (h:aac s ch k) :
  ax prog 163 [.c (.v (pt b)),.c (nI ch)] (wd b u s) (fun _:Unit=>(.c (bI (uM (cn s ((k:Int) + 1)))),wd b u s)):=by
 have CM:=Fp b u s ch;rw [h.made] at CM;obtain ⟨he,hk,h8,c0,bl⟩:=h;have w1:IntKind.i64.wrap (ch - 1)=(k:Int):=by rw [eL (by omega) (by omega)];omega
 have i0:(0:Int)≤(k:Int):=by omega
 have i1:(k:Int) < ((List.range s.au.length).map fun i=>[A.v (u.rs i)]).length:=by rw [List.length_map,List.length_range];omega
 have AC:=OT (u:=u) hk;have RM:=ZG b u s hk c0;have LN:=aaB b u s hk;have RC:=aaC ch k he h8;have LR:=TA u.pQ s.aC.length (qW s) u.TQ (2 * ((k:Int) + 1) - 1);rw [Fs h8] at LR;refine ax.intro func163 rfl rfl rfl (fun ok e=>?_)
 by_cases c:0 < (cn s ((k:Int) + 1)).cap
 ·have t1:decide ((cn s ((k:Int) + 1)).cap > 0)=true:=decide_eq_true c;have er:uM (cn s ((k:Int) + 1))=decide (((cn s ((k:Int) + 1)).buf.length:Int) > 0):=by
   unfold uM;rw [if_pos c];exact decide_eq_decide.2 (by omega)
  rw [er]
  repeat (first | (refine K.load ?_;((refine jq rfl rfl rfl (Qt.cE rfl (AC) (by exact rfl)) ?_))) | (refine K.indexAddr ?_;refine jq rfl rfl rfl (Qt.bM rfl rfl i0 i1) ?_) | (refine K.binOp ?_;refine jq rfl rfl rfl ((Qt.dj rfl rfl rfl w1)) ?_) | (refine K.call ?_;first | (refine JO.ld (Ld.aV (CM) (qb rfl) rfl (by (exact aK.cons .refl (.cons .refl .nil)))) rfl ?_;intro _) | (refine JO.ld (Ld.aV (RM) (qb rfl) rfl (aK.cons .refl .nil)) rfl ?_;intro _) | (refine JO.ld (Ld.aV (LN) (qb rfl) rfl (aK.cons .refl .nil)) rfl ?_;intro _)) | refine gn ?_)
  (exact J.iG func163 rfl (.cons (.tmp rfl) .nil) () (by exact .refl) rfl)
 ·have t1:decide ((cn s ((k:Int) + 1)).cap > 0)=false:=decide_eq_false c;have er:uM (cn s ((k:Int) + 1))=decide (((cn s ((k:Int) + 1)).send.length:Int) > 0):=by
   unfold uM;rw [if_neg c];exact decide_eq_decide.2 (by omega)
  rw [er]
  repeat (first | (refine K.load ?_;((refine jq rfl rfl rfl (Qt.cE rfl (AC) (by exact rfl)) ?_))) | (refine K.indexAddr ?_;refine jq rfl rfl rfl (Qt.bM rfl rfl i0 i1) ?_) | (refine K.binOp ?_;refine jq rfl rfl rfl ((Qt.dj rfl rfl rfl w1)) ?_) | (refine K.call ?_;first | (refine JO.ld (Ld.aV (CM) (qb rfl) rfl (by (exact aK.cons .refl (.cons .refl .nil)))) rfl ?_;intro _) | (refine JO.ld (Ld.aV (RM) (qb rfl) rfl (aK.cons .refl .nil)) rfl ?_;intro _)) | refine gn ?_)
  refine J.draw (by kernel_rfl) rfl ?_;refine JW.iS [9] none ?_;refine tk 0 ?_;refine tk 1 ?_;refine tk 2 ?_;refine tk 3 ?_;refine tk 4 ?_;refine cW 5 (RC) ?_;refine jl 6 rfl rfl rfl rfl (Ld.fQ LR (qb rfl) rfl (.cons .refl (.cons .refl .nil))) (.iO rfl) (fun _=>?_);refine jk 7 rfl rfl rfl rfl (Qt.cmp rfl rfl rfl) ?_;refine jk 8 rfl rfl rfl rfl (Qt.assign rfl) ?_;refine bt ?_
  repeat (fail)
  (exact J.iG func163 rfl (.cons (.tmp rfl) .nil) () (by exact .refl) rfl)
theorem aaR (b:Nat) (u:U) (s:ah) (ch i:Int) (k:Nat) (h:aac s ch k) (h0:0≤i) (h1:i < s.aC.length) :
  ax prog 46 [.c (.v (pt b)),.c (nI ch),.c (nI i)] (wd b u s) (fun _:Unit=>(.c (nI (Sx.hand s ((k:Int) + 1) i).2),wd b u (Sx.hand s ((k:Int) + 1) i).1)):=by
 have CM:=Fp b u s ch;rw [h.made] at CM;obtain ⟨he,hk,h8,c0,bl⟩:=h;haveI:Sx.gX i s:=⟨h0,h1⟩
 have w1:IntKind.i64.wrap (ch - 1)=(k:Int):=by rw [eL (by omega) (by omega)];omega
 have i0:(0:Int)≤(k:Int):=by omega
 have i1:(k:Int) < ((List.range s.au.length).map fun i=>[A.v (u.rs i)]).length:=by rw [List.length_map,List.length_range];omega
 have AC:=OT (u:=u) hk;have RM:=ZG b u s hk c0;have PS:=abd b u s (su s i).v hk h8 c0 bl;have t1:decide (i < 0)=false:=by simp;omega
 have t2:decide (i ≥ ((s.aC.map eS).length:Int))=false:=by rw [List.length_map];simp;omega
 refine ax.intro func46 rfl rfl rfl (fun ok e=>?_)
 by_cases c:(cn s ((k:Int) + 1)).cap=0
 ·have t3:((cn s ((k:Int) + 1)).cap == 0)=true:=by rw [c];rfl
  have er:Sx.hand s ((k:Int) + 1) i=(s,(su s i).v):=by unfold Sx.hand;dsimp only;rw [if_pos c]
  rw [er]
  repeat (first | (refine K.load ?_;first | ((refine jq rfl rfl rfl (Qt.cE rfl (AC) (by exact rfl)) ?_)) | ((refine jq rfl rfl rfl (Qt.cE rfl (oL) (by exact rfl)) ?_))) | (refine K.indexAddr ?_;first | refine jq rfl rfl rfl (Qt.bM rfl rfl i0 i1) ?_ | refine jq rfl rfl rfl (Qt.bM rfl rfl (nL (s:=s)) nM) ?_) | (refine K.binOp ?_;refine jq rfl rfl rfl ((Qt.dj rfl rfl rfl w1)) ?_) | (refine K.call ?_;first | (refine JO.ld (Ld.aV (CM) (qb rfl) rfl (by (exact aK.cons .refl (.cons .refl .nil)))) rfl ?_;intro _) | (refine JO.ld (Ld.aV (RM) (qb rfl) rfl (aK.cons .refl .nil)) rfl ?_;intro _)) | refine gn ?_)
  (exact J.iG func46 rfl (.cons (.tmp rfl) .nil) () (by exact .refl) rfl)
 ·have t3:((cn s ((k:Int) + 1)).cap == 0)=false:=by simpa using c
  have er:Sx.hand s ((k:Int) + 1) i=(aE s ((k:Int) + 1) { cn s ((k:Int) + 1) with buf:=(iy (cn s ((k:Int) + 1)).buf (cn s ((k:Int) + 1)).cap (su s i).v).1 },(iy (cn s ((k:Int) + 1)).buf (cn s ((k:Int) + 1)).cap (su s i).v).2.1):=by unfold Sx.hand;dsimp only;rw [if_neg c]
  rw [er];have hz:(iy (cn s ((k:Int) + 1)).buf (cn s ((k:Int) + 1)).cap (su s i).v).2.2=false→(iy (cn s ((k:Int) + 1)).buf (cn s ((k:Int) + 1)).cap (su s i).v).2.1=0:=by
   unfold iy;split <;> simp
  generalize hS:aE s ((k:Int) + 1) { cn s ((k:Int) + 1) with buf:=(iy (cn s ((k:Int) + 1)).buf (cn s ((k:Int) + 1)).cap (su s i).v).1 }=S1 at PS;generalize (iy (cn s ((k:Int) + 1)).buf (cn s ((k:Int) + 1)).cap (su s i).v).2.2=o2 at PS hz;generalize (iy (cn s ((k:Int) + 1)).buf (cn s ((k:Int) + 1)).cap (su s i).v).2.1=v at PS hz ⊢
  cases o2
  all_goals
   first | cases hz rfl | skip
   repeat (first | (refine K.load ?_;first | ((refine jq rfl rfl rfl (Qt.cE rfl (AC) (by exact rfl)) ?_)) | ((refine jq rfl rfl rfl (Qt.cE rfl (oL) (by exact rfl)) ?_))) | (refine K.indexAddr ?_;first | refine jq rfl rfl rfl (Qt.bM rfl rfl i0 i1) ?_ | refine jq rfl rfl rfl (Qt.bM rfl rfl (nL (s:=s)) nM) ?_) | (refine K.binOp ?_;refine jq rfl rfl rfl ((Qt.dj rfl rfl rfl w1)) ?_) | (refine K.call ?_;first | (refine JO.ld (Ld.aV (CM) (qb rfl) rfl (by (exact aK.cons .refl (.cons .refl .nil)))) rfl ?_;intro _) | (refine JO.ld (Ld.aV (RM) (qb rfl) rfl (aK.cons .refl .nil)) rfl ?_;intro _) | (refine JO.ld (Ld.aV (PS) (qb rfl) rfl (by (exact aK.cons .refl (.cons .refl .nil)))) rfl ?_;intro _)) | refine gn ?_)
   (exact J.iG func46 rfl (.cons (.tmp rfl) .nil) () (by exact .refl) rfl)
end Fl
end Go.Proofs.YtofnbflkhgammaaGreat
