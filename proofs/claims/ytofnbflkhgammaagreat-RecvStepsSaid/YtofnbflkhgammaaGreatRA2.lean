/-
  What the laws need, part RA2.
  Conditions: none.
-/
import Derived.Test.YtofnbflkhgammaaGreatD47
import Derived.Test.YtofnbflkhgammaaGreatRA1
set_option linter.unusedVariables false
set_option linter.unusedSimpArgs false
set_option linter.unnecessarySimpa false
set_option maxHeartbeats 2000000
namespace Go.Proofs.YtofnbflkhgammaaGreat
open Go.RowKit
namespace Fl
open Sx Go.Proofs.Tryz
set_option maxRecDepth 100000
theorem ZD {s:ah} {k:Nat} (hk:k < s.au.length):aE s ((k:Int) + 1) (cn s ((k:Int) + 1))=s:=by
 unfold aE;rw [show ((k:Int) + 1 - 1).toNat=k by omega,qV (oD hk)]
theorem ZG (b:Nat) (u:U) (s:ah) {k:Nat} (hk:k < s.au.length) (h0:0≤(cn s ((k:Int) + 1)).cap) :
  ax prog 66 [.c (.v (u.rs k))] (wd b u s) (fun _:Unit=>(.c (nI (cn s ((k:Int) + 1)).cap),wd b u s)):=by
 have RR:=Lj (lu u s) u.TR (wU (u:=u) hk);rw [show (((cn s ((k:Int) + 1)).cap.toNat:Nat):Int)=(cn s ((k:Int) + 1)).cap by omega] at RR;exact ax.at_ 11 rfl RR fun _=>rfl
section
variable {P:Program} {c:Cx} {k:List Item} {f:Fm} {L:List ak} {t b:Nat} {B:TypeId} {cs:List A}
theorem St.ZI {a:Act} {w:World} (s:St c ((t,.c (.v (.pointer (some ⟨b,0,none⟩)))) :: f) (.box b B cs :: L) a w):St c ((t,.el cs 0) :: f) L a w:=by
 have m:Mon (bG c (.box b B cs :: L)) (bG c L) w w:=⟨Nat.le_refl _,fun g _ ho=>⟨⟨ho.1,fun hx=>ho.2 ((jf _ _ _).2 (.inr hx))⟩,rfl⟩⟩
 have ap:=List.pairwise_cons.1 s.ap;refine ⟨s.kp,s.size,s.jV,fun q hq=>(s.res q (List.mem_cons_of_mem _ hq)).cS (aq.refl [] w) m (by simp),fun x hx=>s.fF x ((jf _ _ _).2 (.inr hx)),ap.2,fun u e' hu=>?_⟩
 by_cases e1:t=u
 ·subst e1;rw [oV] at hu;cases hu;have hv:=s.fr t _ (oV _ _ _);obtain ⟨vs,r1,r2⟩:=s.res _ (List.mem_cons_self ..);unfold RD RA at hv;rw [hv.1];unfold RD;have hb:b∈(ak.box b B cs).bY:=by simp [ak.bY]
  refine ⟨b,0,vs,rfl,⟨.inr (s.fF b ((jf _ _ _).2 (.inl hb))),fun hx=>?_⟩,r1.lt,r1.range,RC.cS m _ _ r2⟩;obtain ⟨q,hq,lQ⟩:=di.1 hx;exact ap.1 q hq b hb lQ
 ·rw [uy e1] at hu;exact RD.cS m e' _ (s.fr u e' (by rw [uy e1];exact hu))
theorem J.oQ (t:Nat) (h1:look f t=some (.c (.v (.pointer (some ⟨b,0,none⟩))))) (h:J P c k ((t,.el cs 0) :: f) L):J P c k f (.box b B cs :: L):=⟨fun a w s=>by
 have s1:St c ((t,.c (.v (.pointer (some ⟨b,0,none⟩)))) :: f) (.box b B cs :: L) a w:=by
  refine ⟨s.kp,s.size,s.jV,s.res,s.fF,s.ap,fun u d hu=>?_⟩
  by_cases e1:t=u
  ·subst e1;rw [oV] at hu;cases hu;exact s.fr t _ h1
  ·rw [uy e1] at hu;exact s.fr u d hu
 exact h.go a w s1.ZI⟩
end
def vQ:D→D
 | .ow v sz k o=>.ow v sz k o
 | d=>stays d
theorem vQ.rep {d:D} {ok fY:Nat→Prop} {w w':World} {x:Value} (h:RD ok w d x):RD fY w' (vQ d) x:=by
 unfold vQ
 split
 ·unfold RD at h ⊢;exact h
 ·exact stays.rep h
section
variable {P:Program} {c:Cx} {k:List Item} {f f0:Fm} {L L0:List ak} {ops:Array Oper} {o:Oper} {m:Option Nat} {n:Nat} {aM:Array Bool}
theorem JS.jS {S:List Nat} {i t:Nat} {ι:Type} {g:ι→D} {L':ι→List ak} (hi:ops[i]?=some o) (hd:o.dst=some t) (hw:dM ops o f=true) (ht:t < c.N) (q:Ld P c o f L S (fun x=>(t,g x) :: f) L') (hS:eW S L)
  (h:∀ x,JD P c ops m (p6 L0) n (aM.setIfInBounds i true) k ((t,g x) :: f) (L' x) ((t,vQ (g x)) :: f0) L0):JS P c ops m (p6 L0) n aM k f L f0 L0 i:=⟨fun a w w0 s s0 kp ho=>by
 refine wpOp_step hi (fun K hK=>?_);rw [dM.run hw s,if_pos rfl];refine q.go a w s K _ fun x v w' nX sx hf=>?_
 have mA:aq (jh L0 (p6 L0)) w0 w':=kp.trans nX fun x hx=>by
  rcases ho x (hS x hx) with h | h
  ·exact .inl (GF h)
  ·exact .inr h
 refine hK _ _ (.inr ⟨mA,(h x).go _ w' w0 sx ?_ mA ?_⟩)
 ·rw [hd];exact s0.kQ ht (vQ.rep (by
   have h1:=sx.fr t (g x) (oV _ _ _);have h2:=s.size;rw [hd] at h1;simpa [Act.put,Array.getD_eq_getD_getElem?,Array.getElem?_setIfInBounds,h2,ht] using h1))
 ·intro y hy;rcases hf y hy with h1 | h1
  ·exact ho y h1
  ·exact .inr (Nat.le_trans kp.size h1)⟩
theorem JS.qB {T:List Nat} {i t:Nat} {d:D} {U:List Nat} (hi:ops[i]?=some o) (hd:o.dst=some t) (hw:dM ops o f=true) (ht:t < c.N) (q:Qt P c U o f L d)
  (h:JD P c ops m T n (aM.setIfInBounds i true) k ((t,d) :: f) L ((t,vQ d) :: f0) L0):JS P c ops m T n aM k f L f0 L0 i:=⟨fun a w w0 s s0 kp ho=>by
 obtain ⟨v,h1,h2⟩:=q.go a w s;refine wpOp_step hi (fun K hK=>?_);rw [dM.run hw s,if_pos rfl];simp only [Oper.wp,h2 w (rC.now _ _ _),Oper.upon];exact hK _ _ (.inr ⟨kp,h.go _ w w0 (by rw [hd];exact s.kQ ht h1) (by rw [hd];exact s0.kQ ht (vQ.rep h1)) kp ho⟩)⟩
end
abbrev mZ (b g:Nat) (o:Pn.Op):List A:=.v (pt b) :: nI g :: dH o
theorem OT {u:U} {s:ah} {k:Nat} (hk:k < s.au.length):((List.range s.au.length).map fun i=>[A.v (u.rs i)])[((k:Int)).toNat]?=some [.v (u.rs k)]:=by
 rw [Int.toNat_natCast,List.getElem?_map,List.getElem?_range hk];rfl
structure uq (s:ah) (o:Pn.Op) (k:Nat):Prop where
 e:o.ch=(k:Int) + 1
 k1:k < s.au.length
 k8:k < 8
 c0:0≤(cn s ((k:Int) + 1)).cap
 bl:((cn s ((k:Int) + 1)).buf.length:Int)≤(cn s ((k:Int) + 1)).cap
end Fl
open Go.RowKit
namespace Sx
instance bT.serve {s:ah} {g k:Nat} {i:Int} {d:Bool} [h:bT k s]:bT k (Sx.serve s g i d):=⟨by rw [Zv];exact h.h⟩
end Sx
namespace Fl
open Sx Go.Proofs.Tryz
set_option maxRecDepth 100000
end Fl
open Go.RowKit
namespace Fl
open Sx Go.Proofs.Tryz
set_option maxRecDepth 100000
theorem AM {s:ah} {g:Nat} (h:Sx.MInv s) (hg:g < s.gs.length) (hn:∀ i j,¬ Sx.de (aa s g) i j) {c i:Int} (c0:1≤c) (c1:c≤s.au.length) (hi:i∈(cn s c).recv∨i∈(cn s c).send):(∃ o,oP s g o i)∧-1≤(su s i).cs:=by
 have q:=Sx.Inv.q h.v c c0 c1 i hi;have sI:=Sx.Inv.su h.v i q.1 q.2.1;obtain ⟨q1,q2,q3,q4,q5,q6,q7,q8,q9⟩:=q;refine ⟨⟨(su s i).g.toNat,q1,q2,by omega,by omega,fun e=>?_⟩,sI.2.2.1⟩;have e2:(su s i).g=(g:Int):=by omega
 rw [e2] at q9;exact hn _ _ q9
theorem bV {s:ah} {g:Nat} (h:Sx.Good s) (hg:g < s.gs.length) (e:(aa s g).place≠0∧(aa s g).place≠18∧(aa s g).place≠19) (k:2≤(ag s g).kind∧(ag s g).kind≤6):∃ k,uq s (ag s g) k:=by
 have h':=h.toMInv;have m:=h'.lZ hg e k;have c8:=h.c8;have c4:=h'.gE (c:=(ag s g).ch) m.1 m.2;refine ⟨((ag s g).ch - 1).toNat,by omega,by omega,by omega,?_,?_⟩
 all_goals
  rw [show ((((ag s g).ch - 1).toNat:Nat):Int) + 1=(ag s g).ch by omega];omega
theorem Dr {s:ah} {g:Nat} (h:Sx.MInv s) (hg:g < s.gs.length) (hn:∀ i j,¬ Sx.de (aa s g) i j) (e:(aa s g).place=7∨(aa s g).place=8):∃ o,oP s g o (aa s g).hold:=by
 rcases e with e | e
 ·have w:=Sx.Inv.cQ h.v (g:Int) (by omega) (by omega) (.inl e);exact (AM h hg hn w.1 w.2.1 w.2.2.2.1).1
 ·have hd:=(h.loc hg).hd (by omega);have w:=Sx.Inv.cl h.v (g:Int) (by omega) (by omega) (.inl e);obtain ⟨w1,w2,w3,w4,w5,w6,w7⟩:=w;have e0:(su s (aa s g).hold).g≠(g:Int):=w6;have e1:0≤(su s (aa s g).hold).g:=w4;have e2:(su s (aa s g).hold).g < s.gs.length:=w5;exact ⟨(su s (aa s g).hold).g.toNat,hd.1,hd.2,by omega,by omega,fun e=>by omega⟩
theorem IE {s:ah} {g:Nat} (h:Sx.MInv s) (hg:g < s.gs.length) (k:(ag s g).kind=2∨(ag s g).kind=3) (e:(aa s g).place=11):0≤(aa s g).aH∧(aa s g).aH < s.aC.length∧∀ c,(aa s g).aH∉(cn s c).recv∧(aa s g).aH∉(cn s c).send:=by
 have L:=h.loc hg;have m:=L.mi k (by omega) (by omega);have w:=Sx.Inv.own h.v (g:Int) (by omega) (by omega) (aa s g).aH ⟨m.1,.inl ⟨k,(by show 11≤(aa s g).place;omega),(by show (aa s g).place≤15;omega),rfl⟩⟩;have no:∀ c,1≤c→c≤(s.au.length:Int)→¬ ((aa s g).aH∈(cn s c).recv∨(aa s g).aH∈(cn s c).send):=fun c c0 c1 hi=>by
  have q:=(Sx.Inv.q h.v c c0 c1 _ hi).2.2.2.2.2.2.2.2;have e2:(su s (aa s g).aH).g=(g:Int):=w.2.2.1;rw [e2] at q;have q':Sx.de (aa s g) (aa s g).aH (su s (aa s g).aH).cs:=q;have kk:(aG (aa s g)).kind=2∨(aG (aa s g)).kind=3:=k;unfold Sx.de Sx.SR SE at q';rcases q' with ⟨_,a,_⟩ | ⟨a,_⟩ <;> omega
 refine ⟨m.1,m.2,fun c=>?_⟩;rcases Dh s c with ⟨c',a,b,e1⟩ | e1
 ·rw [e1];exact ⟨fun hi=>no c' a b (.inl hi),fun hi=>no c' a b (.inr hi)⟩
 ·rw [e1];simp [lW]
end Fl
open Go.RowKit
namespace Fl
open Sx Go.Proofs.Tryz
set_option maxRecDepth 100000
structure aac (s:ah) (ch:Int) (k:Nat):Prop where
 e:ch=(k:Int) + 1
 k1:k < s.au.length
 k8:k < 8
 c0:0≤(cn s ((k:Int) + 1)).cap
 bl:((cn s ((k:Int) + 1)).buf.length:Int)≤(cn s ((k:Int) + 1)).cap
theorem uq.is {s:ah} {o:Pn.Op} {k:Nat} (h:uq s o k):aac s o.ch k:=⟨h.e,h.k1,h.k8,h.c0,h.bl⟩
theorem aac.made {s:ah} {ch:Int} {k:Nat} (h:aac s ch k):aN s ch=true:=by
 have:=h.e;have:=h.k1;unfold aN;simp only [decide_eq_true_eq];omega
theorem aaB (b:Nat) (u:U) (s:ah) {k:Nat} (hk:k < s.au.length) :
  ax prog 189 [.c (.v (u.rs k))] (wd b u s) (fun _:Unit=>(.c (nI (cn s ((k:Int) + 1)).buf.length),wd b u s)) :=
 ax.at_ 11 rfl (aa3 (lu u s) u.TR (wU (u:=u) hk)) fun _=>rfl
theorem aa9 (l:List Int):(gN l).2.1=Rn.hd l∧(gN l).2.2=(!l.isEmpty)∧(gN l).1=l.tail:=by
 unfold gN Rn.hd
 cases l with
 | nil=>exact ⟨rfl,rfl,rfl⟩
 | cons x r=>rw [if_neg (by simp)];exact ⟨rfl,rfl,rfl⟩
theorem aba (b:Nat) (u:U) (s:ah) {k:Nat} (hk:k < s.au.length) (h8:k < 8) :
  ax prog 192 [.c (.v (u.rs k))] (wd b u s) (fun _:Unit=>(.aZ [.c (nI (gN (cn s ((k:Int) + 1)).buf).2.1),.c (bI (gN (cn s ((k:Int) + 1)).buf).2.2)],wd b u (aE s ((k:Int) + 1) { cn s ((k:Int) + 1) with buf:=(gN (cn s ((k:Int) + 1)).buf).1 }))):=by
 have e:=aa9 (cn s ((k:Int) + 1)).buf;rw [e.1,e.2.1,e.2.2];exact ax.at_ 11 rfl (aa1 (lu u s) u.TR (wU (u:=u) hk)) fun _=>WV _ hk h8
theorem abb (l:List Int) (c v:Int) (h:0≤c) (hl:(l.length:Int)≤c):(iy l c v).2.1=Rn.aaf c.toNat l∧(iy l c v).2.2=Rn.aae c.toNat l∧(iy l c v).1=Rn.aag c.toNat l v:=by
 unfold iy Rn.aaf Rn.aag Rn.aae Rn.hd
 cases l with
 | nil=>rw [if_pos (.inr rfl)];simp
 | cons x r =>
  by_cases a:((x :: r).length:Int) < c
  ·rw [if_pos (.inl a)];have:¬ (x :: r).length=c.toNat:=by omega
   rw [decide_eq_false this];simp
  ·rw [if_neg (by simp only [not_or];exact ⟨a,by simp⟩)];have:(x :: r).length=c.toNat:=by omega
   rw [decide_eq_true this];simp
theorem abc (b:Nat) (u:U) (s:ah) {k:Nat} (v:Int) (hk:k < s.au.length) (h8:k < 8) (h0:0≤(cn s ((k:Int) + 1)).cap) (hl:((cn s ((k:Int) + 1)).buf.length:Int)≤(cn s ((k:Int) + 1)).cap) :
  ax prog 117 [.c (.v (u.rs k)),.c (nI v)] (wd b u s) (fun _:Unit=>(.aZ [.c (nI (iy (cn s ((k:Int) + 1)).buf (cn s ((k:Int) + 1)).cap v).2.1),.c (bI (iy (cn s ((k:Int) + 1)).buf (cn s ((k:Int) + 1)).cap v).2.2)],wd b u (aE s ((k:Int) + 1) { cn s ((k:Int) + 1) with buf:=(iy (cn s ((k:Int) + 1)).buf (cn s ((k:Int) + 1)).cap v).1 }))):=by
 have e:=abb (cn s ((k:Int) + 1)).buf (cn s ((k:Int) + 1)).cap v h0 hl;rw [e.1,e.2.1,e.2.2];exact ax.at_ 11 rfl (aa2 (lu u s) u.TR (wU (u:=u) hk) v) fun _=>WV _ hk h8
theorem aaC (ch:Int) (k:Nat) (he:ch=(k:Int) + 1) (h8:k < 8) :
  Pure prog 166 [.c (nI ch)] (.c (nI (2 * ((k:Int) + 1) - 1))):=by
 have w1:IntKind.i64.wrap (2 * ch)=2 * ((k:Int) + 1):=by rw [he];exact eL (by omega) (by omega)
 have w2:IntKind.i64.wrap (2 * ((k:Int) + 1) - 1)=2 * ((k:Int) + 1) - 1:=eL (by omega) (by omega);refine ax.intro func166 rfl rfl rfl (fun ok e=>?_)
 repeat (first | (refine K.binOp ?_;first | refine jq rfl rfl rfl ((Qt.dj rfl rfl rfl w1)) ?_ | refine jq rfl rfl rfl ((Qt.dj rfl rfl rfl w2)) ?_) | refine gn ?_)
 exact aA func166
theorem abd (ch:Int) (k:Nat) (he:ch=(k:Int) + 1) (h8:k < 8) :
  Pure prog 168 [.c (nI ch)] (.c (nI (2 * ((k:Int) + 1) - 2))):=by
 have w1:IntKind.i64.wrap (2 * ch)=2 * ((k:Int) + 1):=by rw [he];exact eL (by omega) (by omega)
 have w2:IntKind.i64.wrap (2 * ((k:Int) + 1) - 2)=2 * ((k:Int) + 1) - 2:=eL (by omega) (by omega);refine ax.intro func168 rfl rfl rfl (fun ok e=>?_)
 repeat (first | (refine K.binOp ?_;first | refine jq rfl rfl rfl ((Qt.dj rfl rfl rfl w1)) ?_ | refine jq rfl rfl rfl ((Qt.dj rfl rfl rfl w2)) ?_) | refine gn ?_)
 exact aA func168
theorem aaD (b:Nat) (u:U) (s:ah) (ch:Int) (k:Nat) (h:aac s ch k) :
  ax prog 164 [.c (.v (pt b)),.c (nI ch)] (wd b u s) (fun _:Unit=>(.c (bI (cn s ((k:Int) + 1)).closed),wd b u s)):=by
 have CM:=Fp b u s ch;rw [h.made] at CM;obtain ⟨he,hk,h8,c0,bl⟩:=h;have w1:IntKind.i64.wrap (ch - 1)=(k:Int):=by rw [eL (by omega) (by omega)];omega
 have i0:(0:Int)≤(k:Int):=by omega
 have i1:(k:Int) < (s.au.map fun c=>[bI c.closed]).length:=by rw [List.length_map];omega
 have AC:(s.au.map fun c=>[bI c.closed])[((k:Int)).toNat]?=some [bI (cn s ((k:Int) + 1)).closed]:=by rw [Int.toNat_natCast,List.getElem?_map,oD hk];rfl
 refine ax.intro func164 rfl rfl rfl (fun ok e=>?_)
 repeat (first | (refine K.load ?_;((refine jq rfl rfl rfl (Qt.cE rfl (AC) (by exact rfl)) ?_))) | (refine K.indexAddr ?_;refine jq rfl rfl rfl (Qt.bM rfl rfl i0 i1) ?_) | (refine K.binOp ?_;refine jq rfl rfl rfl ((Qt.dj rfl rfl rfl w1)) ?_) | (refine K.call ?_;refine JO.ld (Ld.aV (CM) (qb rfl) rfl (by (exact aK.cons .refl (.cons .refl .nil)))) rfl ?_;intro _) | refine gn ?_)
 (exact J.iG func164 rfl (.cons (.tmp rfl) .nil) () (by exact .refl) rfl)
theorem abe (b:Nat) (u:U) (s:ah) (ch:Int) (k:Nat) (h:aac s ch k) :
  ax prog 163 [.c (.v (pt b)),.c (nI ch)] (wd b u s) (fun _:Unit=>(.c (bI (uM (cn s ((k:Int) + 1)))),wd b u s)):=by
 have CM:=Fp b u s ch;rw [h.made] at CM;obtain ⟨he,hk,h8,c0,bl⟩:=h;have w1:IntKind.i64.wrap (ch - 1)=(k:Int):=by rw [eL (by omega) (by omega)];omega
 have i0:(0:Int)≤(k:Int):=by omega
 have i1:(k:Int) < ((List.range s.au.length).map fun i=>[A.v (u.rs i)]).length:=by rw [List.length_map,List.length_range];omega
 have AC:=OT (u:=u) hk;have RM:=ZG b u s hk c0;have LN:=aaB b u s hk;have RC:=aaC ch k he h8;have LR:=TA u.pQ s.aC.length (qW s) u.TQ (2 * ((k:Int) + 1) - 1);rw [Fs h8] at LR;refine ax.intro func163 rfl rfl rfl (fun ok e=>?_)
 by_cases c:0 < (cn s ((k:Int) + 1)).cap
 ·have t1:decide ((cn s ((k:Int) + 1)).cap > 0)=true:=decide_eq_true c;have er:uM (cn s ((k:Int) + 1))=decide (((cn s ((k:Int) + 1)).buf.length:Int) > 0):=by
   unfold uM;rw [if_pos c];exact decide_eq_decide.2 (by omega)
  rw [er]
  repeat (first | (refine K.load ?_;((refine jq rfl rfl rfl (Qt.cE rfl (AC) (by exact rfl)) ?_))) | (refine K.indexAddr ?_;refine jq rfl rfl rfl (Qt.bM rfl rfl i0 i1) ?_) | (refine K.binOp ?_;refine jq rfl rfl rfl ((Qt.dj rfl rfl rfl w1)) ?_) | (refine K.call ?_;first | (refine JO.ld (Ld.aV (CM) (qb rfl) rfl (by (exact aK.cons .refl (.cons .refl .nil)))) rfl ?_;intro _) | (refine JO.ld (Ld.aV (RM) (qb rfl) rfl (aK.cons .refl .nil)) rfl ?_;intro _) | (refine JO.ld (Ld.aV (LN) (qb rfl) rfl (aK.cons .refl .nil)) rfl ?_;intro _)) | refine gn ?_)
  (exact J.iG func163 rfl (.cons (.tmp rfl) .nil) () (by exact .refl) rfl)
 ·have t1:decide ((cn s ((k:Int) + 1)).cap > 0)=false:=decide_eq_false c;have er:uM (cn s ((k:Int) + 1))=decide (((cn s ((k:Int) + 1)).send.length:Int) > 0):=by
   unfold uM;rw [if_neg c];exact decide_eq_decide.2 (by omega)
  rw [er]
  repeat (first | (refine K.load ?_;((refine jq rfl rfl rfl (Qt.cE rfl (AC) (by exact rfl)) ?_))) | (refine K.indexAddr ?_;refine jq rfl rfl rfl (Qt.bM rfl rfl i0 i1) ?_) | (refine K.binOp ?_;refine jq rfl rfl rfl ((Qt.dj rfl rfl rfl w1)) ?_) | (refine K.call ?_;first | (refine JO.ld (Ld.aV (CM) (qb rfl) rfl (by (exact aK.cons .refl (.cons .refl .nil)))) rfl ?_;intro _) | (refine JO.ld (Ld.aV (RM) (qb rfl) rfl (aK.cons .refl .nil)) rfl ?_;intro _)) | refine gn ?_)
  refine J.draw (by kernel_rfl) rfl ?_;refine JW.iS [9] none ?_;refine tk 0 ?_;refine tk 1 ?_;refine tk 2 ?_;refine tk 3 ?_;refine tk 4 ?_;refine cW 5 (RC) ?_;refine jl 6 rfl rfl rfl rfl (Ld.fQ LR (qb rfl) rfl (.cons .refl (.cons .refl .nil))) (.iO rfl) (fun _=>?_);refine jk 7 rfl rfl rfl rfl (Qt.cmp rfl rfl rfl) ?_;refine jk 8 rfl rfl rfl rfl (Qt.assign rfl) ?_;refine bt ?_
  repeat (fail)
  (exact J.iG func163 rfl (.cons (.tmp rfl) .nil) () (by exact .refl) rfl)
theorem abf (b:Nat) (u:U) (s:ah) (ch i:Int) (k:Nat) (h:aac s ch k) (h0:0≤i) (h1:i < s.aC.length) :
  ax prog 46 [.c (.v (pt b)),.c (nI ch),.c (nI i)] (wd b u s) (fun _:Unit=>(.c (nI (Sx.hand s ((k:Int) + 1) i).2),wd b u (Sx.hand s ((k:Int) + 1) i).1)):=by
 have CM:=Fp b u s ch;rw [h.made] at CM;obtain ⟨he,hk,h8,c0,bl⟩:=h;haveI:Sx.gX i s:=⟨h0,h1⟩
 have w1:IntKind.i64.wrap (ch - 1)=(k:Int):=by rw [eL (by omega) (by omega)];omega
 have i0:(0:Int)≤(k:Int):=by omega
 have i1:(k:Int) < ((List.range s.au.length).map fun i=>[A.v (u.rs i)]).length:=by rw [List.length_map,List.length_range];omega
 have AC:=OT (u:=u) hk;have RM:=ZG b u s hk c0;have PS:=abc b u s (su s i).v hk h8 c0 bl;have t1:decide (i < 0)=false:=by simp;omega
 have t2:decide (i ≥ ((s.aC.map eS).length:Int))=false:=by rw [List.length_map];simp;omega
 refine ax.intro func46 rfl rfl rfl (fun ok e=>?_)
 by_cases c:(cn s ((k:Int) + 1)).cap=0
 ·have t3:((cn s ((k:Int) + 1)).cap == 0)=true:=by rw [c];rfl
  have er:Sx.hand s ((k:Int) + 1) i=(s,(su s i).v):=by unfold Sx.hand;dsimp only;rw [if_pos c]
  rw [er]
  repeat (first | (refine K.load ?_;first | ((refine jq rfl rfl rfl (Qt.cE rfl (AC) (by exact rfl)) ?_)) | ((refine jq rfl rfl rfl (Qt.cE rfl (oL) (by exact rfl)) ?_))) | (refine K.indexAddr ?_;first | refine jq rfl rfl rfl (Qt.bM rfl rfl i0 i1) ?_ | refine jq rfl rfl rfl (Qt.bM rfl rfl (nL (s:=s)) nM) ?_) | (refine K.binOp ?_;refine jq rfl rfl rfl ((Qt.dj rfl rfl rfl w1)) ?_) | (refine K.call ?_;first | (refine JO.ld (Ld.aV (CM) (qb rfl) rfl (by (exact aK.cons .refl (.cons .refl .nil)))) rfl ?_;intro _) | (refine JO.ld (Ld.aV (RM) (qb rfl) rfl (aK.cons .refl .nil)) rfl ?_;intro _)) | refine gn ?_)
  (exact J.iG func46 rfl (.cons (.tmp rfl) .nil) () (by exact .refl) rfl)
 ·have t3:((cn s ((k:Int) + 1)).cap == 0)=false:=by simpa using c
  have er:Sx.hand s ((k:Int) + 1) i=(aE s ((k:Int) + 1) { cn s ((k:Int) + 1) with buf:=(iy (cn s ((k:Int) + 1)).buf (cn s ((k:Int) + 1)).cap (su s i).v).1 },(iy (cn s ((k:Int) + 1)).buf (cn s ((k:Int) + 1)).cap (su s i).v).2.1):=by unfold Sx.hand;dsimp only;rw [if_neg c]
  rw [er];have hz:(iy (cn s ((k:Int) + 1)).buf (cn s ((k:Int) + 1)).cap (su s i).v).2.2=false→(iy (cn s ((k:Int) + 1)).buf (cn s ((k:Int) + 1)).cap (su s i).v).2.1=0:=by
   unfold iy;split <;> simp
  generalize hS:aE s ((k:Int) + 1) { cn s ((k:Int) + 1) with buf:=(iy (cn s ((k:Int) + 1)).buf (cn s ((k:Int) + 1)).cap (su s i).v).1 }=S1 at PS;generalize (iy (cn s ((k:Int) + 1)).buf (cn s ((k:Int) + 1)).cap (su s i).v).2.2=o2 at PS hz;generalize (iy (cn s ((k:Int) + 1)).buf (cn s ((k:Int) + 1)).cap (su s i).v).2.1=v at PS hz ⊢
  cases o2
  all_goals
   first | cases hz rfl | skip
   repeat (first | (refine K.load ?_;first | ((refine jq rfl rfl rfl (Qt.cE rfl (AC) (by exact rfl)) ?_)) | ((refine jq rfl rfl rfl (Qt.cE rfl (oL) (by exact rfl)) ?_))) | (refine K.indexAddr ?_;first | refine jq rfl rfl rfl (Qt.bM rfl rfl i0 i1) ?_ | refine jq rfl rfl rfl (Qt.bM rfl rfl (nL (s:=s)) nM) ?_) | (refine K.binOp ?_;refine jq rfl rfl rfl ((Qt.dj rfl rfl rfl w1)) ?_) | (refine K.call ?_;first | (refine JO.ld (Ld.aV (CM) (qb rfl) rfl (by (exact aK.cons .refl (.cons .refl .nil)))) rfl ?_;intro _) | (refine JO.ld (Ld.aV (RM) (qb rfl) rfl (aK.cons .refl .nil)) rfl ?_;intro _) | (refine JO.ld (Ld.aV (PS) (qb rfl) rfl (by (exact aK.cons .refl (.cons .refl .nil)))) rfl ?_;intro _)) | refine gn ?_)
   (exact J.iG func46 rfl (.cons (.tmp rfl) .nil) () (by exact .refl) rfl)
end Fl
open Go.RowKit
namespace Fl
open Sx Go.Proofs.Tryz
set_option maxRecDepth 100000
theorem abi (b:Nat) (u:U) (s:ah) (g k:Nat) (ch:Int) (hg:g < s.gs.length) (h:aac s ch k) (hu:dG u s) (S:ah)
  (hp:((aa s g).place=1∧S=if uM (cn s ((k:Int) + 1))=true then Sx.aI s g 4 else bH s g (aa s g).res 2)
  ∨((aa s g).place=2∧S=if (cn s ((k:Int) + 1)).closed=true then Sx.aI s g 3 else ai s g { aa s g with res:={ (aa s g).res with code:=2 },place:=18 })
  ∨((aa s g).place=3∧S=if uM (cn s ((k:Int) + 1))=true then ai s g { aa s g with bQ:=0,place:=4 } else bH s g (eJ 0 false) 18)) :
  ax prog 113 [.c (.v (pt b)),.c (nI g),.c (nI ch)] (wd b u s) (fun x:{ u':U // dG u' S }=>(.aZ [],wd b x.1 S)):=by
 haveI:Sx.bT g s:=⟨hg⟩
 have CS:=abe b u s ch k h;have CC:=aaD b u s ch k h;refine ax.intro func113 rfl rfl rfl (fun ok e=>?_);rcases hp with ⟨e1,rfl⟩ | ⟨e1,rfl⟩ | ⟨e1,rfl⟩
 ·have P:∀ c,((aa s g).place == c)=((1:Int) == c):=fun c=>by rw [e1]
  generalize uM (cn s ((k:Int) + 1))=c at CS ⊢
  repeat (first | (refine K.load ?_;((refine jq rfl rfl rfl (Qt.cE rfl (bX) (by exact rfl)) ?_))) | (refine K.indexAddr ?_;refine jq rfl rfl rfl (Qt.bM rfl rfl eB eD) ?_) | refine aL (P _) ?_ | (refine K.call ?_;refine JO.ld (Ld.aV (CS) (qb rfl) rfl (by (exact aK.cons .refl (.cons .refl .nil)))) rfl ?_;intro _) | refine gn ?_)
  cases c with
  | true =>
   rw [if_pos rfl]
   repeat (first | (refine K.store ?_;((refine JO.ld (Ld.dK rfl rfl (by exact rfl) bX) rfl (fun _=>?_)));refine JO.eK b g (fun x=>{ x with place:=4 }) (by exact rfl) ?_) | refine gn ?_)
   (exact J.iG func113 rfl .nil ⟨u,hu.to⟩ (by exact .refl) rfl)
  | false =>
   rw [if_neg (by simp),show bH s g (aa s g).res 2=bg (bg s g fun x=>{ x with bQ:=s.step }) g fun x=>{ x with place:=2 } by rw [kL hg];rfl]
   repeat (first | (refine K.store ?_;first | ((refine JO.ld (Ld.dK rfl rfl (by exact rfl) bX) rfl (fun _=>?_)));refine JO.eK b g (fun x=>{ x with bQ:=s.step }) (by exact rfl) ?_ | ((refine JO.ld (Ld.dK rfl rfl (by exact rfl) bX) rfl (fun _=>?_)));refine JO.eK b g (fun x=>{ x with place:=2 }) (by exact rfl) ?_) | refine gn ?_)
   (exact J.lp func113 rfl .nil ⟨u,hu.to⟩ (by exact .refl) rfl)
 ·have P:∀ c,((aa s g).place == c)=((2:Int) == c):=fun c=>by rw [e1]
  generalize (cn s ((k:Int) + 1)).closed=c at CC ⊢
  repeat (first | (refine K.load ?_;((refine jq rfl rfl rfl (Qt.cE rfl (bX) (by exact rfl)) ?_))) | (refine K.indexAddr ?_;refine jq rfl rfl rfl (Qt.bM rfl rfl eB eD) ?_) | refine aL (P _) ?_ | (refine K.call ?_;refine JO.ld (Ld.aV (CC) (qb rfl) rfl (by (exact aK.cons .refl (.cons .refl .nil)))) rfl ?_;intro _) | refine gn ?_)
  cases c with
  | true =>
   rw [if_pos rfl]
   repeat (first | (refine K.store ?_;((refine JO.ld (Ld.dK rfl rfl (by exact rfl) bX) rfl (fun _=>?_)));refine JO.eK b g (fun x=>{ x with place:=3 }) (by exact rfl) ?_) | refine gn ?_)
   (exact J.iG func113 rfl .nil ⟨u,hu.to⟩ (by exact .refl) rfl)
  | false =>
   rw [if_neg (by simp),show ai s g { aa s g with res:={ (aa s g).res with code:=2 },place:=18 }=bg (bg s g fun x=>{ x with res:={ x.res with code:=2 } }) g fun x=>{ x with place:=18 } by rw [kL hg];rfl]
   repeat (first | (refine K.store ?_;first | ((refine JO.ld (Ld.dK rfl rfl (by exact rfl) bX) rfl (fun _=>?_)));refine JO.eK b g (fun x=>{ x with res:={ x.res with code:=2 } }) (by exact rfl) ?_ | ((refine JO.ld (Ld.dK rfl rfl (by exact rfl) bX) rfl (fun _=>?_)));refine JO.eK b g (fun x=>{ x with place:=18 }) (by exact rfl) ?_) | refine gn ?_)
   (exact J.lp func113 rfl .nil ⟨u,hu.to⟩ (by exact .refl) rfl)
 ·have P:∀ c,((aa s g).place == c)=((3:Int) == c):=fun c=>by rw [e1]
  generalize uM (cn s ((k:Int) + 1))=c at CS ⊢
  repeat (first | (refine K.load ?_;((refine jq rfl rfl rfl (Qt.cE rfl (bX) (by exact rfl)) ?_))) | (refine K.indexAddr ?_;refine jq rfl rfl rfl (Qt.bM rfl rfl eB eD) ?_) | refine aL (P _) ?_ | (refine K.call ?_;refine JO.ld (Ld.aV (CS) (qb rfl) rfl (by (exact aK.cons .refl (.cons .refl .nil)))) rfl ?_;intro _) | refine gn ?_)
  cases c with
  | true =>
   rw [if_pos rfl,show ai s g { aa s g with bQ:=0,place:=4 }=bg (bg s g fun x=>{ x with bQ:=0 }) g fun x=>{ x with place:=4 } by rw [kL hg];rfl]
   repeat (first | (refine K.store ?_;first | ((refine JO.ld (Ld.dK rfl rfl (by exact rfl) bX) rfl (fun _=>?_)));refine JO.eK b g (fun x=>{ x with bQ:=0 }) (by exact rfl) ?_ | ((refine JO.ld (Ld.dK rfl rfl (by exact rfl) bX) rfl (fun _=>?_)));refine JO.eK b g (fun x=>{ x with place:=4 }) (by exact rfl) ?_) | refine gn ?_)
   (exact J.iG func113 rfl .nil ⟨u,hu.to⟩ (by exact .refl) rfl)
  | false =>
   rw [if_neg (by simp),show bH s g (eJ 0 false) 18=bg (bg (bg s g fun x=>{ x with res:=⟨1,-1,0,false,0⟩ }) g fun x=>{ x with bQ:=s.step }) g fun x=>{ x with place:=18 } by rw [kL Sx.bT.h,kL hg];rfl]
   repeat (first | (refine K.store ?_;first | (first | refine JO.ld (Ld.dK rfl rfl (by exact rfl) bX) rfl (fun _=>?_) | refine JO.ld (Ld.Qd rfl rfl rfl (by exact rfl) (by exact rfl) bX) rfl (fun _=>?_));refine JO.eK b g (fun x=>{ x with res:=⟨1,-1,0,false,0⟩ }) (by exact rfl) ?_ | ((refine JO.ld (Ld.dK rfl rfl (by exact rfl) bX) rfl (fun _=>?_)));refine JO.eK b g (fun x=>{ x with bQ:=s.step }) (by exact rfl) ?_ | ((refine JO.ld (Ld.dK rfl rfl (by exact rfl) bX) rfl (fun _=>?_)));refine JO.eK b g (fun x=>{ x with place:=18 }) (by exact rfl) ?_) | refine gn ?_)
   (exact J.lp func113 rfl .nil ⟨u,hu.to⟩ (by exact .refl) rfl)
theorem abj (b:Nat) (u:U) (s:ah) (g k:Nat) (ch:Int) (hg:g < s.gs.length) (h:aac s ch k) :
  ax prog 165 [.c (.v (pt b)),.c (nI g),.c (nI ch)] (wd b u s) (fun _:Unit=>(.aZ [],wd b u (if (cn s ((k:Int) + 1)).closed=true∧(cn s ((k:Int) + 1)).buf.length=0 then bH s g (eJ 0 false) 16 else if (cn s ((k:Int) + 1)).closed=true then Sx.aI s g 9 else Sx.aI s g 6))):=by
 haveI:Sx.bT g s:=⟨hg⟩
 have CC:=aaD b u s ch k h;obtain ⟨he,hk,h8,c0,bl⟩:=h;have w1:IntKind.i64.wrap (ch - 1)=(k:Int):=by rw [eL (by omega) (by omega)];omega
 have i0:(0:Int)≤(k:Int):=by omega
 have i1:(k:Int) < ((List.range s.au.length).map fun i=>[A.v (u.rs i)]).length:=by rw [List.length_map,List.length_range];omega
 have AC:=OT (u:=u) hk;have LN:=aaB b u s hk;refine ax.intro func165 rfl rfl rfl (fun ok e=>?_)
 cases c:(cn s ((k:Int) + 1)).closed with
 | false =>
  rw [c] at CC;rw [if_neg (by simp),if_neg (by simp)]
  repeat (first | (refine K.store ?_;((refine JO.ld (Ld.dK rfl rfl (by exact rfl) bX) rfl (fun _=>?_)));refine JO.eK b g (fun x=>{ x with place:=6 }) (by exact rfl) ?_) | (refine K.indexAddr ?_;refine jq rfl rfl rfl (Qt.bM rfl rfl eB eD) ?_) | (refine K.call ?_;refine JO.ld (Ld.aV (CC) (qb rfl) rfl (by (exact aK.cons .refl (.cons .refl .nil)))) rfl ?_;intro _) | refine gn ?_)
  (exact J.lp func165 rfl .nil () (by exact .refl) rfl)
 | true =>
  rw [c] at CC;have t1:decide (((cn s ((k:Int) + 1)).buf.length:Int) > 0)=!decide ((cn s ((k:Int) + 1)).buf.length=0):=by
   by_cases z:(cn s ((k:Int) + 1)).buf.length=0 <;> simp [z]
   omega
  repeat (first | (refine K.load ?_;((refine jq rfl rfl rfl (Qt.cE rfl (AC) (by exact rfl)) ?_))) | (refine K.indexAddr ?_;first | refine jq rfl rfl rfl (Qt.bM rfl rfl eB eD) ?_ | refine jq rfl rfl rfl (Qt.bM rfl rfl i0 i1) ?_) | (refine K.binOp ?_;refine jq rfl rfl rfl ((Qt.dj rfl rfl rfl w1)) ?_) | (refine K.call ?_;first | (refine JO.ld (Ld.aV (CC) (qb rfl) rfl (by (exact aK.cons .refl (.cons .refl .nil)))) rfl ?_;intro _) | (refine JO.ld (Ld.aV (LN) (qb rfl) rfl (aK.cons .refl .nil)) rfl ?_;intro _)) | refine gn ?_)
  by_cases z:(cn s ((k:Int) + 1)).buf.length=0
  ·rw [if_pos ⟨rfl,z⟩,decide_eq_true z,show bH s g (eJ 0 false) 16=bg (bg (bg s g fun x=>{ x with res:=⟨1,-1,0,false,0⟩ }) g fun x=>{ x with bQ:=s.step }) g fun x=>{ x with place:=16 } by rw [kL Sx.bT.h,kL hg];rfl]
   repeat (first | (refine K.store ?_;first | (first | refine JO.ld (Ld.dK rfl rfl (by exact rfl) bX) rfl (fun _=>?_) | refine JO.ld (Ld.Qd rfl rfl rfl (by exact rfl) (by exact rfl) bX) rfl (fun _=>?_));refine JO.eK b g (fun x=>{ x with res:=⟨1,-1,0,false,0⟩ }) (by exact rfl) ?_ | ((refine JO.ld (Ld.dK rfl rfl (by exact rfl) bX) rfl (fun _=>?_)));refine JO.eK b g (fun x=>{ x with bQ:=s.step }) (by exact rfl) ?_ | ((refine JO.ld (Ld.dK rfl rfl (by exact rfl) bX) rfl (fun _=>?_)));refine JO.eK b g (fun x=>{ x with place:=16 }) (by exact rfl) ?_) | refine gn ?_)
   (exact J.lp func165 rfl .nil () (by exact .refl) rfl)
  ·rw [if_neg (fun h=>z h.2),if_pos rfl,decide_eq_false z]
   repeat (first | (refine K.store ?_;((refine JO.ld (Ld.dK rfl rfl (by exact rfl) bX) rfl (fun _=>?_)));refine JO.eK b g (fun x=>{ x with place:=9 }) (by exact rfl) ?_) | refine gn ?_)
   (exact J.lp func165 rfl .nil () (by exact .refl) rfl)
def aah (s:ah) (g:Nat) (o:Pn.Op) (ch:Int):ah :=
 if (gN (cn s ch).buf).2.2=true then bH (aE s ch { cn s ch with buf:=(gN (cn s ch).buf).1 }) g (eJ (gN (cn s ch).buf).2.1 true) 16
 else if o.kind=5 then bH s g (Sx.res 2) 16 else Sx.aI s g 10
theorem abk (b:Nat) (u:U) (s:ah) (g k:Nat) (o:Pn.Op) (hk5:o.kind=3∨o.kind=5) (hg:g < s.gs.length) (h:uq s o k) :
  ax prog 167 [.c (.v (pt b)),.c (nI g),.agg (dH o)] (wd b u s) (fun _:Unit=>(.aZ [],wd b u (aah s g o ((k:Int) + 1)))):=by
 haveI:Sx.bT g s:=⟨hg⟩
 have CM:=Fp b u s o.ch;rw [h.is.made] at CM;obtain ⟨he,hk,h8,c0,bl⟩:=h;have w1:IntKind.i64.wrap (o.ch - 1)=(k:Int):=by rw [eL (by omega) (by omega)];omega
 have i0:(0:Int)≤(k:Int):=by omega
 have i1:(k:Int) < ((List.range s.au.length).map fun i=>[A.v (u.rs i)]).length:=by rw [List.length_map,List.length_range];omega
 have AC:=OT (u:=u) hk;have GT:=aba b u s hk h8;refine ax.intro func167 rfl rfl rfl (fun ok e=>?_);have es:(gN (cn s ((k:Int) + 1)).buf).2.2=false→aE s ((k:Int) + 1) { cn s ((k:Int) + 1) with buf:=(gN (cn s ((k:Int) + 1)).buf).1 }=s:=fun c=>by
  have:(gN (cn s ((k:Int) + 1)).buf).1=(cn s ((k:Int) + 1)).buf:=by
   unfold gN at c ⊢
   split at c
   ·rename_i a;rw [if_pos a]
   ·cases c
  rw [this];exact ZD hk
 unfold aah;generalize hS:aE s ((k:Int) + 1) { cn s ((k:Int) + 1) with buf:=(gN (cn s ((k:Int) + 1)).buf).1 }=S1 at GT es ⊢;have sq:g < S1.gs.length:=by rw [← hS];exact hg
 clear hS;generalize (gN (cn s ((k:Int) + 1)).buf).2.2=o2 at GT es ⊢;generalize (gN (cn s ((k:Int) + 1)).buf).2.1=v at GT ⊢;haveI:Sx.bT g S1:=⟨sq⟩
 repeat (first | (refine K.indexAddr ?_;refine jq rfl rfl rfl (Qt.bM rfl rfl eB eD) ?_) | (refine K.call ?_;refine JO.ld (Ld.aV (CM) (qb rfl) rfl (by (exact aK.cons .refl (.cons .refl .nil)))) rfl ?_;intro _) | refine av ?_ | intro _)
 refine J.oQ 5 rfl ?_;refine J.draw (by kernel_rfl) rfl ?_;refine JW.p7 none ?_;refine tk 0 ?_;refine tk 1 ?_;refine tk 2 ?_;refine tk 4 ?_;refine tk 5 ?_;refine JD.take 6 rfl rfl (by kernel_rfl) rfl (qb rfl) (Qt.dj rfl rfl rfl w1) rfl ?_;refine JD.bJ (i:=3) (by kernel_rfl) ?_
 (refine JS.qB rfl rfl rfl (qb rfl) (Qt.fR rfl (by exact rfl)) ?_)
 refine JD.bJ (i:=7) (by kernel_rfl) ?_;refine JS.qB rfl rfl rfl (qb rfl) (Qt.bM rfl rfl i0 i1) ?_;refine JD.bJ (i:=8) (by kernel_rfl) ?_;refine JS.qB rfl rfl rfl (qb rfl) (Qt.cE rfl AC rfl) ?_;refine JD.bJ (i:=9) (by kernel_rfl) ?_;refine JS.jS rfl rfl rfl (qb rfl) (Ld.aV GT (qb rfl) rfl (.cons .refl .nil)) (eW.aT) (fun _=>?_);refine JD.bJ (i:=10) (by kernel_rfl) ?_;refine JS.qB rfl rfl rfl (qb rfl) (Qt.move rfl) ?_;refine JD.cU (i:=11) (j:=12) (by kernel_rfl) ?_ ?_;refine JS.qB rfl rfl rfl (qb rfl) (Qt.extract rfl rfl) ?_;refine tk 13 ?_;refine JD.bJ (i:=12) (by kernel_rfl) ?_;refine JS.qB rfl rfl rfl (qb rfl) (Qt.extract rfl rfl) ?_;refine JD.bJ (i:=14) (by kernel_rfl) ?_;refine JS.qB rfl rfl rfl (qb rfl) (Qt.assign rfl) ?_;refine bt ?_
 rotate_left
 refine JS.qB rfl rfl rfl (qb rfl) (Qt.extract rfl rfl) ?_;refine JD.bJ (i:=11) (by kernel_rfl) ?_;refine JS.qB rfl rfl rfl (qb rfl) (Qt.extract rfl rfl) ?_;refine JD.bJ (i:=13) (by kernel_rfl) ?_;refine JS.qB rfl rfl rfl (qb rfl) (Qt.assign rfl) ?_;refine JD.bJ (i:=14) (by kernel_rfl) ?_;refine JS.qB rfl rfl rfl (qb rfl) (Qt.assign rfl) ?_;refine bt ?_
 rotate_left
 all_goals
  cases o2 with
  | true =>
   rw [if_pos rfl,show bH S1 g (eJ v true) 16=bg (bg (bg S1 g fun x=>{ x with res:=⟨1,-1,v,true,0⟩ }) g fun x=>{ x with bQ:=S1.step }) g fun x=>{ x with place:=16 } by rw [kL Sx.bT.h,kL sq];rfl]
   repeat (first | (refine K.store ?_;first | (first | refine JO.ld (Ld.dK rfl rfl (by exact rfl) bX) rfl (fun _=>?_) | refine JO.ld (Ld.Qd rfl rfl rfl (by exact rfl) (by exact rfl) bX) rfl (fun _=>?_));refine JO.eK b g (fun x=>{ x with res:=⟨1,-1,v,true,0⟩ }) (by exact rfl) ?_ | ((refine JO.ld (Ld.dK rfl rfl (by exact rfl) bX) rfl (fun _=>?_)));refine JO.eK b g (fun x=>{ x with bQ:=S1.step }) (by exact rfl) ?_ | ((refine JO.ld (Ld.dK rfl rfl (by exact rfl) bX) rfl (fun _=>?_)));refine JO.eK b g (fun x=>{ x with place:=16 }) (by exact rfl) ?_) | refine gn ?_)
   (exact J.iG func167 rfl .nil () (by exact .refl) rfl)
  | false =>
   cases es rfl;rw [if_neg (by simp)]
   cases k5:(o.kind == 3) with
   | false =>
    rw [if_pos (hk5.resolve_left (by simpa using k5)),show bH s g (Sx.res 2) 16=bg (bg (bg s g fun x=>{ x with res:=⟨2,-1,0,false,0⟩ }) g fun x=>{ x with bQ:=s.step }) g fun x=>{ x with place:=16 } by rw [kL Sx.bT.h,kL hg];rfl]
    repeat (first | (refine K.store ?_;first | (first | refine JO.ld (Ld.dK rfl rfl (by exact rfl) bX) rfl (fun _=>?_) | refine JO.ld (Ld.Qd rfl rfl rfl (by exact rfl) (by exact rfl) bX) rfl (fun _=>?_));refine JO.eK b g (fun x=>{ x with res:=⟨2,-1,0,false,0⟩ }) (by exact rfl) ?_ | ((refine JO.ld (Ld.dK rfl rfl (by exact rfl) bX) rfl (fun _=>?_)));refine JO.eK b g (fun x=>{ x with bQ:=s.step }) (by exact rfl) ?_ | ((refine JO.ld (Ld.dK rfl rfl (by exact rfl) bX) rfl (fun _=>?_)));refine JO.eK b g (fun x=>{ x with place:=16 }) (by exact rfl) ?_) | refine gn ?_)
    (exact J.lp func167 rfl .nil () (by exact .refl) rfl)
   | true =>
    have k6:o.kind=3:=by simpa using k5
    rw [aB]
    repeat (first | (refine K.store ?_;((refine JO.ld (Ld.dK rfl rfl (by exact rfl) bX) rfl (fun _=>?_)));refine JO.eK b g (fun x=>{ x with place:=10 }) (by exact rfl) ?_) | refine gn ?_)
    (exact J.iG func167 rfl .nil () (by exact .refl) rfl)
end Fl
end Go.Proofs.YtofnbflkhgammaaGreat
