/-
  What the laws need, part L4.
  Conditions: none.
-/
import Derived.Test.YtdjhhbpedllnhaaGreatL3
set_option linter.unusedVariables false
set_option linter.unusedSimpArgs false
set_option linter.unnecessarySimpa false
set_option maxHeartbeats 2000000
namespace Go.Proofs.YtdjhhbpedllnhaaGreat
open Go.RowKit
namespace Fl
open Sx Go.Proofs.Tryz
set_option maxRecDepth 100000
structure nX (s:ah) (ch:Int) (k:Nat):Prop where
 e:ch=(k:Int) + 1
 k1:k < s.au.length
 k8:k < 8
 c0:0≤(cn s ((k:Int) + 1)).cap
 bl:((cn s ((k:Int) + 1)).buf.length:Int)≤(cn s ((k:Int) + 1)).cap
theorem vY.is {s:ah} {o:Pn.Op} {k:Nat} (h:vY s o k):nX s o.ch k:=⟨h.e,h.k1,h.k8,h.c0,h.bl⟩
theorem nX.made {s:ah} {ch:Int} {k:Nat} (h:nX s ch k):aL s ch=true:=by
 have:=h.e;have:=h.k1;unfold aL;simp only [decide_eq_true_eq];omega
theorem O7 (b:Nat) (u:U) (s:ah) {k:Nat} (hk:k < s.au.length) :
  av prog 193 [.c (.v (u.rs k))] (wd b u s) (fun _:Unit=>(.c (nI (cn s ((k:Int) + 1)).buf.length),wd b u s)) :=
 av.at_ 11 rfl (aai (kW u s) u.TR (vl (u:=u) hk)) fun _=>rfl
theorem aaE (l:List Int):(dX l).2.1=Rn.hd l∧(dX l).2.2=(!l.isEmpty)∧(dX l).1=l.tail:=by
 unfold dX Rn.hd
 cases l with
 | nil=>exact ⟨rfl,rfl,rfl⟩
 | cons x r=>rw [if_neg (by simp)];exact ⟨rfl,rfl,rfl⟩
theorem aaF (b:Nat) (u:U) (s:ah) {k:Nat} (hk:k < s.au.length) (h8:k < 8) :
  av prog 196 [.c (.v (u.rs k))] (wd b u s) (fun _:Unit=>(.aZ [.c (nI (dX (cn s ((k:Int) + 1)).buf).2.1),.c (bI (dX (cn s ((k:Int) + 1)).buf).2.2)],wd b u (aA s ((k:Int) + 1) { cn s ((k:Int) + 1) with buf:=(dX (cn s ((k:Int) + 1)).buf).1 }))):=by
 have e:=aaE (cn s ((k:Int) + 1)).buf;rw [e.1,e.2.1,e.2.2];exact av.at_ 11 rfl (aag (kW u s) u.TR (vl (u:=u) hk)) fun _=>O1 _ hk h8
theorem aaG (l:List Int) (c v:Int) (h:0≤c) (hl:(l.length:Int)≤c):(eF l c v).2.1=Rn.uv c.toNat l∧(eF l c v).2.2=Rn.rj c.toNat l∧(eF l c v).1=Rn.uw c.toNat l v:=by
 unfold eF Rn.uv Rn.uw Rn.rj Rn.hd
 cases l with
 | nil=>rw [if_pos (.inr rfl)];simp
 | cons x r =>
  by_cases a:((x :: r).length:Int) < c
  ·rw [if_pos (.inl a)];have:¬ (x :: r).length=c.toNat:=by omega
   rw [decide_eq_false this];simp
  ·rw [if_neg (by simp only [not_or];exact ⟨a,by simp⟩)];have:(x :: r).length=c.toNat:=by omega
   rw [decide_eq_true this];simp
theorem aaH (b:Nat) (u:U) (s:ah) {k:Nat} (v:Int) (hk:k < s.au.length) (h8:k < 8) (h0:0≤(cn s ((k:Int) + 1)).cap) (hl:((cn s ((k:Int) + 1)).buf.length:Int)≤(cn s ((k:Int) + 1)).cap) :
  av prog 195 [.c (.v (u.rs k)),.c (nI v)] (wd b u s) (fun _:Unit=>(.aZ [.c (nI (eF (cn s ((k:Int) + 1)).buf (cn s ((k:Int) + 1)).cap v).2.1),.c (bI (eF (cn s ((k:Int) + 1)).buf (cn s ((k:Int) + 1)).cap v).2.2)],wd b u (aA s ((k:Int) + 1) { cn s ((k:Int) + 1) with buf:=(eF (cn s ((k:Int) + 1)).buf (cn s ((k:Int) + 1)).cap v).1 }))):=by
 have e:=aaG (cn s ((k:Int) + 1)).buf (cn s ((k:Int) + 1)).cap v h0 hl;rw [e.1,e.2.1,e.2.2];exact av.at_ 11 rfl (aah (kW u s) u.TR (vl (u:=u) hk) v) fun _=>O1 _ hk h8
theorem O8 (ch:Int) (k:Nat) (he:ch=(k:Int) + 1) (h8:k < 8) :
  Pure prog 135 [.c (nI ch)] (.c (nI (2 * ((k:Int) + 1) - 1))):=by
 have w1:IntKind.i64.wrap (2 * ch)=2 * ((k:Int) + 1):=by rw [he];exact eK (by omega) (by omega)
 have w2:IntKind.i64.wrap (2 * ((k:Int) + 1) - 1)=2 * ((k:Int) + 1) - 1:=eK (by omega) (by omega);refine av.intro func135 rfl rfl rfl (fun ok e=>?_)
 repeat (first | (refine K.binOp ?_;first | refine jq rfl rfl rfl ((Qt.cI rfl rfl rfl w1)) ?_ | refine jq rfl rfl rfl ((Qt.cI rfl rfl rfl w2)) ?_) | refine gn ?_)
 exact aC func135
theorem aaI (ch:Int) (k:Nat) (he:ch=(k:Int) + 1) (h8:k < 8) :
  Pure prog 140 [.c (nI ch)] (.c (nI (2 * ((k:Int) + 1) - 2))):=by
 have w1:IntKind.i64.wrap (2 * ch)=2 * ((k:Int) + 1):=by rw [he];exact eK (by omega) (by omega)
 have w2:IntKind.i64.wrap (2 * ((k:Int) + 1) - 2)=2 * ((k:Int) + 1) - 2:=eK (by omega) (by omega);refine av.intro func140 rfl rfl rfl (fun ok e=>?_)
 repeat (first | (refine K.binOp ?_;first | refine jq rfl rfl rfl ((Qt.cI rfl rfl rfl w1)) ?_ | refine jq rfl rfl rfl ((Qt.cI rfl rfl rfl w2)) ?_) | refine gn ?_)
 exact aC func140
theorem O9 (b:Nat) (u:U) (s:ah) (ch:Int) (k:Nat) (h:nX s ch k) :
  av prog 132 [.c (.v (pt b)),.c (nI ch)] (wd b u s) (fun _:Unit=>(.c (bI (cn s ((k:Int) + 1)).closed),wd b u s)):=by
 have CM:=zm b u s ch;rw [h.made] at CM;obtain ⟨he,hk,h8,c0,bl⟩:=h;have w1:IntKind.i64.wrap (ch - 1)=(k:Int):=by rw [eK (by omega) (by omega)];omega
 have i0:(0:Int)≤(k:Int):=by omega
 have i1:(k:Int) < (s.au.map fun c=>[bI c.closed]).length:=by rw [List.length_map];omega
 have AC:(s.au.map fun c=>[bI c.closed])[((k:Int)).toNat]?=some [bI (cn s ((k:Int) + 1)).closed]:=by rw [Int.toNat_natCast,List.getElem?_map,lH hk];rfl
 refine av.intro func132 rfl rfl rfl (fun ok e=>?_)
 repeat (first | (refine K.load ?_;((refine jq rfl rfl rfl (Qt.bM rfl (AC) (by exact rfl)) ?_))) | (refine K.indexAddr ?_;refine jq rfl rfl rfl (Qt.aV rfl rfl i0 i1) ?_) | (refine K.binOp ?_;refine jq rfl rfl rfl ((Qt.cI rfl rfl rfl w1)) ?_) | (refine K.call ?_;refine JO.ld (Ld.bw (CM) (qb rfl) rfl (by (exact aW.cons .refl (.cons .refl .nil)))) rfl ?_;intro _) | refine gn ?_)
 (exact J.gF func132 rfl (.cons (.tmp rfl) .nil) () (by exact .refl) rfl)
theorem aaJ (b:Nat) (u:U) (s:ah) (ch:Int) (k:Nat) (h:nX s ch k) :
  av prog 131 [.c (.v (pt b)),.c (nI ch)] (wd b u s) (fun _:Unit=>(.c (bI (ke (cn s ((k:Int) + 1)))),wd b u s)):=by
 have CM:=zm b u s ch;rw [h.made] at CM;obtain ⟨he,hk,h8,c0,bl⟩:=h;have w1:IntKind.i64.wrap (ch - 1)=(k:Int):=by rw [eK (by omega) (by omega)];omega
 have i0:(0:Int)≤(k:Int):=by omega
 have i1:(k:Int) < ((List.range s.au.length).map fun i=>[A.v (u.rs i)]).length:=by rw [List.length_map,List.length_range];omega
 have AC:=Dy (u:=u) hk;have RM:=O4 b u s hk c0;have LN:=O7 b u s hk;have RC:=O8 ch k he h8;have LR:=aae u.pQ s.aB.length (qW s) u.TQ (2 * ((k:Int) + 1) - 1);rw [BQ h8] at LR;refine av.intro func131 rfl rfl rfl (fun ok e=>?_)
 by_cases c:0 < (cn s ((k:Int) + 1)).cap
 ·have t1:decide ((cn s ((k:Int) + 1)).cap > 0)=true:=decide_eq_true c;have er:ke (cn s ((k:Int) + 1))=decide (((cn s ((k:Int) + 1)).buf.length:Int) > 0):=by
   unfold ke;rw [if_pos c];exact decide_eq_decide.2 (by omega)
  rw [er]
  repeat (first | (refine K.load ?_;((refine jq rfl rfl rfl (Qt.bM rfl (AC) (by exact rfl)) ?_))) | (refine K.indexAddr ?_;refine jq rfl rfl rfl (Qt.aV rfl rfl i0 i1) ?_) | (refine K.binOp ?_;refine jq rfl rfl rfl ((Qt.cI rfl rfl rfl w1)) ?_) | (refine K.call ?_;first | (refine JO.ld (Ld.bw (CM) (qb rfl) rfl (by (exact aW.cons .refl (.cons .refl .nil)))) rfl ?_;intro _) | (refine JO.ld (Ld.bw (RM) (qb rfl) rfl (aW.cons .refl .nil)) rfl ?_;intro _) | (refine JO.ld (Ld.bw (LN) (qb rfl) rfl (aW.cons .refl .nil)) rfl ?_;intro _)) | refine gn ?_)
  (exact J.gF func131 rfl (.cons (.tmp rfl) .nil) () (by exact .refl) rfl)
 ·have t1:decide ((cn s ((k:Int) + 1)).cap > 0)=false:=decide_eq_false c;have er:ke (cn s ((k:Int) + 1))=decide (((cn s ((k:Int) + 1)).send.length:Int) > 0):=by
   unfold ke;rw [if_neg c];exact decide_eq_decide.2 (by omega)
  rw [er]
  repeat (first | (refine K.load ?_;((refine jq rfl rfl rfl (Qt.bM rfl (AC) (by exact rfl)) ?_))) | (refine K.indexAddr ?_;refine jq rfl rfl rfl (Qt.aV rfl rfl i0 i1) ?_) | (refine K.binOp ?_;refine jq rfl rfl rfl ((Qt.cI rfl rfl rfl w1)) ?_) | (refine K.call ?_;first | (refine JO.ld (Ld.bw (CM) (qb rfl) rfl (by (exact aW.cons .refl (.cons .refl .nil)))) rfl ?_;intro _) | (refine JO.ld (Ld.bw (RM) (qb rfl) rfl (aW.cons .refl .nil)) rfl ?_;intro _)) | refine gn ?_)
  refine J.draw (by kernel_rfl) rfl ?_;refine JW.iU [9] none ?_;refine tk 0 ?_;refine tk 1 ?_;refine tk 2 ?_;refine tk 3 ?_;refine tk 4 ?_;refine c9 5 (RC) ?_;refine jl 6 rfl rfl rfl rfl (Ld.eN LR (qb rfl) rfl (.cons .refl (.cons .refl .nil))) (.iT rfl) (fun _=>?_);refine jk 7 rfl rfl rfl rfl (Qt.cmp rfl rfl rfl) ?_;refine jk 8 rfl rfl rfl rfl (Qt.assign rfl) ?_;refine bX ?_
  repeat (fail)
  (exact J.gF func131 rfl (.cons (.tmp rfl) .nil) () (by exact .refl) rfl)
theorem aaK (b:Nat) (u:U) (s:ah) (ch i:Int) (k:Nat) (h:nX s ch k) (h0:0≤i) (h1:i < s.aB.length) :
  av prog 136 [.c (.v (pt b)),.c (nI ch),.c (nI i)] (wd b u s) (fun _:Unit=>(.c (nI (Sx.hand s ((k:Int) + 1) i).2),wd b u (Sx.hand s ((k:Int) + 1) i).1)):=by
 have CM:=zm b u s ch;rw [h.made] at CM;obtain ⟨he,hk,h8,c0,bl⟩:=h;haveI:Sx.gI i s:=⟨h0,h1⟩
 have w1:IntKind.i64.wrap (ch - 1)=(k:Int):=by rw [eK (by omega) (by omega)];omega
 have i0:(0:Int)≤(k:Int):=by omega
 have i1:(k:Int) < ((List.range s.au.length).map fun i=>[A.v (u.rs i)]).length:=by rw [List.length_map,List.length_range];omega
 have AC:=Dy (u:=u) hk;have RM:=O4 b u s hk c0;have PS:=aaH b u s (su s i).v hk h8 c0 bl;have t1:decide (i < 0)=false:=by simp;omega
 have t2:decide (i ≥ ((s.aB.map eS).length:Int))=false:=by rw [List.length_map];simp;omega
 refine av.intro func136 rfl rfl rfl (fun ok e=>?_)
 by_cases c:(cn s ((k:Int) + 1)).cap=0
 ·have t3:((cn s ((k:Int) + 1)).cap == 0)=true:=by rw [c];rfl
  have er:Sx.hand s ((k:Int) + 1) i=(s,(su s i).v):=by unfold Sx.hand;dsimp only;rw [if_pos c]
  rw [er]
  repeat (first | (refine K.load ?_;first | ((refine jq rfl rfl rfl (Qt.bM rfl (AC) (by exact rfl)) ?_)) | ((refine jq rfl rfl rfl (Qt.bM rfl (jY) (by exact rfl)) ?_))) | (refine K.indexAddr ?_;first | refine jq rfl rfl rfl (Qt.aV rfl rfl i0 i1) ?_ | refine jq rfl rfl rfl (Qt.aV rfl rfl (jH (s:=s)) jI) ?_) | (refine K.binOp ?_;refine jq rfl rfl rfl ((Qt.cI rfl rfl rfl w1)) ?_) | (refine K.call ?_;first | (refine JO.ld (Ld.bw (CM) (qb rfl) rfl (by (exact aW.cons .refl (.cons .refl .nil)))) rfl ?_;intro _) | (refine JO.ld (Ld.bw (RM) (qb rfl) rfl (aW.cons .refl .nil)) rfl ?_;intro _)) | refine gn ?_)
  (exact J.gF func136 rfl (.cons (.tmp rfl) .nil) () (by exact .refl) rfl)
 ·have t3:((cn s ((k:Int) + 1)).cap == 0)=false:=by simpa using c
  have er:Sx.hand s ((k:Int) + 1) i=(aA s ((k:Int) + 1) { cn s ((k:Int) + 1) with buf:=(eF (cn s ((k:Int) + 1)).buf (cn s ((k:Int) + 1)).cap (su s i).v).1 },(eF (cn s ((k:Int) + 1)).buf (cn s ((k:Int) + 1)).cap (su s i).v).2.1):=by unfold Sx.hand;dsimp only;rw [if_neg c]
  rw [er];have hz:(eF (cn s ((k:Int) + 1)).buf (cn s ((k:Int) + 1)).cap (su s i).v).2.2=false→(eF (cn s ((k:Int) + 1)).buf (cn s ((k:Int) + 1)).cap (su s i).v).2.1=0:=by
   unfold eF;split <;> simp
  generalize hS:aA s ((k:Int) + 1) { cn s ((k:Int) + 1) with buf:=(eF (cn s ((k:Int) + 1)).buf (cn s ((k:Int) + 1)).cap (su s i).v).1 }=S1 at PS;generalize (eF (cn s ((k:Int) + 1)).buf (cn s ((k:Int) + 1)).cap (su s i).v).2.2=o2 at PS hz;generalize (eF (cn s ((k:Int) + 1)).buf (cn s ((k:Int) + 1)).cap (su s i).v).2.1=v at PS hz ⊢
  cases o2
  all_goals
   first | cases hz rfl | skip
   repeat (first | (refine K.load ?_;first | ((refine jq rfl rfl rfl (Qt.bM rfl (AC) (by exact rfl)) ?_)) | ((refine jq rfl rfl rfl (Qt.bM rfl (jY) (by exact rfl)) ?_))) | (refine K.indexAddr ?_;first | refine jq rfl rfl rfl (Qt.aV rfl rfl i0 i1) ?_ | refine jq rfl rfl rfl (Qt.aV rfl rfl (jH (s:=s)) jI) ?_) | (refine K.binOp ?_;refine jq rfl rfl rfl ((Qt.cI rfl rfl rfl w1)) ?_) | (refine K.call ?_;first | (refine JO.ld (Ld.bw (CM) (qb rfl) rfl (by (exact aW.cons .refl (.cons .refl .nil)))) rfl ?_;intro _) | (refine JO.ld (Ld.bw (RM) (qb rfl) rfl (aW.cons .refl .nil)) rfl ?_;intro _) | (refine JO.ld (Ld.bw (PS) (qb rfl) rfl (by (exact aW.cons .refl (.cons .refl .nil)))) rfl ?_;intro _)) | refine gn ?_)
   (exact J.gF func136 rfl (.cons (.tmp rfl) .nil) () (by exact .refl) rfl)
end Fl
open Go.RowKit
namespace Fl
open Sx Go.Proofs.Tryz
set_option maxRecDepth 100000
theorem aaL (b:Nat) (u:U) (s:ah) (g k:Nat) (ch:Int) (hg:g < s.gs.length) (h:nX s ch k) (hu:cA u s) (S:ah)
  (hp:((aa s g).place=1∧S=if ke (cn s ((k:Int) + 1))=true then Sx.aG s g 4 else br s g (aa s g).res 2)
  ∨((aa s g).place=2∧S=if (cn s ((k:Int) + 1)).closed=true then Sx.aG s g 3 else ai s g { aa s g with res:={ (aa s g).res with code:=2 },place:=18 })
  ∨((aa s g).place=3∧S=if ke (cn s ((k:Int) + 1))=true then ai s g { aa s g with bE:=0,place:=4 } else br s g (cZ 0 false) 18)) :
  av prog 76 [.c (.v (pt b)),.c (nI g),.c (nI ch)] (wd b u s) (fun x:{ u':U // cA u' S }=>(.aZ [],wd b x.1 S)):=by
 haveI:Sx.bt g s:=⟨hg⟩
 have CS:=aaJ b u s ch k h;have CC:=O9 b u s ch k h;refine av.intro func76 rfl rfl rfl (fun ok e=>?_);rcases hp with ⟨e1,rfl⟩ | ⟨e1,rfl⟩ | ⟨e1,rfl⟩
 ·have P:∀ c,((aa s g).place == c)=((1:Int) == c):=fun c=>by rw [e1]
  generalize ke (cn s ((k:Int) + 1))=c at CS ⊢
  repeat (first | (refine K.load ?_;((refine jq rfl rfl rfl (Qt.bM rfl (aP) (by exact rfl)) ?_))) | (refine K.indexAddr ?_;refine jq rfl rfl rfl (Qt.aV rfl rfl cW cX) ?_) | refine aK (P _) ?_ | (refine K.call ?_;refine JO.ld (Ld.bw (CS) (qb rfl) rfl (by (exact aW.cons .refl (.cons .refl .nil)))) rfl ?_;intro _) | refine gn ?_)
  cases c with
  | true =>
   rw [if_pos rfl]
   repeat (first | (refine K.store ?_;((refine JO.ld (Ld.bQ rfl rfl (by exact rfl) aP) rfl (fun _=>?_)));refine JO.bS b g (fun x=>{ x with place:=4 }) (by exact rfl) ?_) | refine gn ?_)
   (exact J.gF func76 rfl .nil ⟨u,hu.to⟩ (by exact .refl) rfl)
  | false =>
   rw [if_neg (by simp),show br s g (aa s g).res 2=aS (aS s g fun x=>{ x with bE:=s.step }) g fun x=>{ x with place:=2 } by rw [fJ hg];rfl]
   repeat (first | (refine K.store ?_;first | ((refine JO.ld (Ld.bQ rfl rfl (by exact rfl) aP) rfl (fun _=>?_)));refine JO.bS b g (fun x=>{ x with bE:=s.step }) (by exact rfl) ?_ | ((refine JO.ld (Ld.bQ rfl rfl (by exact rfl) aP) rfl (fun _=>?_)));refine JO.bS b g (fun x=>{ x with place:=2 }) (by exact rfl) ?_) | refine gn ?_)
   (exact J.ij func76 rfl .nil ⟨u,hu.to⟩ (by exact .refl) rfl)
 ·have P:∀ c,((aa s g).place == c)=((2:Int) == c):=fun c=>by rw [e1]
  generalize (cn s ((k:Int) + 1)).closed=c at CC ⊢
  repeat (first | (refine K.load ?_;((refine jq rfl rfl rfl (Qt.bM rfl (aP) (by exact rfl)) ?_))) | (refine K.indexAddr ?_;refine jq rfl rfl rfl (Qt.aV rfl rfl cW cX) ?_) | refine aK (P _) ?_ | (refine K.call ?_;refine JO.ld (Ld.bw (CC) (qb rfl) rfl (by (exact aW.cons .refl (.cons .refl .nil)))) rfl ?_;intro _) | refine gn ?_)
  cases c with
  | true =>
   rw [if_pos rfl]
   repeat (first | (refine K.store ?_;((refine JO.ld (Ld.bQ rfl rfl (by exact rfl) aP) rfl (fun _=>?_)));refine JO.bS b g (fun x=>{ x with place:=3 }) (by exact rfl) ?_) | refine gn ?_)
   (exact J.gF func76 rfl .nil ⟨u,hu.to⟩ (by exact .refl) rfl)
  | false =>
   rw [if_neg (by simp),show ai s g { aa s g with res:={ (aa s g).res with code:=2 },place:=18 }=aS (aS s g fun x=>{ x with res:={ x.res with code:=2 } }) g fun x=>{ x with place:=18 } by rw [fJ hg];rfl]
   repeat (first | (refine K.store ?_;first | ((refine JO.ld (Ld.bQ rfl rfl (by exact rfl) aP) rfl (fun _=>?_)));refine JO.bS b g (fun x=>{ x with res:={ x.res with code:=2 } }) (by exact rfl) ?_ | ((refine JO.ld (Ld.bQ rfl rfl (by exact rfl) aP) rfl (fun _=>?_)));refine JO.bS b g (fun x=>{ x with place:=18 }) (by exact rfl) ?_) | refine gn ?_)
   (exact J.ij func76 rfl .nil ⟨u,hu.to⟩ (by exact .refl) rfl)
 ·have P:∀ c,((aa s g).place == c)=((3:Int) == c):=fun c=>by rw [e1]
  generalize ke (cn s ((k:Int) + 1))=c at CS ⊢
  repeat (first | (refine K.load ?_;((refine jq rfl rfl rfl (Qt.bM rfl (aP) (by exact rfl)) ?_))) | (refine K.indexAddr ?_;refine jq rfl rfl rfl (Qt.aV rfl rfl cW cX) ?_) | refine aK (P _) ?_ | (refine K.call ?_;refine JO.ld (Ld.bw (CS) (qb rfl) rfl (by (exact aW.cons .refl (.cons .refl .nil)))) rfl ?_;intro _) | refine gn ?_)
  cases c with
  | true =>
   rw [if_pos rfl,show ai s g { aa s g with bE:=0,place:=4 }=aS (aS s g fun x=>{ x with bE:=0 }) g fun x=>{ x with place:=4 } by rw [fJ hg];rfl]
   repeat (first | (refine K.store ?_;first | ((refine JO.ld (Ld.bQ rfl rfl (by exact rfl) aP) rfl (fun _=>?_)));refine JO.bS b g (fun x=>{ x with bE:=0 }) (by exact rfl) ?_ | ((refine JO.ld (Ld.bQ rfl rfl (by exact rfl) aP) rfl (fun _=>?_)));refine JO.bS b g (fun x=>{ x with place:=4 }) (by exact rfl) ?_) | refine gn ?_)
   (exact J.gF func76 rfl .nil ⟨u,hu.to⟩ (by exact .refl) rfl)
  | false =>
   rw [if_neg (by simp),show br s g (cZ 0 false) 18=aS (aS (aS s g fun x=>{ x with res:=⟨1,-1,0,false,0⟩ }) g fun x=>{ x with bE:=s.step }) g fun x=>{ x with place:=18 } by rw [fJ Sx.bt.h,fJ hg];rfl]
   repeat (first | (refine K.store ?_;first | (first | refine JO.ld (Ld.bQ rfl rfl (by exact rfl) aP) rfl (fun _=>?_) | refine JO.ld (Ld.qm rfl rfl rfl (by exact rfl) (by exact rfl) aP) rfl (fun _=>?_));refine JO.bS b g (fun x=>{ x with res:=⟨1,-1,0,false,0⟩ }) (by exact rfl) ?_ | ((refine JO.ld (Ld.bQ rfl rfl (by exact rfl) aP) rfl (fun _=>?_)));refine JO.bS b g (fun x=>{ x with bE:=s.step }) (by exact rfl) ?_ | ((refine JO.ld (Ld.bQ rfl rfl (by exact rfl) aP) rfl (fun _=>?_)));refine JO.bS b g (fun x=>{ x with place:=18 }) (by exact rfl) ?_) | refine gn ?_)
   (exact J.ij func76 rfl .nil ⟨u,hu.to⟩ (by exact .refl) rfl)
theorem aaM (b:Nat) (u:U) (s:ah) (g k:Nat) (ch:Int) (hg:g < s.gs.length) (h:nX s ch k) :
  av prog 133 [.c (.v (pt b)),.c (nI g),.c (nI ch)] (wd b u s) (fun _:Unit=>(.aZ [],wd b u (if (cn s ((k:Int) + 1)).closed=true∧(cn s ((k:Int) + 1)).buf.length=0 then br s g (cZ 0 false) 16 else if (cn s ((k:Int) + 1)).closed=true then Sx.aG s g 9 else Sx.aG s g 6))):=by
 haveI:Sx.bt g s:=⟨hg⟩
 have CC:=O9 b u s ch k h;obtain ⟨he,hk,h8,c0,bl⟩:=h;have w1:IntKind.i64.wrap (ch - 1)=(k:Int):=by rw [eK (by omega) (by omega)];omega
 have i0:(0:Int)≤(k:Int):=by omega
 have i1:(k:Int) < ((List.range s.au.length).map fun i=>[A.v (u.rs i)]).length:=by rw [List.length_map,List.length_range];omega
 have AC:=Dy (u:=u) hk;have LN:=O7 b u s hk;refine av.intro func133 rfl rfl rfl (fun ok e=>?_)
 cases c:(cn s ((k:Int) + 1)).closed with
 | false =>
  rw [c] at CC;rw [if_neg (by simp),if_neg (by simp)]
  repeat (first | (refine K.store ?_;((refine JO.ld (Ld.bQ rfl rfl (by exact rfl) aP) rfl (fun _=>?_)));refine JO.bS b g (fun x=>{ x with place:=6 }) (by exact rfl) ?_) | (refine K.indexAddr ?_;refine jq rfl rfl rfl (Qt.aV rfl rfl cW cX) ?_) | (refine K.call ?_;refine JO.ld (Ld.bw (CC) (qb rfl) rfl (by (exact aW.cons .refl (.cons .refl .nil)))) rfl ?_;intro _) | refine gn ?_)
  (exact J.ij func133 rfl .nil () (by exact .refl) rfl)
 | true =>
  rw [c] at CC;have t1:decide (((cn s ((k:Int) + 1)).buf.length:Int) > 0)=!decide ((cn s ((k:Int) + 1)).buf.length=0):=by
   by_cases z:(cn s ((k:Int) + 1)).buf.length=0 <;> simp [z]
   omega
  repeat (first | (refine K.load ?_;((refine jq rfl rfl rfl (Qt.bM rfl (AC) (by exact rfl)) ?_))) | (refine K.indexAddr ?_;first | refine jq rfl rfl rfl (Qt.aV rfl rfl cW cX) ?_ | refine jq rfl rfl rfl (Qt.aV rfl rfl i0 i1) ?_) | (refine K.binOp ?_;refine jq rfl rfl rfl ((Qt.cI rfl rfl rfl w1)) ?_) | (refine K.call ?_;first | (refine JO.ld (Ld.bw (CC) (qb rfl) rfl (by (exact aW.cons .refl (.cons .refl .nil)))) rfl ?_;intro _) | (refine JO.ld (Ld.bw (LN) (qb rfl) rfl (aW.cons .refl .nil)) rfl ?_;intro _)) | refine gn ?_)
  by_cases z:(cn s ((k:Int) + 1)).buf.length=0
  ·rw [if_pos ⟨rfl,z⟩,decide_eq_true z,show br s g (cZ 0 false) 16=aS (aS (aS s g fun x=>{ x with res:=⟨1,-1,0,false,0⟩ }) g fun x=>{ x with bE:=s.step }) g fun x=>{ x with place:=16 } by rw [fJ Sx.bt.h,fJ hg];rfl]
   repeat (first | (refine K.store ?_;first | (first | refine JO.ld (Ld.bQ rfl rfl (by exact rfl) aP) rfl (fun _=>?_) | refine JO.ld (Ld.qm rfl rfl rfl (by exact rfl) (by exact rfl) aP) rfl (fun _=>?_));refine JO.bS b g (fun x=>{ x with res:=⟨1,-1,0,false,0⟩ }) (by exact rfl) ?_ | ((refine JO.ld (Ld.bQ rfl rfl (by exact rfl) aP) rfl (fun _=>?_)));refine JO.bS b g (fun x=>{ x with bE:=s.step }) (by exact rfl) ?_ | ((refine JO.ld (Ld.bQ rfl rfl (by exact rfl) aP) rfl (fun _=>?_)));refine JO.bS b g (fun x=>{ x with place:=16 }) (by exact rfl) ?_) | refine gn ?_)
   (exact J.ij func133 rfl .nil () (by exact .refl) rfl)
  ·rw [if_neg (fun h=>z h.2),if_pos rfl,decide_eq_false z]
   repeat (first | (refine K.store ?_;((refine JO.ld (Ld.bQ rfl rfl (by exact rfl) aP) rfl (fun _=>?_)));refine JO.bS b g (fun x=>{ x with place:=9 }) (by exact rfl) ?_) | refine gn ?_)
   (exact J.ij func133 rfl .nil () (by exact .refl) rfl)
def vZ (s:ah) (g:Nat) (o:Pn.Op) (ch:Int):ah :=
 if (dX (cn s ch).buf).2.2=true then br (aA s ch { cn s ch with buf:=(dX (cn s ch).buf).1 }) g (cZ (dX (cn s ch).buf).2.1 true) 16
 else if o.kind=5 then br s g (Sx.res 2) 16 else Sx.aG s g 10
theorem aaN (b:Nat) (u:U) (s:ah) (g k:Nat) (o:Pn.Op) (H9:o.kind=3∨o.kind=5) (hg:g < s.gs.length) (h:vY s o k) :
  av prog 138 [.c (.v (pt b)),.c (nI g),.agg (eL o)] (wd b u s) (fun _:Unit=>(.aZ [],wd b u (vZ s g o ((k:Int) + 1)))):=by
 haveI:Sx.bt g s:=⟨hg⟩
 have CM:=zm b u s o.ch;rw [h.is.made] at CM;obtain ⟨he,hk,h8,c0,bl⟩:=h;have w1:IntKind.i64.wrap (o.ch - 1)=(k:Int):=by rw [eK (by omega) (by omega)];omega
 have i0:(0:Int)≤(k:Int):=by omega
 have i1:(k:Int) < ((List.range s.au.length).map fun i=>[A.v (u.rs i)]).length:=by rw [List.length_map,List.length_range];omega
 have AC:=Dy (u:=u) hk;have GT:=aaF b u s hk h8;refine av.intro func138 rfl rfl rfl (fun ok e=>?_);have es:(dX (cn s ((k:Int) + 1)).buf).2.2=false→aA s ((k:Int) + 1) { cn s ((k:Int) + 1) with buf:=(dX (cn s ((k:Int) + 1)).buf).1 }=s:=fun c=>by
  have:(dX (cn s ((k:Int) + 1)).buf).1=(cn s ((k:Int) + 1)).buf:=by
   unfold dX at c ⊢
   split at c
   ·rename_i a;rw [if_pos a]
   ·cases c
  rw [this];exact aay hk
 unfold vZ;generalize hS:aA s ((k:Int) + 1) { cn s ((k:Int) + 1) with buf:=(dX (cn s ((k:Int) + 1)).buf).1 }=S1 at GT es ⊢;have oE:g < S1.gs.length:=by rw [← hS];exact hg
 clear hS;generalize (dX (cn s ((k:Int) + 1)).buf).2.2=o2 at GT es ⊢;generalize (dX (cn s ((k:Int) + 1)).buf).2.1=v at GT ⊢;haveI:Sx.bt g S1:=⟨oE⟩
 repeat (first | (refine K.indexAddr ?_;refine jq rfl rfl rfl (Qt.aV rfl rfl cW cX) ?_) | (refine K.call ?_;refine JO.ld (Ld.bw (CM) (qb rfl) rfl (by (exact aW.cons .refl (.cons .refl .nil)))) rfl ?_;intro _) | refine ay ?_ | intro _)
 refine J.aaA 5 rfl ?_;refine J.draw (by kernel_rfl) rfl ?_;refine JW.O0 none ?_;refine tk 0 ?_;refine tk 1 ?_;refine tk 2 ?_;refine tk 4 ?_;refine tk 5 ?_;refine JD.take 6 rfl rfl (by kernel_rfl) rfl (qb rfl) (Qt.cI rfl rfl rfl w1) rfl ?_;refine JD.gD (i:=3) (by kernel_rfl) ?_
 (refine JS.qB rfl rfl rfl (qb rfl) (Qt.lf rfl (by exact rfl)) ?_)
 refine JD.gD (i:=7) (by kernel_rfl) ?_;refine JS.qB rfl rfl rfl (qb rfl) (Qt.aV rfl rfl i0 i1) ?_;refine JD.gD (i:=8) (by kernel_rfl) ?_;refine JS.qB rfl rfl rfl (qb rfl) (Qt.bM rfl AC rfl) ?_;refine JD.gD (i:=9) (by kernel_rfl) ?_;refine JS.ldB rfl rfl rfl (qb rfl) (Ld.bw GT (qb rfl) rfl (.cons .refl .nil)) (ku.bq) (fun _=>?_);refine JD.gD (i:=10) (by kernel_rfl) ?_;refine JS.qB rfl rfl rfl (qb rfl) (Qt.move rfl) ?_;refine JD.dA (i:=11) (j:=12) (by kernel_rfl) ?_ ?_;refine JS.qB rfl rfl rfl (qb rfl) (Qt.extract rfl rfl) ?_;refine tk 13 ?_;refine JD.gD (i:=12) (by kernel_rfl) ?_;refine JS.qB rfl rfl rfl (qb rfl) (Qt.extract rfl rfl) ?_;refine JD.gD (i:=14) (by kernel_rfl) ?_;refine JS.qB rfl rfl rfl (qb rfl) (Qt.assign rfl) ?_;refine bX ?_
 rotate_left
 refine JS.qB rfl rfl rfl (qb rfl) (Qt.extract rfl rfl) ?_;refine JD.gD (i:=11) (by kernel_rfl) ?_;refine JS.qB rfl rfl rfl (qb rfl) (Qt.extract rfl rfl) ?_;refine JD.gD (i:=13) (by kernel_rfl) ?_;refine JS.qB rfl rfl rfl (qb rfl) (Qt.assign rfl) ?_;refine JD.gD (i:=14) (by kernel_rfl) ?_;refine JS.qB rfl rfl rfl (qb rfl) (Qt.assign rfl) ?_;refine bX ?_
 rotate_left
 all_goals
  cases o2 with
  | true =>
   rw [if_pos rfl,show br S1 g (cZ v true) 16=aS (aS (aS S1 g fun x=>{ x with res:=⟨1,-1,v,true,0⟩ }) g fun x=>{ x with bE:=S1.step }) g fun x=>{ x with place:=16 } by rw [fJ Sx.bt.h,fJ oE];rfl]
   repeat (first | (refine K.store ?_;first | (first | refine JO.ld (Ld.bQ rfl rfl (by exact rfl) aP) rfl (fun _=>?_) | refine JO.ld (Ld.qm rfl rfl rfl (by exact rfl) (by exact rfl) aP) rfl (fun _=>?_));refine JO.bS b g (fun x=>{ x with res:=⟨1,-1,v,true,0⟩ }) (by exact rfl) ?_ | ((refine JO.ld (Ld.bQ rfl rfl (by exact rfl) aP) rfl (fun _=>?_)));refine JO.bS b g (fun x=>{ x with bE:=S1.step }) (by exact rfl) ?_ | ((refine JO.ld (Ld.bQ rfl rfl (by exact rfl) aP) rfl (fun _=>?_)));refine JO.bS b g (fun x=>{ x with place:=16 }) (by exact rfl) ?_) | refine gn ?_)
   (exact J.gF func138 rfl .nil () (by exact .refl) rfl)
  | false =>
   cases es rfl;rw [if_neg (by simp)]
   cases k5:(o.kind == 3) with
   | false =>
    rw [if_pos (H9.resolve_left (by simpa using k5)),show br s g (Sx.res 2) 16=aS (aS (aS s g fun x=>{ x with res:=⟨2,-1,0,false,0⟩ }) g fun x=>{ x with bE:=s.step }) g fun x=>{ x with place:=16 } by rw [fJ Sx.bt.h,fJ hg];rfl]
    repeat (first | (refine K.store ?_;first | (first | refine JO.ld (Ld.bQ rfl rfl (by exact rfl) aP) rfl (fun _=>?_) | refine JO.ld (Ld.qm rfl rfl rfl (by exact rfl) (by exact rfl) aP) rfl (fun _=>?_));refine JO.bS b g (fun x=>{ x with res:=⟨2,-1,0,false,0⟩ }) (by exact rfl) ?_ | ((refine JO.ld (Ld.bQ rfl rfl (by exact rfl) aP) rfl (fun _=>?_)));refine JO.bS b g (fun x=>{ x with bE:=s.step }) (by exact rfl) ?_ | ((refine JO.ld (Ld.bQ rfl rfl (by exact rfl) aP) rfl (fun _=>?_)));refine JO.bS b g (fun x=>{ x with place:=16 }) (by exact rfl) ?_) | refine gn ?_)
    (exact J.ij func138 rfl .nil () (by exact .refl) rfl)
   | true =>
    have k6:o.kind=3:=by simpa using k5
    rw [az]
    repeat (first | (refine K.store ?_;((refine JO.ld (Ld.bQ rfl rfl (by exact rfl) aP) rfl (fun _=>?_)));refine JO.bS b g (fun x=>{ x with place:=10 }) (by exact rfl) ?_) | refine gn ?_)
    (exact J.gF func138 rfl .nil () (by exact .refl) rfl)
end Fl
end Go.Proofs.YtdjhhbpedllnhaaGreat
