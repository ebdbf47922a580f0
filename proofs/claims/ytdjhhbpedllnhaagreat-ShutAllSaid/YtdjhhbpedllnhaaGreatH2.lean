/-
  What the laws need, part H2.
  Conditions: none.
-/
import Derived.Test.YtdjhhbpedllnhaaGreatH1
import Derived.Test.YtdjhhbpedllnhaaGreatA39
set_option linter.unusedVariables false
set_option linter.unusedSimpArgs false
set_option linter.unnecessarySimpa false
set_option maxHeartbeats 2000000
namespace Go.Proofs.YtdjhhbpedllnhaaGreat
open Go.RowKit
namespace Sx
theorem Zs {s:ah} {g:Nat}:(fR s g).gs.length=s.gs.length:=by
 unfold fR;dsimp only;rw [Oj];simp [ai,gf]
instance bt.fR {s:ah} {g k:Nat} [h:bt k s]:bt k (fR s g):=⟨by rw [Zs];exact h.h⟩
end Sx
namespace Fl
open Sx Go.Proofs.Tryz
set_option maxRecDepth 100000
instance dP.fR {s s':ah} {g:Nat} [h:dP s' s]:dP (Sx.fR s' g) s:=⟨by
 have h1:dP (aT (ai s' g { aa s' g with t:=s'.step }) (aa s' g).hold) s:=inferInstance;unfold Sx.fR;exact h1.h⟩
theorem Zt {s:ah} {g o:Nat} {i:Int} (hg:g < s.gs.length) (h:jj s g o i) (hi:(aa s g).hold=i) :
  Sx.serve (aS (aS (aT (aS s g fun x=>{ x with t:=s.step }) i) o fun x=>{ x with bE:=s.step }) o fun x=>{ x with dJ:=(su s i).cs }) g i false=Sx.fR s g:=by
 haveI:Sx.bt g s:=⟨hg⟩
 haveI:Sx.bt o s:=⟨h.o1⟩
 subst hi;have e1:su (aT (aS s g fun x=>{ x with t:=s.step }) (aa s g).hold) (aa s g).hold=su s (aa s g).hold:=Sx.jX.h;have e2:aa (aT (aS s g fun x=>{ x with t:=s.step }) (aa s g).hold) g={ aa s g with t:=s.step }:=Sx.dD.h;have e3:=h.e;rw [fJ (Sx.bt.h)];generalize hS:aT (aS s g fun x=>{ x with t:=s.step }) (aa s g).hold=S1 at e1 e2 ⊢;have hc:Sx.fR s g=Sx.serve (ai S1 (su S1 (aa s g).hold).g.toNat { aa S1 (su S1 (aa s g).hold).g.toNat with bE:=(aa S1 g).t,dJ:=(su S1 (aa s g).hold).cs }) g (aa s g).hold false:=by
  rw [← hS];rfl
 rw [hc,e1,e2,e3,Int.toNat_natCast];rfl
theorem He (b:Nat) (u:U) (s:ah) (g o:Nat) (i:Int) (hg:g < s.gs.length) (h:jj s g o i) (hi:(aa s g).hold=i) (Q:Qs s) (hw:(aa s g).ak.length≤1000) :
  av prog 122 [.c (.v (pt b)),.c (nI g)] (wd b u s) (fun v:Value=>(.aZ [],wd b (jh u g v) (Sx.fR s g))):=by
 haveI:Sx.bt g s:=⟨hg⟩
 haveI:Sx.bt o s:=⟨h.o1⟩
 haveI:lQ o g:=⟨h.ne⟩
 haveI:lQ g o:=⟨Ne.symm h.ne⟩
 haveI:Sx.gI i s:=⟨h.h0,h.h1⟩
 haveI:Sx.jX s i { su s i with g:=(o:Int) }:=⟨by rw [← h.e]⟩
 haveI:Sx.dD s g { aa s g with hold:=i }:=⟨by rw [← hi]⟩
 rw [← Zt hg h hi];obtain ⟨w,WD⟩:=Ak b u (xS (g:=g) (f:=fun x=>{ x with t:=s.step }) Q) i;have C1:=Nf b u (aS (aS (aT (aS s g fun x=>{ x with t:=s.step }) i) o fun x=>{ x with bE:=s.step }) o fun x=>{ x with dJ:=(su s i).cs }) g o i false Sx.bt.h Sx.bt.h h.ne h.h0 (Sx.gI.h1) (by rw [Sx.jX.h (s:=aS _ _ _) (i:=i)]) (by rw [Sx.dD.h (s:=aS _ _ _) (g:=g)];exact hw);refine av.intro func122 rfl rfl rfl (fun ok e=>?_)
 repeat (first | (refine K.load ?_;((refine jq rfl rfl rfl (Qt.bM rfl (aP) (by exact rfl)) ?_))) | (refine K.store ?_;((refine JO.ld (Ld.bQ rfl rfl (by exact rfl) aP) rfl (fun _=>?_)));refine JO.bS b g (fun x=>{ x with t:=s.step }) (by exact rfl) ?_) | (refine K.indexAddr ?_;refine jq rfl rfl rfl (Qt.aV rfl rfl cW cX) ?_) | (refine K.call ?_;refine JO.ld (Ld.bw (WD) (qb rfl) rfl (by (exact aW.cons .refl (.cons .refl .nil)))) rfl ?_;intro _) | refine gn ?_)
 refine J.draw (by kernel_rfl) rfl ?_;refine JW.base none ?_;refine tk 0 ?_;refine tk 1 ?_;refine tk 2 ?_;refine tk 3 ?_;refine tk 4 ?_;refine tk 5 ?_;refine tk 6 ?_;refine tk 7 ?_;refine tk 8 ?_;refine JD.take 9 rfl rfl (by kernel_rfl) rfl (qb rfl) (Qt.aV rfl rfl (jH (s:=s)) jI) rfl ?_;refine tk 10 ?_;refine JD.take 11 rfl rfl (by kernel_rfl) rfl (qb rfl) (Qt.bM rfl jY rfl) rfl ?_;refine JD.take 12 rfl rfl (by kernel_rfl) rfl (qb rfl) (Qt.aV rfl rfl cW cX) rfl ?_;refine tk 13 ?_;refine bX ?_
 repeat (first | (refine K.load ?_;first | ((refine jq rfl rfl rfl (Qt.bM rfl (jY) (by exact rfl)) ?_)) | ((refine jq rfl rfl rfl (Qt.bM rfl (aP) (by exact rfl)) ?_))) | (refine K.store ?_;first | ((refine JO.ld (Ld.bQ rfl rfl (by exact rfl) aP) rfl (fun _=>?_)));refine JO.bS b o (fun x=>{ x with bE:=s.step }) (by exact rfl) ?_ | ((refine JO.ld (Ld.bQ rfl rfl (by exact rfl) aP) rfl (fun _=>?_)));refine JO.bS b o (fun x=>{ x with dJ:=(su s i).cs }) (by exact rfl) ?_) | (refine K.indexAddr ?_;refine jq rfl rfl rfl (Qt.aV rfl rfl (jH (s:=s)) jI) ?_) | (refine K.call ?_;refine JO.ld (Ld.bw C1 (qb rfl) rfl (.cons .refl (.cons .refl (.cons .refl (.cons .refl .nil))))) rfl ?_;intro v) | refine gn ?_)
 (exact J.ij func122 rfl .nil v (by exact .refl) rfl)
theorem Zu (b:Nat) (u:U) (s:ah) (g o:Nat) (hg:g < s.gs.length) (h:jj s g o (aa s g).hold) (Q:Qs s) (hw:(aa s g).ak.length≤1000) (hu:cA u s) :
  av prog 72 [.c (.v (pt b)),.c (nI g)] (wd b u s) (fun x:{ u':U // cA u' (ic s g) }=>(.aZ [],wd b x.1 (ic s g))):=by
 haveI:Sx.bt g s:=⟨hg⟩
 haveI:Sx.bt o s:=⟨h.o1⟩
 haveI:lQ o g:=⟨h.ne⟩
 haveI:lQ g o:=⟨Ne.symm h.ne⟩
 haveI:Sx.gI (aa s g).hold s:=⟨h.h0,h.h1⟩
 have e0:=h.e;haveI:Sx.jX s (aa s g).hold { su s (aa s g).hold with g:=(o:Int) }:=⟨by rw [← e0]⟩
 cases hp:(aa s o).aU with
 | true =>
  haveI:Sx.dD s o { aa s o with aU:=true }:=⟨by rw [← hp]⟩
  have er:ic s g=aS (aS (aT s (aa s g).hold) g fun x=>{ x with hold:=-1 }) g fun x=>{ x with place:=22 }:=by
   rw [fJ (Sx.bt.h)];have e2:aa (aT s (aa s g).hold) g=aa s g:=Sx.dD.h;unfold ic aS;dsimp only;rw [e0,Int.toNat_natCast,if_pos hp,e2]
  have eI:cA u (ic s g):=by rw [er];exact hu.to
  generalize ic s g=s' at er eI ⊢;obtain ⟨w,WD⟩:=Ak b u Q (aa s g).hold;refine av.intro func72 rfl rfl rfl (fun ok e=>?_)
  repeat (first | (refine K.load ?_;((refine jq rfl rfl rfl (Qt.bM rfl (aP) (by exact rfl)) ?_))) | (refine K.indexAddr ?_;refine jq rfl rfl rfl (Qt.aV rfl rfl cW cX) ?_) | refine gn ?_)
  refine J.draw (by kernel_rfl) rfl ?_;refine JW.base none ?_;refine tk 0 ?_;refine tk 1 ?_;refine tk 2 ?_;refine tk 3 ?_;refine tk 4 ?_;refine tk 5 ?_;refine tk 6 ?_;refine tk 7 ?_;refine tk 8 ?_;refine JD.take 9 rfl rfl (by kernel_rfl) rfl (qb rfl) (Qt.aV rfl rfl (jH (s:=s)) jI) rfl ?_;refine tk 10 ?_;refine JD.take 11 rfl rfl (by kernel_rfl) rfl (qb rfl) (Qt.bM rfl jY rfl) rfl ?_;refine JD.take 12 rfl rfl (by kernel_rfl) rfl (qb rfl) (Qt.aV rfl rfl cW cX) rfl ?_;refine tk 13 ?_;refine bX ?_
  repeat (first | (refine K.load ?_;((refine jq rfl rfl rfl (Qt.bM rfl (aP) (by exact rfl)) ?_))) | (refine K.store ?_;first | ((refine JO.ld (Ld.bQ rfl rfl (by exact rfl) aP) rfl (fun _=>?_)));refine JO.bS b g (fun x=>{ x with hold:=-1 }) (by exact rfl) ?_ | ((refine JO.ld (Ld.bQ rfl rfl (by exact rfl) aP) rfl (fun _=>?_)));refine JO.bS b g (fun x=>{ x with place:=22 }) (by exact rfl) ?_) | (refine K.call ?_;refine JO.ld (Ld.bw (WD) (qb rfl) rfl (by (exact aW.cons .refl (.cons .refl .nil)))) rfl ?_;intro _) | refine gn ?_)
  subst er
  (exact J.ij func72 rfl .nil ⟨u,eI⟩ (by exact .refl) rfl)
 | false =>
  haveI:Sx.dD s o { aa s o with aU:=false }:=⟨by rw [← hp]⟩
  have er:ic s g=aS (Sx.fR (aS s o fun x=>{ x with aU:=true }) g) g fun x=>{ x with place:=22 }:=by
   unfold ic;dsimp only;rw [e0,Int.toNat_natCast,if_neg (by rw [hp];simp)];rfl
  have eI:∀ v,cA (jh u g v) (ic s g):=fun v=>cA.wk (by rw [er];exact hu.to)
  generalize ic s g=s' at er eI ⊢;have hx:aa (aS s o fun x=>{ x with aU:=true }) g=aa s g:=Sx.dD.h;have C1:=He b u (aS s o fun x=>{ x with aU:=true }) g o (aa s g).hold Sx.bt.h ⟨h.h0,h.h1,h.e,Sx.bt.h,h.ne⟩ (by rw [hx]) (xS Q) (by rw [hx];exact hw);refine av.intro func72 rfl rfl rfl (fun ok e=>?_)
  repeat (first | (refine K.load ?_;((refine jq rfl rfl rfl (Qt.bM rfl (aP) (by exact rfl)) ?_))) | (refine K.indexAddr ?_;refine jq rfl rfl rfl (Qt.aV rfl rfl cW cX) ?_) | refine gn ?_)
  refine J.draw (by kernel_rfl) rfl ?_;refine JW.base none ?_;refine tk 0 ?_;refine tk 1 ?_;refine tk 2 ?_;refine tk 3 ?_;refine tk 4 ?_;refine tk 5 ?_;refine tk 6 ?_;refine tk 7 ?_;refine tk 8 ?_;refine JD.take 9 rfl rfl (by kernel_rfl) rfl (qb rfl) (Qt.aV rfl rfl (jH (s:=s)) jI) rfl ?_;refine tk 10 ?_;refine JD.take 11 rfl rfl (by kernel_rfl) rfl (qb rfl) (Qt.bM rfl jY rfl) rfl ?_;refine JD.take 12 rfl rfl (by kernel_rfl) rfl (qb rfl) (Qt.aV rfl rfl cW cX) rfl ?_;refine tk 13 ?_;refine bX ?_
  repeat (first | (refine K.load ?_;refine jq rfl rfl rfl (Qt.bM rfl (aP) (by exact rfl)) ?_) | (refine K.store ?_;first | ((refine JO.ld (Ld.bQ rfl rfl (by exact rfl) aP) rfl (fun _=>?_)));refine JO.bS b o (fun x=>{ x with aU:=true }) (by exact rfl) ?_ | ((refine JO.ld (Ld.bQ rfl rfl (by exact rfl) aP) rfl (fun _=>?_)));refine JO.bS b g (fun x=>{ x with place:=22 }) (by exact rfl) ?_) | (refine K.call ?_;refine JO.ld (Ld.bw C1 (qb rfl) rfl (.cons .refl (.cons .refl .nil))) rfl ?_;intro v) | refine gn ?_)
  subst er
  (exact J.ij func72 rfl .nil ⟨jh u g v,eI v⟩ (by exact .refl) rfl)
theorem Zv (b:Nat) (u:U) (s:ah) (g k:Nat) (hg:g < s.gs.length) (hk:k < s.au.length) (Q:Qs s) (hw:(aa s g).ak.length≤1000) (hu:cA u s)
  (hq:∀ i,i∈(cn s ((k:Int) + 1)).recv∨i∈(cn s ((k:Int) + 1)).send→(∃ o,jj s g o i)∧-1≤(su s i).cs) :
  av prog 71 [.c (.v (pt b)),.c (nI g),.c (nI ((k:Int) + 1))] (wd b u s) (fun x:{ u':U // cA u' (if 0 < (cn s ((k:Int) + 1)).recv.length then ff s g ((cn s ((k:Int) + 1)).recv.headD 0) else if 0 < (cn s ((k:Int) + 1)).send.length then ff s g ((cn s ((k:Int) + 1)).send.headD 0) else Sx.aG s g 16) }=>(.aZ [],wd b x.1 (if 0 < (cn s ((k:Int) + 1)).recv.length then ff s g ((cn s ((k:Int) + 1)).recv.headD 0) else if 0 < (cn s ((k:Int) + 1)).send.length then ff s g ((cn s ((k:Int) + 1)).send.headD 0) else Sx.aG s g 16))):=by
 have c8:=Q.c8;haveI:Sx.bt g s:=⟨hg⟩
 have w1:IntKind.i64.wrap (2 * ((k:Int) + 1))=2 * ((k:Int) + 1):=eK (by omega) (by omega);have w2:IntKind.i64.wrap (2 * ((k:Int) + 1) - 2)=2 * ((k:Int) + 1) - 2:=eK (by omega) (by omega);have w3:IntKind.i64.wrap (2 * ((k:Int) + 1) - 1)=2 * ((k:Int) + 1) - 1:=eK (by omega) (by omega);have key:∀ i,(∃ o,jj s g o i)∧-1≤(su s i).cs→(0≤(su s i).cs∧ff s g i=aS (aS s g fun x=>{ x with hold:=i }) g fun x=>{ x with place:=23 })∨((su s i).cs=-1∧ff s g i=Sx.fR (aS s g fun x=>{ x with hold:=i }) g):=fun i hi=>by
  by_cases c:0≤(su s i).cs
  ·exact .inl ⟨c,by unfold ff;exact if_pos c⟩
  ·exact .inr ⟨by omega,by unfold ff;exact if_neg c⟩
 have FR:=Fp u.pQ s.aB.length (qW s) u.TQ (2 * ((k:Int) + 1) - 2);unfold Qu.first at FR
 rw [Fv (by omega)] at FR;have FS:=Fp u.pQ s.aB.length (qW s) u.TQ (2 * ((k:Int) + 1) - 1);unfold Qu.first at FS
 rw [BQ (by omega)] at FS
 cases hr:(cn s ((k:Int) + 1)).recv with
 | cons i l =>
  rw [hr,if_neg (by simp)] at FR;simp only [List.headD_cons] at FR;obtain ⟨⟨o,ho⟩,hc⟩:=hq i (.inl (by rw [hr];simp));rw [if_pos (by simp)];simp only [List.headD_cons];haveI:Sx.gI i s:=⟨ho.h0,ho.h1⟩
  haveI:Sx.bt o s:=⟨ho.o1⟩
  rcases key i ⟨⟨o,ho⟩,hc⟩ with ⟨c,er⟩ | ⟨c,er⟩
  ·have eI:cA u (ff s g i):=by rw [er];exact hu.to
   generalize ff s g i=s' at er eI ⊢;have c1:(decide ((su s i).cs ≥ 0))=true:=decide_eq_true c;refine av.intro func71 rfl rfl rfl (fun ok e=>?_)
   repeat (first | (refine K.load ?_;((refine jq rfl rfl rfl (Qt.bM rfl (jY) (by exact rfl)) ?_))) | (refine K.store ?_;first | ((refine JO.ld (Ld.bQ rfl rfl (by exact rfl) aP) rfl (fun _=>?_)));refine JO.bS b g (fun x=>{ x with hold:=i }) (by exact rfl) ?_ | ((refine JO.ld (Ld.bQ rfl rfl (by exact rfl) aP) rfl (fun _=>?_)));refine JO.bS b g (fun x=>{ x with place:=23 }) (by exact rfl) ?_) | (refine K.indexAddr ?_;first | refine jq rfl rfl rfl (Qt.aV rfl rfl cW cX) ?_ | refine jq rfl rfl rfl (Qt.aV rfl rfl (jH (s:=s)) jI) ?_) | (refine K.binOp ?_;first | refine jq rfl rfl rfl ((Qt.cI rfl rfl rfl w1)) ?_ | refine jq rfl rfl rfl ((Qt.cI rfl rfl rfl w2)) ?_) | (refine K.call ?_;refine JO.ld (Ld.eN FR (qb rfl) rfl (.cons .refl (.cons .refl .nil))) rfl (fun _=>?_)) | refine gn ?_)
   subst er
   (exact J.ij func71 rfl .nil ⟨u,eI⟩ (by exact .refl) rfl)
  ·have eI:∀ v,cA (jh u g v) (ff s g i):=fun v=>cA.wk (by rw [er];exact hu.to)
   generalize ff s g i=s' at er eI ⊢;have c1:(decide ((su s i).cs ≥ 0))=false:=decide_eq_false (by omega);have c2:((su s i).cs == -1)=true:=by rw [c];rfl
   have hx:aa (aS s g fun x=>{ x with hold:=i }) g={ aa s g with hold:=i }:=Sx.dD.h;have C1:=He b u (aS s g fun x=>{ x with hold:=i }) g o i Sx.bt.h ⟨ho.h0,ho.h1,ho.e,Sx.bt.h,ho.ne⟩ (by rw [hx]) (xS Q) (by rw [hx];exact hw);refine av.intro func71 rfl rfl rfl (fun ok e=>?_)
   repeat (first | (refine K.load ?_;((refine jq rfl rfl rfl (Qt.bM rfl (jY) (by exact rfl)) ?_))) | (refine K.store ?_;((refine JO.ld (Ld.bQ rfl rfl (by exact rfl) aP) rfl (fun _=>?_)));refine JO.bS b g (fun x=>{ x with hold:=i }) (by exact rfl) ?_) | (refine K.indexAddr ?_;first | refine jq rfl rfl rfl (Qt.aV rfl rfl cW cX) ?_ | refine jq rfl rfl rfl (Qt.aV rfl rfl (jH (s:=s)) jI) ?_) | (refine K.binOp ?_;first | refine jq rfl rfl rfl ((Qt.cI rfl rfl rfl w1)) ?_ | refine jq rfl rfl rfl ((Qt.cI rfl rfl rfl w2)) ?_) | (refine K.call ?_;first | ((refine JO.ld (Ld.eN FR (qb rfl) rfl (.cons .refl (.cons .refl .nil))) rfl (fun _=>?_))) | (refine JO.ld (Ld.bw C1 (qb rfl) rfl (.cons .refl (.cons .refl .nil))) rfl ?_;intro v)) | refine gn ?_)
   subst er
   (exact J.ij func71 rfl .nil ⟨jh u g v,eI v⟩ (by exact .refl) rfl)
 | nil =>
  rw [hr,if_pos rfl] at FR;rw [if_neg (by simp)]
  cases hs:(cn s ((k:Int) + 1)).send with
  | cons i l =>
  rw [hs,if_neg (by simp)] at FS;simp only [List.headD_cons] at FS;obtain ⟨⟨o,ho⟩,hc⟩:=hq i (.inr (by rw [hs];simp));rw [if_pos (by simp)];simp only [List.headD_cons];haveI:Sx.gI i s:=⟨ho.h0,ho.h1⟩
  haveI:Sx.bt o s:=⟨ho.o1⟩
  rcases key i ⟨⟨o,ho⟩,hc⟩ with ⟨c,er⟩ | ⟨c,er⟩
  ·have eI:cA u (ff s g i):=by rw [er];exact hu.to
   generalize ff s g i=s' at er eI ⊢;have c1:(decide ((su s i).cs ≥ 0))=true:=decide_eq_true c;refine av.intro func71 rfl rfl rfl (fun ok e=>?_)
   repeat (first | (refine K.load ?_;((refine jq rfl rfl rfl (Qt.bM rfl (jY) (by exact rfl)) ?_))) | (refine K.store ?_;first | ((refine JO.ld (Ld.bQ rfl rfl (by exact rfl) aP) rfl (fun _=>?_)));refine JO.bS b g (fun x=>{ x with hold:=i }) (by exact rfl) ?_ | ((refine JO.ld (Ld.bQ rfl rfl (by exact rfl) aP) rfl (fun _=>?_)));refine JO.bS b g (fun x=>{ x with place:=23 }) (by exact rfl) ?_) | (refine K.indexAddr ?_;first | refine jq rfl rfl rfl (Qt.aV rfl rfl cW cX) ?_ | refine jq rfl rfl rfl (Qt.aV rfl rfl (jH (s:=s)) jI) ?_) | (refine K.binOp ?_;first | refine jq rfl rfl rfl ((Qt.cI rfl rfl rfl w1)) ?_ | refine jq rfl rfl rfl ((Qt.cI rfl rfl rfl w2)) ?_ | refine jq rfl rfl rfl ((Qt.cI rfl rfl rfl w3)) ?_) | (refine K.call ?_;first | (refine JO.ld (Ld.eN FR (qb rfl) rfl (.cons .refl (.cons .refl .nil))) rfl (fun _=>?_)) | (refine JO.ld (Ld.eN FS (qb rfl) rfl (.cons .refl (.cons .refl .nil))) rfl (fun _=>?_))) | refine gn ?_)
   subst er
   (exact J.ij func71 rfl .nil ⟨u,eI⟩ (by exact .refl) rfl)
  ·have eI:∀ v,cA (jh u g v) (ff s g i):=fun v=>cA.wk (by rw [er];exact hu.to)
   generalize ff s g i=s' at er eI ⊢;have c1:(decide ((su s i).cs ≥ 0))=false:=decide_eq_false (by omega);have c2:((su s i).cs == -1)=true:=by rw [c];rfl
   have hx:aa (aS s g fun x=>{ x with hold:=i }) g={ aa s g with hold:=i }:=Sx.dD.h;have C1:=He b u (aS s g fun x=>{ x with hold:=i }) g o i Sx.bt.h ⟨ho.h0,ho.h1,ho.e,Sx.bt.h,ho.ne⟩ (by rw [hx]) (xS Q) (by rw [hx];exact hw);refine av.intro func71 rfl rfl rfl (fun ok e=>?_)
   repeat (first | (refine K.load ?_;((refine jq rfl rfl rfl (Qt.bM rfl (jY) (by exact rfl)) ?_))) | (refine K.store ?_;((refine JO.ld (Ld.bQ rfl rfl (by exact rfl) aP) rfl (fun _=>?_)));refine JO.bS b g (fun x=>{ x with hold:=i }) (by exact rfl) ?_) | (refine K.indexAddr ?_;first | refine jq rfl rfl rfl (Qt.aV rfl rfl cW cX) ?_ | refine jq rfl rfl rfl (Qt.aV rfl rfl (jH (s:=s)) jI) ?_) | (refine K.binOp ?_;first | refine jq rfl rfl rfl ((Qt.cI rfl rfl rfl w1)) ?_ | refine jq rfl rfl rfl ((Qt.cI rfl rfl rfl w2)) ?_ | refine jq rfl rfl rfl ((Qt.cI rfl rfl rfl w3)) ?_) | (refine K.call ?_;first | (first | (refine JO.ld (Ld.eN FR (qb rfl) rfl (.cons .refl (.cons .refl .nil))) rfl (fun _=>?_)) | (refine JO.ld (Ld.eN FS (qb rfl) rfl (.cons .refl (.cons .refl .nil))) rfl (fun _=>?_))) | (refine JO.ld (Ld.bw C1 (qb rfl) rfl (.cons .refl (.cons .refl .nil))) rfl ?_;intro v)) | refine gn ?_)
   subst er
   (exact J.ij func71 rfl .nil ⟨jh u g v,eI v⟩ (by exact .refl) rfl)
  | nil =>
  rw [hs,if_pos rfl] at FS;rw [if_neg (by simp)];have eI:cA u (Sx.aG s g 16):=hu.to;refine av.intro func71 rfl rfl rfl (fun ok e=>?_)
  repeat (first | (refine K.store ?_;((refine JO.ld (Ld.bQ rfl rfl (by exact rfl) aP) rfl (fun _=>?_)));refine JO.bS b g (fun x=>{ x with place:=16 }) (by exact rfl) ?_) | (refine K.indexAddr ?_;refine jq rfl rfl rfl (Qt.aV rfl rfl cW cX) ?_) | (refine K.binOp ?_;first | refine jq rfl rfl rfl ((Qt.cI rfl rfl rfl w1)) ?_ | refine jq rfl rfl rfl ((Qt.cI rfl rfl rfl w2)) ?_ | refine jq rfl rfl rfl ((Qt.cI rfl rfl rfl w3)) ?_) | (refine K.call ?_;first | (refine JO.ld (Ld.eN FR (qb rfl) rfl (.cons .refl (.cons .refl .nil))) rfl (fun _=>?_)) | (refine JO.ld (Ld.eN FS (qb rfl) rfl (.cons .refl (.cons .refl .nil))) rfl (fun _=>?_))) | refine gn ?_)
  (exact J.gF func71 rfl .nil ⟨u,eI⟩ (by exact .refl) rfl)
def sU (s:ah) (g:Nat) (ch:Int):ah:=if (cn s ch).closed=true then br s g (Sx.res 4) 16 else br (aA s ch { cn s ch with closed:=true }) g gj 22
theorem Zw (b:Nat) (u:U) (s:ah) (g k:Nat) (hg:g < s.gs.length) (hk:k < s.au.length) (h8:k < 8) :
  av prog 70 [.c (.v (pt b)),.c (nI g),.c (nI ((k:Int) + 1))] (wd b u s) (fun _:Unit=>(.aZ [],wd b u (sU s g ((k:Int) + 1)))):=by
 haveI:Sx.bt g s:=⟨hg⟩
 have hm:aL (aS s g fun x=>{ x with bE:=s.step }) ((k:Int) + 1)=true:=by
  unfold aL;simp only [decide_eq_true_eq]
  show 1≤(k:Int) + 1∧(k:Int) + 1≤(s.au.length:Int);omega
 have CM:=zm b u (aS s g fun x=>{ x with bE:=s.step }) ((k:Int) + 1);rw [hm] at CM;have w1:IntKind.i64.wrap ((k:Int) + 1 - 1)=(k:Int):=by rw [eK (by omega) (by omega)];omega
 have i0:(0:Int)≤(k:Int):=by omega
 have i1:(k:Int) < (s.au.map fun c=>[bI c.closed]).length:=by rw [List.length_map];omega
 cases hc:(cn s ((k:Int) + 1)).closed with
 | true =>
  have AC:(s.au.map fun c=>[bI c.closed])[((k:Int)).toNat]?=some [bI true]:=by rw [Int.toNat_natCast,List.getElem?_map,lH hk,← hc];rfl
  have er:sU s g ((k:Int) + 1)=aS (aS (aS s g fun x=>{ x with bE:=s.step }) g fun x=>{ x with res:=Sx.res 4 }) g fun x=>{ x with place:=16 }:=by
   rw [fJ Sx.bt.h,fJ hg];unfold sU;rw [if_pos hc];rfl
  rw [er];refine av.intro func70 rfl rfl rfl (fun ok e=>?_)
  repeat (first | (refine K.load ?_;((refine jq rfl rfl rfl (Qt.bM rfl (AC) (by exact rfl)) ?_))) | (refine K.store ?_;first | (first | refine JO.ld (Ld.bQ rfl rfl (by exact rfl) aP) rfl (fun _=>?_) | refine JO.ld (Ld.qm rfl rfl rfl (by exact rfl) (by exact rfl) aP) rfl (fun _=>?_));refine JO.bS b g (fun x=>{ x with bE:=s.step }) (by exact rfl) ?_ | (first | refine JO.ld (Ld.bQ rfl rfl (by exact rfl) aP) rfl (fun _=>?_) | refine JO.ld (Ld.qm rfl rfl rfl (by exact rfl) (by exact rfl) aP) rfl (fun _=>?_));refine JO.bS b g (fun x=>{ x with res:=Sx.res 4 }) (by exact rfl) ?_ | ((refine JO.ld (Ld.bQ rfl rfl (by exact rfl) aP) rfl (fun _=>?_)));refine JO.bS b g (fun x=>{ x with place:=16 }) (by exact rfl) ?_) | (refine K.indexAddr ?_;first | refine jq rfl rfl rfl (Qt.aV rfl rfl cW cX) ?_ | refine jq rfl rfl rfl (Qt.aV rfl rfl i0 i1) ?_) | (refine K.binOp ?_;refine jq rfl rfl rfl ((Qt.cI rfl rfl rfl w1)) ?_) | (refine K.call ?_;refine JO.ld (Ld.bw (CM) (qb rfl) rfl (by (exact aW.cons .refl (.cons .refl .nil)))) rfl ?_;intro _) | refine gn ?_)
  (exact J.gF func70 rfl .nil () (by exact .refl) rfl)
 | false =>
  have AC:(s.au.map fun c=>[bI c.closed])[((k:Int)).toNat]?=some [bI false]:=by rw [Int.toNat_natCast,List.getElem?_map,lH hk,← hc];rfl
  have er:sU s g ((k:Int) + 1)=aS (aS (aA (aS s g fun x=>{ x with bE:=s.step }) ((k:Int) + 1) { cn s ((k:Int) + 1) with closed:=true }) g fun x=>{ x with res:=gj }) g fun x=>{ x with place:=22 }:=by
   rw [fJ (Sx.bt.h)];rw [show aA (aS s g fun x=>{ x with bE:=s.step }) ((k:Int) + 1) { cn s ((k:Int) + 1) with closed:=true }=aS (aA s ((k:Int) + 1) { cn s ((k:Int) + 1) with closed:=true }) g fun x=>{ x with bE:=s.step } from rfl,fJ (Sx.bt.h)];unfold sU;rw [if_neg (by rw [hc];simp)];rfl
  rw [er];refine av.intro func70 rfl rfl rfl (fun ok e=>?_)
  repeat (first | (refine K.load ?_;((refine jq rfl rfl rfl (Qt.bM rfl (AC) (by exact rfl)) ?_))) | (refine K.store ?_;first | (first | refine JO.ld (Ld.bQ rfl rfl (by exact rfl) aP) rfl (fun _=>?_) | refine JO.ld (Ld.qm rfl rfl rfl (by exact rfl) (by exact rfl) aP) rfl (fun _=>?_));refine JO.bS b g (fun x=>{ x with bE:=s.step }) (by exact rfl) ?_ | (refine JO.ld (Ld.bQ rfl rfl (by exact rfl) AC) rfl (fun _=>?_);refine JO.tl b (wd b u (aA (aS s g fun x=>{ x with bE:=s.step }) ((k:Int) + 1) { cn s ((k:Int) + 1) with closed:=true })) (by exact Zr true hk h8) ?_) | (first | refine JO.ld (Ld.bQ rfl rfl (by exact rfl) aP) rfl (fun _=>?_) | refine JO.ld (Ld.qm rfl rfl rfl (by exact rfl) (by exact rfl) aP) rfl (fun _=>?_));refine JO.bS b g (fun x=>{ x with res:=gj }) (by exact rfl) ?_ | ((refine JO.ld (Ld.bQ rfl rfl (by exact rfl) aP) rfl (fun _=>?_)));refine JO.bS b g (fun x=>{ x with place:=22 }) (by exact rfl) ?_) | (refine K.indexAddr ?_;first | refine jq rfl rfl rfl (Qt.aV rfl rfl cW cX) ?_ | refine jq rfl rfl rfl (Qt.aV rfl rfl i0 i1) ?_) | (refine K.binOp ?_;refine jq rfl rfl rfl ((Qt.cI rfl rfl rfl w1)) ?_) | (refine K.call ?_;refine JO.ld (Ld.bw (CM) (qb rfl) rfl (by (exact aW.cons .refl (.cons .refl .nil)))) rfl ?_;intro _) | refine gn ?_)
  (exact J.ij func70 rfl .nil () (by exact .refl) rfl)
theorem On (b:Nat) (u:U) (s:ah) (g:Nat) (h:G8 s g) (hu:cA u s) :
  av prog 19 [.c (.v (pt b)),.c (nI g)] (wd b u s) (fun x:{ u':U // cA u' (cj s g).1 }=>(.c (bI (cj s g).2),wd b x.1 (cj s g).1)):=by
 have hg:=h.cp.lt;haveI:Sx.bt g s:=⟨hg⟩
 have c8:=h.cp.c8;have O:=Dr b u s g hg h.cp.dm h.cp.oc;have CC:=N6 b u s g h.cp hu;refine av.intro func19 rfl rfl rfl (fun ok e=>?_)
 cases xN:((ag s g).kind != 6) with
 | true =>
  have er:cj s g=(s,false):=by unfold cj;dsimp only;rw [if_pos (by simpa using xN)]
  rw [er]
  repeat (first | (refine K.call ?_;refine JO.ld (Ld.bw (O) (qb rfl) rfl (by (exact aW.cons .refl (.cons .refl .nil)))) rfl ?_;intro _) | refine ay ?_ | intro _)
  (exact J.jR [_] rfl func19 rfl (.cons (.tmp rfl) .nil) ⟨u,hu⟩ (by exact .refl) rfl)
 | false =>
 have k6:(ag s g).kind=6:=by simpa using xN
 have nk:¬ (ag s g).kind≠6:=by simpa using xN
 cases iH:(common s g).2 with
 | true =>
  have er:cj s g=((common s g).1,true):=by unfold cj;dsimp only;rw [if_neg nk,if_pos iH]
  rw [iH] at CC;rw [er]
  repeat (first | (refine K.call ?_;first | (refine JO.ld (Ld.bw (O) (qb rfl) rfl (by (exact aW.cons .refl (.cons .refl .nil)))) rfl ?_;intro _) | (refine JO.ld (Ld.bw CC (qb rfl) rfl (.cons .refl (.cons .refl .nil))) rfl ?_;intro y)) | refine ay ?_ | intro _)
  (exact J.jR [_] rfl func19 rfl (.cons (.tmp rfl) .nil) y (by exact .refl) rfl)
 | false =>
 have e1:common s g=(s,false):=Prod.ext (Oi iH) iH;rw [e1] at CC;dsimp only at CC;have aj:cj s g=if aL s (ag s g).ch=false then (s,false) else if (aa s g).place=21 then (if (cn s (ag s g).ch).closed=true then (br s g (Sx.res 4) 16,true) else (br (aA s (ag s g).ch { cn s (ag s g).ch with closed:=true }) g gj 22,true)) else if (aa s g).place=22 then (if 0 < (cn s (ag s g).ch).recv.length then (ff s g ((cn s (ag s g).ch).recv.headD 0),true) else if 0 < (cn s (ag s g).ch).send.length then (ff s g ((cn s (ag s g).ch).send.headD 0),true) else (Sx.aG s g 16,true)) else if (aa s g).place=23 then (ic s g,true) else (s,false):=by
  unfold cj;dsimp only;rw [if_neg nk,if_neg (by rw [iH];simp)]
 cases Oo:((aa s g).place == 21) with
 | true =>
  have Ax:(aa s g).place=21:=by simpa using Oo
  have hm:=h.md k6 (by omega);obtain ⟨k,hk,bZ⟩:=sQ hm;have er:cj s g=(sU s g (ag s g).ch,true):=by
   rw [aj,if_neg (by rw [hm];simp),if_pos Ax];unfold sU;split <;> rfl
  have C1:=fun u=>Zw b u s g k hg bZ (by omega)
  rw [← hk] at C1;have eI:∀ u,cA u s→cA u (sU s g (ag s g).ch):=fun u hu=>by unfold sU br;split <;> exact hu.to
  rw [er]
  repeat (first | (refine K.load ?_;((refine jq rfl rfl rfl (Qt.bM rfl (aP) (by exact rfl)) ?_))) | (refine K.indexAddr ?_;refine jq rfl rfl rfl (Qt.aV rfl rfl cW cX) ?_) | (refine K.call ?_;first | (refine JO.ld (Ld.bw (O) (qb rfl) rfl (by (exact aW.cons .refl (.cons .refl .nil)))) rfl ?_;intro _) | (first | (refine JO.ld (Ld.bw CC (qb rfl) rfl (.cons .refl (.cons .refl .nil))) rfl ?_;intro y) | (refine JO.ld (Ld.bw (C1 y.1) (qb rfl) rfl (.cons .refl (.cons .refl (.cons .refl .nil)))) rfl ?_;intro _))) | refine ay ?_ | intro _)
  (exact J.jR [_] rfl func19 rfl (.cons (.tmp rfl) .nil) ⟨y.1,eI y.1 y.2⟩ (by exact .refl) rfl)
 | false =>
 have Hf:¬ (aa s g).place=21:=by simpa using Oo
 cases Oq:((aa s g).place == 22) with
 | true =>
  have Db:(aa s g).place=22:=by simpa using Oq
  have hm:=h.md k6 (by omega);obtain ⟨k,hk,bZ⟩:=sQ hm;have er:cj s g=((if 0 < (cn s (ag s g).ch).recv.length then ff s g ((cn s (ag s g).ch).recv.headD 0) else if 0 < (cn s (ag s g).ch).send.length then ff s g ((cn s (ag s g).ch).send.headD 0) else Sx.aG s g 16),true):=by
   rw [aj,if_neg (by rw [hm];simp),if_neg Hf,if_pos Db]
   split
   ·rfl
   ·split <;> rfl
  have C1:=fun u hu=>Zv b u s g k hg bZ h.qs h.wk hu (by rw [← hk];exact h.Da k6 Db)
  rw [← hk] at C1;rw [er]
  repeat (first | (refine K.load ?_;((refine jq rfl rfl rfl (Qt.bM rfl (aP) (by exact rfl)) ?_))) | (refine K.indexAddr ?_;refine jq rfl rfl rfl (Qt.aV rfl rfl cW cX) ?_) | (refine K.call ?_;first | (refine JO.ld (Ld.bw (O) (qb rfl) rfl (by (exact aW.cons .refl (.cons .refl .nil)))) rfl ?_;intro _) | (first | (refine JO.ld (Ld.bw CC (qb rfl) rfl (.cons .refl (.cons .refl .nil))) rfl ?_;intro y) | (refine JO.ld (Ld.bw (C1 y.1 y.2) (qb rfl) rfl (.cons .refl (.cons .refl (.cons .refl .nil)))) rfl ?_;intro z))) | refine ay ?_ | intro _)
  (exact J.jR [_] rfl func19 rfl (.cons (.tmp rfl) .nil) z (by exact .refl) rfl)
 | false =>
 have Ot:¬ (aa s g).place=22:=by simpa using Oq
 cases Ou:((aa s g).place == 23) with
 | true =>
  have Dc:(aa s g).place=23:=by simpa using Ou
  have hm:=h.md k6 (by omega);obtain ⟨o,ho⟩:=h.GX k6 Dc;have er:cj s g=(ic s g,true):=by rw [aj,if_neg (by rw [hm];simp),if_neg Hf,if_neg Ot,if_pos Dc]
  have C1:=fun u hu=>Zu b u s g o hg ho h.qs h.wk hu
  rw [er]
  repeat (first | (refine K.load ?_;((refine jq rfl rfl rfl (Qt.bM rfl (aP) (by exact rfl)) ?_))) | (refine K.indexAddr ?_;refine jq rfl rfl rfl (Qt.aV rfl rfl cW cX) ?_) | (refine K.call ?_;first | (refine JO.ld (Ld.bw (O) (qb rfl) rfl (by (exact aW.cons .refl (.cons .refl .nil)))) rfl ?_;intro _) | (first | (refine JO.ld (Ld.bw CC (qb rfl) rfl (.cons .refl (.cons .refl .nil))) rfl ?_;intro y) | (refine JO.ld (Ld.bw (C1 y.1 y.2) (qb rfl) rfl (.cons .refl (.cons .refl .nil))) rfl ?_;intro z))) | refine ay ?_ | intro _)
  (exact J.jR [_] rfl func19 rfl (.cons (.tmp rfl) .nil) z (by exact .refl) rfl)
 | false =>
  have Zx:¬ (aa s g).place=23:=by simpa using Ou
  have er:cj s g=(s,false):=by
   rw [aj,if_neg Hf,if_neg Ot,if_neg Zx,ite_self]
  rw [er]
  repeat (first | (refine K.load ?_;((refine jq rfl rfl rfl (Qt.bM rfl (aP) (by exact rfl)) ?_))) | (refine K.indexAddr ?_;refine jq rfl rfl rfl (Qt.aV rfl rfl cW cX) ?_) | (refine K.call ?_;first | (refine JO.ld (Ld.bw (O) (qb rfl) rfl (by (exact aW.cons .refl (.cons .refl .nil)))) rfl ?_;intro _) | (refine JO.ld (Ld.bw CC (qb rfl) rfl (.cons .refl (.cons .refl .nil))) rfl ?_;intro y)) | refine ay ?_ | intro _)
  (exact J.jR [_] rfl func19 rfl (.cons (.tmp rfl) .nil) y (by exact .refl) rfl)
theorem Hh {s:ah} {g:Nat} (h:Sx.MInv s) (hg:g < s.gs.length) (k6:(ag s g).kind=6) {c i:Int} (c0:1≤c) (c1:c≤s.au.length) (hi:i∈(cn s c).recv∨i∈(cn s c).send):(∃ o,jj s g o i)∧-1≤(su s i).cs:=by
 have q:=Sx.Inv.q h.v c c0 c1 i hi;have sI:=Sx.Inv.su h.v i q.1 q.2.1;obtain ⟨q1,q2,q3,q4,q5,q6,q7,q8,q9⟩:=q;refine ⟨⟨(su s i).g.toNat,q1,q2,by omega,by omega,fun e=>?_⟩,sI.2.2.1⟩;have e2:(su s i).g=(g:Int):=by omega
 rw [e2] at q9;have kk:(aH (aa s g)).kind=6:=k6;have Ov:Sx.dI (aa s g) i (su s i).cs:=q9;unfold Sx.dI Sx.SR SE at Ov;rcases Ov with ⟨a,_⟩ | ⟨a,_⟩ <;> omega
theorem Zy {s:ah} {g:Nat} (h:Sx.Good s) (hg:g < s.gs.length):G8 s g:=by
 have h':=h.toMInv;have md:(ag s g).kind=6→21≤(aa s g).place∧(aa s g).place≤23→aL s (ag s g).ch=true:=fun k6 e=>m9.2 (h'.kn hg (by omega) (by omega))
 have wk:=((AH h).gr g).wk;refine ⟨Oc h hg,h.qs,by omega,md,fun k6 e i hi=>?_,fun k6 e=>?_⟩
 ·obtain ⟨k,hk,bZ⟩:=sQ (md k6 (by omega));exact Hh h' hg k6 (by omega) (by omega) hi
 ·have w:=Sx.Inv.cU h'.v (g:Int) (by omega) (by omega) (.inr (.inl e));exact (Hh h' hg k6 w.1 w.2.1 w.2.2.2.1).1
end Fl
end Go.Proofs.YtdjhhbpedllnhaaGreat
