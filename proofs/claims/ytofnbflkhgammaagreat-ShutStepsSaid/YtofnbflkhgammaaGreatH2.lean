/-
  What the laws need, part H2.
  Conditions: none.
-/
import Derived.Test.YtofnbflkhgammaaGreatA47
set_option linter.unusedVariables false
set_option linter.unusedSimpArgs false
set_option linter.unnecessarySimpa false
set_option maxHeartbeats 2000000
namespace Go.Proofs.YtofnbflkhgammaaGreat
open Go.RowKit
namespace Sx
structure rS (s:St) (g o:Nat) (i:Int):Prop where
 h0:0≤i
 h1:i < s.aB.length
 e:(su s i).g=o
 o1:o < s.gs.length
 ne:o≠g
theorem Y8 {s:St} {g:Nat} (h:(common s g).2=false):(common s g).1=s:=by
 unfold common at h ⊢;dsimp only at h ⊢
 split at h
 ·split at h
  ·split at h <;> cases h
  ·cases h
 ·rename_i c1;rw [if_neg c1]
  split at h
  ·cases h
  ·rename_i c2;rw [if_neg c2]
   split at h
   ·cases h
   ·rename_i c3;rw [if_neg c3]
    split at h
    ·cases h
    ·rename_i c4;rw [if_neg c4]
     split at h
     ·cases h
     ·rename_i c5;rw [if_neg c5]
      split at h
      ·cases h
      ·rename_i c6;rw [if_neg c6]
theorem Y9 {s:St} {g:Nat} {i:Int} {d:Bool}:(serve s g i d).gs.length=s.gs.length:=by simp [serve,aa,aF]
theorem Za {s:St} {g:Nat}:(eU s g).gs.length=s.gs.length:=by
 unfold eU;dsimp only;rw [Y9];simp [aa,fL]
instance cy.eU {s:St} {g k:Nat} [h:cy k s]:cy k (eU s g):=⟨by rw [Za];exact h.h⟩
end Sx
namespace Fl
open Sx
set_option maxRecDepth 100000
instance dX.eU {s s':Sx.St} {g:Nat} [h:dX s' s]:dX (Sx.eU s' g) s:=⟨by
 have h1:dX (Sx.drop (Sx.aa s' g { Sx.gr s' g with t:=s'.step }) (Sx.gr s' g).hold) s:=inferInstance;unfold Sx.eU;exact h1.h⟩
theorem Co {s:Sx.St} {g:Nat} {f:Gr→Gr} (Q:Qs s):Qs (Sx.bq s g f):=⟨Q.c8,Q.q,Q.nd⟩
theorem Zb {s:Sx.St} {g o:Nat} {i:Int} (hg:g < s.gs.length) (h:rS s g o i) (hi:(Sx.gr s g).hold=i) :
  Sx.serve (Sx.bq (Sx.bq (Sx.drop (Sx.bq s g fun x=>{ x with t:=s.step }) i) o fun x=>{ x with bG:=s.step }) o fun x=>{ x with dh:=(su s i).cs }) g i false=Sx.eU s g:=by
 haveI:Sx.cy g s:=⟨hg⟩
 haveI:Sx.cy o s:=⟨h.o1⟩
 subst hi;have e1:su (Sx.drop (Sx.bq s g fun x=>{ x with t:=s.step }) (Sx.gr s g).hold) (Sx.gr s g).hold=su s (Sx.gr s g).hold:=Sx.lD.h;have e2:Sx.gr (Sx.drop (Sx.bq s g fun x=>{ x with t:=s.step }) (Sx.gr s g).hold) g={ Sx.gr s g with t:=s.step }:=Sx.dR.h;have e3:=h.e;rw [qj (Sx.cy.h)];generalize hS:Sx.drop (Sx.bq s g fun x=>{ x with t:=s.step }) (Sx.gr s g).hold=S1 at e1 e2 ⊢;have hc:Sx.eU s g=Sx.serve (Sx.aa S1 (su S1 (Sx.gr s g).hold).g.toNat { Sx.gr S1 (su S1 (Sx.gr s g).hold).g.toNat with bG:=(Sx.gr S1 g).t,dh:=(su S1 (Sx.gr s g).hold).cs }) g (Sx.gr s g).hold false:=by
  rw [← hS];rfl
 rw [hc,e1,e2,e3,Int.toNat_natCast];rfl
theorem Gw (b:Nat) (u:U) (s:Sx.St) (g o:Nat) (i:Int) (hg:g < s.gs.length) (h:rS s g o i) (hi:(Sx.gr s g).hold=i) (Q:Qs s) (hw:(Sx.gr s g).ah.length≤1000) :
  aq Tryz.prog 140 [.c (.v (pt b)),.c (nI g)] (wd b u s) (fun v:Value=>(.aV [],wd b (iM u g v) (Sx.eU s g))):=by
 haveI:Sx.cy g s:=⟨hg⟩
 haveI:Sx.cy o s:=⟨h.o1⟩
 haveI:oa o g:=⟨h.ne⟩
 haveI:oa g o:=⟨Ne.symm h.ne⟩
 haveI:Sx.ko i s:=⟨h.h0,h.h1⟩
 haveI:Sx.lD s i { su s i with g:=(o:Int) }:=⟨by rw [← h.e]⟩
 haveI:Sx.dR s g { Sx.gr s g with hold:=i }:=⟨by rw [← hi]⟩
 rw [← Zb hg h hi];obtain ⟨w,WD⟩:=LI b u (Co (g:=g) (f:=fun x=>{ x with t:=s.step }) Q) i;have C1:=Mt b u (Sx.bq (Sx.bq (Sx.drop (Sx.bq s g fun x=>{ x with t:=s.step }) i) o fun x=>{ x with bG:=s.step }) o fun x=>{ x with dh:=(su s i).cs }) g o i false Sx.cy.h Sx.cy.h h.ne h.h0 (Sx.ko.h1) (by rw [Sx.lD.h (s:=Sx.bq _ _ _) (i:=i)]) (by rw [Sx.dR.h (s:=Sx.bq _ _ _) (g:=g)];exact hw);refine aq.intro Tryz.func140 rfl rfl rfl (fun ok e=>?_)
 repeat (first | (refine K.load ?_;((refine jq rfl rfl rfl (Qt.cJ rfl (cF) (by exact rfl)) ?_))) | (refine K.store ?_;((refine JO.ld (Ld.dY rfl rfl (by exact rfl) cF) rfl (fun _=>?_)));refine JO.fu b g (fun x=>{ x with t:=s.step }) (by exact rfl) ?_) | (refine K.indexAddr ?_;refine jq rfl rfl rfl (Qt.bF rfl rfl fo fq) ?_) | (refine K.call ?_;refine JO.ld (Ld.bU (WD) (qb rfl) rfl (by (exact aL.cons .refl (.cons .refl .nil)))) rfl ?_;intro _) | refine gn ?_)
 refine J.draw (by kernel_rfl) rfl ?_;refine JW.base none ?_;refine tk 0 ?_;refine tk 1 ?_;refine tk 2 ?_;refine tk 3 ?_;refine tk 4 ?_;refine tk 5 ?_;refine tk 6 ?_;refine tk 7 ?_;refine tk 8 ?_;refine JD.take 9 rfl rfl (by kernel_rfl) rfl (qb rfl) (Qt.bF rfl rfl (oh (s:=s)) oo) rfl ?_;refine tk 10 ?_;refine JD.take 11 rfl rfl (by kernel_rfl) rfl (qb rfl) (Qt.cJ rfl og rfl) rfl ?_;refine JD.take 12 rfl rfl (by kernel_rfl) rfl (qb rfl) (Qt.bF rfl rfl fo fq) rfl ?_;refine tk 13 ?_;refine bH ?_
 repeat (first | (refine K.load ?_;first | ((refine jq rfl rfl rfl (Qt.cJ rfl (og) (by exact rfl)) ?_)) | ((refine jq rfl rfl rfl (Qt.cJ rfl (cF) (by exact rfl)) ?_))) | (refine K.store ?_;first | ((refine JO.ld (Ld.dY rfl rfl (by exact rfl) cF) rfl (fun _=>?_)));refine JO.fu b o (fun x=>{ x with bG:=s.step }) (by exact rfl) ?_ | ((refine JO.ld (Ld.dY rfl rfl (by exact rfl) cF) rfl (fun _=>?_)));refine JO.fu b o (fun x=>{ x with dh:=(su s i).cs }) (by exact rfl) ?_) | (refine K.indexAddr ?_;refine jq rfl rfl rfl (Qt.bF rfl rfl (oh (s:=s)) oo) ?_) | (refine K.call ?_;refine JO.ld (Ld.bU C1 (qb rfl) rfl (.cons .refl (.cons .refl (.cons .refl (.cons .refl .nil))))) rfl ?_;intro v) | refine gn ?_)
 (exact J.jI Tryz.func140 rfl .nil v (by exact .refl) rfl)
theorem Zc (b:Nat) (u:U) (s:Sx.St) (g o:Nat) (hg:g < s.gs.length) (h:rS s g o (Sx.gr s g).hold) (Q:Qs s) (hw:(Sx.gr s g).ah.length≤1000) (hu:dH u s) :
  aq Tryz.prog 93 [.c (.v (pt b)),.c (nI g)] (wd b u s) (fun x:{ u':U // dH u' (gN s g) }=>(.aV [],wd b x.1 (gN s g))):=by
 haveI:Sx.cy g s:=⟨hg⟩
 haveI:Sx.cy o s:=⟨h.o1⟩
 haveI:oa o g:=⟨h.ne⟩
 haveI:oa g o:=⟨Ne.symm h.ne⟩
 haveI:Sx.ko (Sx.gr s g).hold s:=⟨h.h0,h.h1⟩
 have e0:=h.e;haveI:Sx.lD s (Sx.gr s g).hold { su s (Sx.gr s g).hold with g:=(o:Int) }:=⟨by rw [← e0]⟩
 cases hp:(Sx.gr s o).aX with
 | true =>
  haveI:Sx.dR s o { Sx.gr s o with aX:=true }:=⟨by rw [← hp]⟩
  have er:gN s g=Sx.bq (Sx.bq (Sx.drop s (Sx.gr s g).hold) g fun x=>{ x with hold:=-1 }) g fun x=>{ x with place:=22 }:=by
   rw [qj (Sx.cy.h)];have e2:Sx.gr (Sx.drop s (Sx.gr s g).hold) g=Sx.gr s g:=Sx.dR.h;unfold gN Sx.bq;dsimp only;rw [e0,Int.toNat_natCast,if_pos hp,e2]
  have eL:dH u (gN s g):=by rw [er];exact hu.to
  generalize gN s g=s' at er eL ⊢;obtain ⟨w,WD⟩:=LI b u Q (Sx.gr s g).hold;refine aq.intro Tryz.func93 rfl rfl rfl (fun ok e=>?_)
  repeat (first | (refine K.load ?_;((refine jq rfl rfl rfl (Qt.cJ rfl (cF) (by exact rfl)) ?_))) | (refine K.indexAddr ?_;refine jq rfl rfl rfl (Qt.bF rfl rfl fo fq) ?_) | refine gn ?_)
  refine J.draw (by kernel_rfl) rfl ?_;refine JW.base none ?_;refine tk 0 ?_;refine tk 1 ?_;refine tk 2 ?_;refine tk 3 ?_;refine tk 4 ?_;refine tk 5 ?_;refine tk 6 ?_;refine tk 7 ?_;refine tk 8 ?_;refine JD.take 9 rfl rfl (by kernel_rfl) rfl (qb rfl) (Qt.bF rfl rfl (oh (s:=s)) oo) rfl ?_;refine tk 10 ?_;refine JD.take 11 rfl rfl (by kernel_rfl) rfl (qb rfl) (Qt.cJ rfl og rfl) rfl ?_;refine JD.take 12 rfl rfl (by kernel_rfl) rfl (qb rfl) (Qt.bF rfl rfl fo fq) rfl ?_;refine tk 13 ?_;refine bH ?_
  repeat (first | (refine K.load ?_;((refine jq rfl rfl rfl (Qt.cJ rfl (cF) (by exact rfl)) ?_))) | (refine K.store ?_;first | ((refine JO.ld (Ld.dY rfl rfl (by exact rfl) cF) rfl (fun _=>?_)));refine JO.fu b g (fun x=>{ x with hold:=-1 }) (by exact rfl) ?_ | ((refine JO.ld (Ld.dY rfl rfl (by exact rfl) cF) rfl (fun _=>?_)));refine JO.fu b g (fun x=>{ x with place:=22 }) (by exact rfl) ?_) | (refine K.call ?_;refine JO.ld (Ld.bU (WD) (qb rfl) rfl (by (exact aL.cons .refl (.cons .refl .nil)))) rfl ?_;intro _) | refine gn ?_)
  subst er
  (exact J.jI Tryz.func93 rfl .nil ⟨u,eL⟩ (by exact .refl) rfl)
 | false =>
  haveI:Sx.dR s o { Sx.gr s o with aX:=false }:=⟨by rw [← hp]⟩
  have er:gN s g=Sx.bq (Sx.eU (Sx.bq s o fun x=>{ x with aX:=true }) g) g fun x=>{ x with place:=22 }:=by
   unfold gN;dsimp only;rw [e0,Int.toNat_natCast,if_neg (by rw [hp];simp)];rfl
  have eL:∀ v,dH (iM u g v) (gN s g):=fun v=>dH.wk (by rw [er];exact hu.to)
  generalize gN s g=s' at er eL ⊢;have hx:Sx.gr (Sx.bq s o fun x=>{ x with aX:=true }) g=Sx.gr s g:=Sx.dR.h;have C1:=Gw b u (Sx.bq s o fun x=>{ x with aX:=true }) g o (Sx.gr s g).hold Sx.cy.h ⟨h.h0,h.h1,h.e,Sx.cy.h,h.ne⟩ (by rw [hx]) (Co Q) (by rw [hx];exact hw);refine aq.intro Tryz.func93 rfl rfl rfl (fun ok e=>?_)
  repeat (first | (refine K.load ?_;((refine jq rfl rfl rfl (Qt.cJ rfl (cF) (by exact rfl)) ?_))) | (refine K.indexAddr ?_;refine jq rfl rfl rfl (Qt.bF rfl rfl fo fq) ?_) | refine gn ?_)
  refine J.draw (by kernel_rfl) rfl ?_;refine JW.base none ?_;refine tk 0 ?_;refine tk 1 ?_;refine tk 2 ?_;refine tk 3 ?_;refine tk 4 ?_;refine tk 5 ?_;refine tk 6 ?_;refine tk 7 ?_;refine tk 8 ?_;refine JD.take 9 rfl rfl (by kernel_rfl) rfl (qb rfl) (Qt.bF rfl rfl (oh (s:=s)) oo) rfl ?_;refine tk 10 ?_;refine JD.take 11 rfl rfl (by kernel_rfl) rfl (qb rfl) (Qt.cJ rfl og rfl) rfl ?_;refine JD.take 12 rfl rfl (by kernel_rfl) rfl (qb rfl) (Qt.bF rfl rfl fo fq) rfl ?_;refine tk 13 ?_;refine bH ?_
  repeat (first | (refine K.load ?_;refine jq rfl rfl rfl (Qt.cJ rfl (cF) (by exact rfl)) ?_) | (refine K.store ?_;first | ((refine JO.ld (Ld.dY rfl rfl (by exact rfl) cF) rfl (fun _=>?_)));refine JO.fu b o (fun x=>{ x with aX:=true }) (by exact rfl) ?_ | ((refine JO.ld (Ld.dY rfl rfl (by exact rfl) cF) rfl (fun _=>?_)));refine JO.fu b g (fun x=>{ x with place:=22 }) (by exact rfl) ?_) | (refine K.call ?_;refine JO.ld (Ld.bU C1 (qb rfl) rfl (.cons .refl (.cons .refl .nil))) rfl ?_;intro v) | refine gn ?_)
  subst er
  (exact J.jI Tryz.func93 rfl .nil ⟨iM u g v,eL v⟩ (by exact .refl) rfl)
theorem Zd (b:Nat) (u:U) (s:Sx.St) (g k:Nat) (hg:g < s.gs.length) (hk:k < s.an.length) (Q:Qs s) (hw:(Sx.gr s g).ah.length≤1000) (hu:dH u s)
  (hq:∀ i,i∈(cn s ((k:Int) + 1)).recv∨i∈(cn s ((k:Int) + 1)).send→(∃ o,rS s g o i)∧-1≤(su s i).cs) :
  aq Tryz.prog 92 [.c (.v (pt b)),.c (nI g),.c (nI ((k:Int) + 1))] (wd b u s) (fun x:{ u':U // dH u' (if 0 < (cn s ((k:Int) + 1)).recv.length then eB s g ((cn s ((k:Int) + 1)).recv.headD 0) else if 0 < (cn s ((k:Int) + 1)).send.length then eB s g ((cn s ((k:Int) + 1)).send.headD 0) else Sx.aE s g 16) }=>(.aV [],wd b x.1 (if 0 < (cn s ((k:Int) + 1)).recv.length then eB s g ((cn s ((k:Int) + 1)).recv.headD 0) else if 0 < (cn s ((k:Int) + 1)).send.length then eB s g ((cn s ((k:Int) + 1)).send.headD 0) else Sx.aE s g 16))):=by
 have c8:=Q.c8;haveI:Sx.cy g s:=⟨hg⟩
 have w1:IntKind.i64.wrap (2 * ((k:Int) + 1))=2 * ((k:Int) + 1):=fJ (by omega) (by omega);have w2:IntKind.i64.wrap (2 * ((k:Int) + 1) - 2)=2 * ((k:Int) + 1) - 2:=fJ (by omega) (by omega);have w3:IntKind.i64.wrap (2 * ((k:Int) + 1) - 1)=2 * ((k:Int) + 1) - 1:=fJ (by omega) (by omega);have key:∀ i,(∃ o,rS s g o i)∧-1≤(su s i).cs→(0≤(su s i).cs∧eB s g i=Sx.bq (Sx.bq s g fun x=>{ x with hold:=i }) g fun x=>{ x with place:=23 })∨((su s i).cs=-1∧eB s g i=Sx.eU (Sx.bq s g fun x=>{ x with hold:=i }) g):=fun i hi=>by
  by_cases c:0≤(su s i).cs
  ·exact .inl ⟨c,by unfold eB;exact if_pos c⟩
  ·exact .inr ⟨by omega,by unfold eB;exact if_neg c⟩
 have FR:=Ju u.pQ s.aB.length (qW s) u.TQ (2 * ((k:Int) + 1) - 2);unfold Qu.first at FR
 rw [JL (by omega)] at FR;have FS:=Ju u.pQ s.aB.length (qW s) u.TQ (2 * ((k:Int) + 1) - 1);unfold Qu.first at FS
 rw [JM (by omega)] at FS
 cases hr:(cn s ((k:Int) + 1)).recv with
 | cons i l =>
  rw [hr,if_neg (by simp)] at FR;simp only [List.headD_cons] at FR;obtain ⟨⟨o,ho⟩,hc⟩:=hq i (.inl (by rw [hr];simp));rw [if_pos (by simp)];simp only [List.headD_cons];haveI:Sx.ko i s:=⟨ho.h0,ho.h1⟩
  haveI:Sx.cy o s:=⟨ho.o1⟩
  rcases key i ⟨⟨o,ho⟩,hc⟩ with ⟨c,er⟩ | ⟨c,er⟩
  ·have eL:dH u (eB s g i):=by rw [er];exact hu.to
   generalize eB s g i=s' at er eL ⊢;have c1:(decide ((su s i).cs ≥ 0))=true:=decide_eq_true c;refine aq.intro Tryz.func92 rfl rfl rfl (fun ok e=>?_)
   repeat (first | (refine K.load ?_;((refine jq rfl rfl rfl (Qt.cJ rfl (og) (by exact rfl)) ?_))) | (refine K.store ?_;first | ((refine JO.ld (Ld.dY rfl rfl (by exact rfl) cF) rfl (fun _=>?_)));refine JO.fu b g (fun x=>{ x with hold:=i }) (by exact rfl) ?_ | ((refine JO.ld (Ld.dY rfl rfl (by exact rfl) cF) rfl (fun _=>?_)));refine JO.fu b g (fun x=>{ x with place:=23 }) (by exact rfl) ?_) | (refine K.indexAddr ?_;first | refine jq rfl rfl rfl (Qt.bF rfl rfl fo fq) ?_ | refine jq rfl rfl rfl (Qt.bF rfl rfl (oh (s:=s)) oo) ?_) | (refine K.binOp ?_;first | refine jq rfl rfl rfl ((Qt.cP rfl rfl rfl w1)) ?_ | refine jq rfl rfl rfl ((Qt.cP rfl rfl rfl w2)) ?_) | (refine K.call ?_;refine JO.ld (Ld.ep FR (qb rfl) rfl (.cons .refl (.cons .refl .nil))) rfl (fun _=>?_)) | refine gn ?_)
   subst er
   (exact J.jI Tryz.func92 rfl .nil ⟨u,eL⟩ (by exact .refl) rfl)
  ·have eL:∀ v,dH (iM u g v) (eB s g i):=fun v=>dH.wk (by rw [er];exact hu.to)
   generalize eB s g i=s' at er eL ⊢;have c1:(decide ((su s i).cs ≥ 0))=false:=decide_eq_false (by omega);have c2:((su s i).cs == -1)=true:=by rw [c];rfl
   have hx:Sx.gr (Sx.bq s g fun x=>{ x with hold:=i }) g={ Sx.gr s g with hold:=i }:=Sx.dR.h;have C1:=Gw b u (Sx.bq s g fun x=>{ x with hold:=i }) g o i Sx.cy.h ⟨ho.h0,ho.h1,ho.e,Sx.cy.h,ho.ne⟩ (by rw [hx]) (Co Q) (by rw [hx];exact hw);refine aq.intro Tryz.func92 rfl rfl rfl (fun ok e=>?_)
   repeat (first | (refine K.load ?_;((refine jq rfl rfl rfl (Qt.cJ rfl (og) (by exact rfl)) ?_))) | (refine K.store ?_;((refine JO.ld (Ld.dY rfl rfl (by exact rfl) cF) rfl (fun _=>?_)));refine JO.fu b g (fun x=>{ x with hold:=i }) (by exact rfl) ?_) | (refine K.indexAddr ?_;first | refine jq rfl rfl rfl (Qt.bF rfl rfl fo fq) ?_ | refine jq rfl rfl rfl (Qt.bF rfl rfl (oh (s:=s)) oo) ?_) | (refine K.binOp ?_;first | refine jq rfl rfl rfl ((Qt.cP rfl rfl rfl w1)) ?_ | refine jq rfl rfl rfl ((Qt.cP rfl rfl rfl w2)) ?_) | (refine K.call ?_;first | ((refine JO.ld (Ld.ep FR (qb rfl) rfl (.cons .refl (.cons .refl .nil))) rfl (fun _=>?_))) | (refine JO.ld (Ld.bU C1 (qb rfl) rfl (.cons .refl (.cons .refl .nil))) rfl ?_;intro v)) | refine gn ?_)
   subst er
   (exact J.jI Tryz.func92 rfl .nil ⟨iM u g v,eL v⟩ (by exact .refl) rfl)
 | nil =>
  rw [hr,if_pos rfl] at FR;rw [if_neg (by simp)]
  cases hs:(cn s ((k:Int) + 1)).send with
  | cons i l =>
  rw [hs,if_neg (by simp)] at FS;simp only [List.headD_cons] at FS;obtain ⟨⟨o,ho⟩,hc⟩:=hq i (.inr (by rw [hs];simp));rw [if_pos (by simp)];simp only [List.headD_cons];haveI:Sx.ko i s:=⟨ho.h0,ho.h1⟩
  haveI:Sx.cy o s:=⟨ho.o1⟩
  rcases key i ⟨⟨o,ho⟩,hc⟩ with ⟨c,er⟩ | ⟨c,er⟩
  ·have eL:dH u (eB s g i):=by rw [er];exact hu.to
   generalize eB s g i=s' at er eL ⊢;have c1:(decide ((su s i).cs ≥ 0))=true:=decide_eq_true c;refine aq.intro Tryz.func92 rfl rfl rfl (fun ok e=>?_)
   repeat (first | (refine K.load ?_;((refine jq rfl rfl rfl (Qt.cJ rfl (og) (by exact rfl)) ?_))) | (refine K.store ?_;first | ((refine JO.ld (Ld.dY rfl rfl (by exact rfl) cF) rfl (fun _=>?_)));refine JO.fu b g (fun x=>{ x with hold:=i }) (by exact rfl) ?_ | ((refine JO.ld (Ld.dY rfl rfl (by exact rfl) cF) rfl (fun _=>?_)));refine JO.fu b g (fun x=>{ x with place:=23 }) (by exact rfl) ?_) | (refine K.indexAddr ?_;first | refine jq rfl rfl rfl (Qt.bF rfl rfl fo fq) ?_ | refine jq rfl rfl rfl (Qt.bF rfl rfl (oh (s:=s)) oo) ?_) | (refine K.binOp ?_;first | refine jq rfl rfl rfl ((Qt.cP rfl rfl rfl w1)) ?_ | refine jq rfl rfl rfl ((Qt.cP rfl rfl rfl w2)) ?_ | refine jq rfl rfl rfl ((Qt.cP rfl rfl rfl w3)) ?_) | (refine K.call ?_;first | (refine JO.ld (Ld.ep FR (qb rfl) rfl (.cons .refl (.cons .refl .nil))) rfl (fun _=>?_)) | (refine JO.ld (Ld.ep FS (qb rfl) rfl (.cons .refl (.cons .refl .nil))) rfl (fun _=>?_))) | refine gn ?_)
   subst er
   (exact J.jI Tryz.func92 rfl .nil ⟨u,eL⟩ (by exact .refl) rfl)
  ·have eL:∀ v,dH (iM u g v) (eB s g i):=fun v=>dH.wk (by rw [er];exact hu.to)
   generalize eB s g i=s' at er eL ⊢;have c1:(decide ((su s i).cs ≥ 0))=false:=decide_eq_false (by omega);have c2:((su s i).cs == -1)=true:=by rw [c];rfl
   have hx:Sx.gr (Sx.bq s g fun x=>{ x with hold:=i }) g={ Sx.gr s g with hold:=i }:=Sx.dR.h;have C1:=Gw b u (Sx.bq s g fun x=>{ x with hold:=i }) g o i Sx.cy.h ⟨ho.h0,ho.h1,ho.e,Sx.cy.h,ho.ne⟩ (by rw [hx]) (Co Q) (by rw [hx];exact hw);refine aq.intro Tryz.func92 rfl rfl rfl (fun ok e=>?_)
   repeat (first | (refine K.load ?_;((refine jq rfl rfl rfl (Qt.cJ rfl (og) (by exact rfl)) ?_))) | (refine K.store ?_;((refine JO.ld (Ld.dY rfl rfl (by exact rfl) cF) rfl (fun _=>?_)));refine JO.fu b g (fun x=>{ x with hold:=i }) (by exact rfl) ?_) | (refine K.indexAddr ?_;first | refine jq rfl rfl rfl (Qt.bF rfl rfl fo fq) ?_ | refine jq rfl rfl rfl (Qt.bF rfl rfl (oh (s:=s)) oo) ?_) | (refine K.binOp ?_;first | refine jq rfl rfl rfl ((Qt.cP rfl rfl rfl w1)) ?_ | refine jq rfl rfl rfl ((Qt.cP rfl rfl rfl w2)) ?_ | refine jq rfl rfl rfl ((Qt.cP rfl rfl rfl w3)) ?_) | (refine K.call ?_;first | (first | (refine JO.ld (Ld.ep FR (qb rfl) rfl (.cons .refl (.cons .refl .nil))) rfl (fun _=>?_)) | (refine JO.ld (Ld.ep FS (qb rfl) rfl (.cons .refl (.cons .refl .nil))) rfl (fun _=>?_))) | (refine JO.ld (Ld.bU C1 (qb rfl) rfl (.cons .refl (.cons .refl .nil))) rfl ?_;intro v)) | refine gn ?_)
   subst er
   (exact J.jI Tryz.func92 rfl .nil ⟨iM u g v,eL v⟩ (by exact .refl) rfl)
  | nil =>
  rw [hs,if_pos rfl] at FS;rw [if_neg (by simp)];have eL:dH u (Sx.aE s g 16):=hu.to;refine aq.intro Tryz.func92 rfl rfl rfl (fun ok e=>?_)
  repeat (first | (refine K.store ?_;((refine JO.ld (Ld.dY rfl rfl (by exact rfl) cF) rfl (fun _=>?_)));refine JO.fu b g (fun x=>{ x with place:=16 }) (by exact rfl) ?_) | (refine K.indexAddr ?_;refine jq rfl rfl rfl (Qt.bF rfl rfl fo fq) ?_) | (refine K.binOp ?_;first | refine jq rfl rfl rfl ((Qt.cP rfl rfl rfl w1)) ?_ | refine jq rfl rfl rfl ((Qt.cP rfl rfl rfl w2)) ?_ | refine jq rfl rfl rfl ((Qt.cP rfl rfl rfl w3)) ?_) | (refine K.call ?_;first | (refine JO.ld (Ld.ep FR (qb rfl) rfl (.cons .refl (.cons .refl .nil))) rfl (fun _=>?_)) | (refine JO.ld (Ld.ep FS (qb rfl) rfl (.cons .refl (.cons .refl .nil))) rfl (fun _=>?_))) | refine gn ?_)
  (exact J.kJ Tryz.func92 rfl .nil ⟨u,eL⟩ (by exact .refl) rfl)
def rT (s:Sx.St) (g:Nat) (ch:Int):Sx.St:=if (cn s ch).closed=true then bw s g (Sx.res 4) 16 else bw (Sx.av s ch { cn s ch with closed:=true }) g lu 22
theorem Ze (b:Nat) (u:U) (s:Sx.St) (g k:Nat) (hg:g < s.gs.length) (hk:k < s.an.length) (h8:k < 8) :
  aq Tryz.prog 91 [.c (.v (pt b)),.c (nI g),.c (nI ((k:Int) + 1))] (wd b u s) (fun _:Unit=>(.aV [],wd b u (rT s g ((k:Int) + 1)))):=by
 haveI:Sx.cy g s:=⟨hg⟩
 have hm:Sx.made (Sx.bq s g fun x=>{ x with bG:=s.step }) ((k:Int) + 1)=true:=by
  unfold Sx.made;simp only [decide_eq_true_eq]
  show 1≤(k:Int) + 1∧(k:Int) + 1≤(s.an.length:Int);omega
 have CM:=JE b u (Sx.bq s g fun x=>{ x with bG:=s.step }) ((k:Int) + 1);rw [hm] at CM;have w1:IntKind.i64.wrap ((k:Int) + 1 - 1)=(k:Int):=by rw [fJ (by omega) (by omega)];omega
 have i0:(0:Int)≤(k:Int):=by omega
 have i1:(k:Int) < (s.an.map fun c=>[bI c.closed]).length:=by rw [List.length_map];omega
 cases hc:(cn s ((k:Int) + 1)).closed with
 | true =>
  have AC:(s.an.map fun c=>[bI c.closed])[((k:Int)).toNat]?=some [bI true]:=by rw [Int.toNat_natCast,List.getElem?_map,oM hk,← hc];rfl
  have er:rT s g ((k:Int) + 1)=Sx.bq (Sx.bq (Sx.bq s g fun x=>{ x with bG:=s.step }) g fun x=>{ x with res:=Sx.res 4 }) g fun x=>{ x with place:=16 }:=by
   rw [qj Sx.cy.h,qj hg];unfold rT;rw [if_pos hc];rfl
  rw [er];refine aq.intro Tryz.func91 rfl rfl rfl (fun ok e=>?_)
  repeat (first | (refine K.load ?_;((refine jq rfl rfl rfl (Qt.cJ rfl (AC) (by exact rfl)) ?_))) | (refine K.store ?_;first | (first | refine JO.ld (Ld.dY rfl rfl (by exact rfl) cF) rfl (fun _=>?_) | refine JO.ld (Ld.Af rfl rfl rfl (by exact rfl) (by exact rfl) cF) rfl (fun _=>?_));refine JO.fu b g (fun x=>{ x with bG:=s.step }) (by exact rfl) ?_ | (first | refine JO.ld (Ld.dY rfl rfl (by exact rfl) cF) rfl (fun _=>?_) | refine JO.ld (Ld.Af rfl rfl rfl (by exact rfl) (by exact rfl) cF) rfl (fun _=>?_));refine JO.fu b g (fun x=>{ x with res:=Sx.res 4 }) (by exact rfl) ?_ | ((refine JO.ld (Ld.dY rfl rfl (by exact rfl) cF) rfl (fun _=>?_)));refine JO.fu b g (fun x=>{ x with place:=16 }) (by exact rfl) ?_) | (refine K.indexAddr ?_;first | refine jq rfl rfl rfl (Qt.bF rfl rfl fo fq) ?_ | refine jq rfl rfl rfl (Qt.bF rfl rfl i0 i1) ?_) | (refine K.binOp ?_;refine jq rfl rfl rfl ((Qt.cP rfl rfl rfl w1)) ?_) | (refine K.call ?_;refine JO.ld (Ld.bU (CM) (qb rfl) rfl (by (exact aL.cons .refl (.cons .refl .nil)))) rfl ?_;intro _) | refine gn ?_)
  (exact J.kJ Tryz.func91 rfl .nil () (by exact .refl) rfl)
 | false =>
  have AC:(s.an.map fun c=>[bI c.closed])[((k:Int)).toNat]?=some [bI false]:=by rw [Int.toNat_natCast,List.getElem?_map,oM hk,← hc];rfl
  have er:rT s g ((k:Int) + 1)=Sx.bq (Sx.bq (Sx.av (Sx.bq s g fun x=>{ x with bG:=s.step }) ((k:Int) + 1) { cn s ((k:Int) + 1) with closed:=true }) g fun x=>{ x with res:=lu }) g fun x=>{ x with place:=22 }:=by
   rw [qj (Sx.cy.h)];rw [show Sx.av (Sx.bq s g fun x=>{ x with bG:=s.step }) ((k:Int) + 1) { cn s ((k:Int) + 1) with closed:=true }=Sx.bq (Sx.av s ((k:Int) + 1) { cn s ((k:Int) + 1) with closed:=true }) g fun x=>{ x with bG:=s.step } from rfl,qj (Sx.cy.h)];unfold rT;rw [if_neg (by rw [hc];simp)];rfl
  rw [er];refine aq.intro Tryz.func91 rfl rfl rfl (fun ok e=>?_)
  repeat (first | (refine K.load ?_;((refine jq rfl rfl rfl (Qt.cJ rfl (AC) (by exact rfl)) ?_))) | (refine K.store ?_;first | (first | refine JO.ld (Ld.dY rfl rfl (by exact rfl) cF) rfl (fun _=>?_) | refine JO.ld (Ld.Af rfl rfl rfl (by exact rfl) (by exact rfl) cF) rfl (fun _=>?_));refine JO.fu b g (fun x=>{ x with bG:=s.step }) (by exact rfl) ?_ | (refine JO.ld (Ld.dY rfl rfl (by exact rfl) AC) rfl (fun _=>?_);refine JO.tl b (wd b u (Sx.av (Sx.bq s g fun x=>{ x with bG:=s.step }) ((k:Int) + 1) { cn s ((k:Int) + 1) with closed:=true })) (by exact UW true hk h8) ?_) | (first | refine JO.ld (Ld.dY rfl rfl (by exact rfl) cF) rfl (fun _=>?_) | refine JO.ld (Ld.Af rfl rfl rfl (by exact rfl) (by exact rfl) cF) rfl (fun _=>?_));refine JO.fu b g (fun x=>{ x with res:=lu }) (by exact rfl) ?_ | ((refine JO.ld (Ld.dY rfl rfl (by exact rfl) cF) rfl (fun _=>?_)));refine JO.fu b g (fun x=>{ x with place:=22 }) (by exact rfl) ?_) | (refine K.indexAddr ?_;first | refine jq rfl rfl rfl (Qt.bF rfl rfl fo fq) ?_ | refine jq rfl rfl rfl (Qt.bF rfl rfl i0 i1) ?_) | (refine K.binOp ?_;refine jq rfl rfl rfl ((Qt.cP rfl rfl rfl w1)) ?_) | (refine K.call ?_;refine JO.ld (Ld.bU (CM) (qb rfl) rfl (by (exact aL.cons .refl (.cons .refl .nil)))) rfl ?_;intro _) | refine gn ?_)
  (exact J.jI Tryz.func91 rfl .nil () (by exact .refl) rfl)
structure Gy (s:Sx.St) (g:Nat):Prop where
 cp:Ck s g
 qs:Qs s
 wk:(Sx.gr s g).ah.length≤1000
 md:(Sx.op s g).kind=6→21≤(Sx.gr s g).place∧(Sx.gr s g).place≤23→Sx.made s (Sx.op s g).ch=true
 B6:(Sx.op s g).kind=6→(Sx.gr s g).place=22→∀ i,i∈(cn s (Sx.op s g).ch).recv∨i∈(cn s (Sx.op s g).ch).send→(∃ o,rS s g o i)∧-1≤(su s i).cs
 Gc:(Sx.op s g).kind=6→(Sx.gr s g).place=23→∃ o,rS s g o (Sx.gr s g).hold
theorem Nw (b:Nat) (u:U) (s:Sx.St) (g:Nat) (h:Gy s g) (hu:dH u s) :
  aq Tryz.prog 33 [.c (.v (pt b)),.c (nI g)] (wd b u s) (fun x:{ u':U // dH u' (cD s g).1 }=>(.c (bI (cD s g).2),wd b x.1 (cD s g).1)):=by
 have hg:=h.cp.lt;haveI:Sx.cy g s:=⟨hg⟩
 have c8:=h.cp.c8;have O:=Cj b u s g hg h.cp.cY h.cp.oc;have CC:=Nk b u s g h.cp hu;refine aq.intro Tryz.func33 rfl rfl rfl (fun ok e=>?_)
 cases wG:((Sx.op s g).kind != 6) with
 | true =>
  have er:cD s g=(s,false):=by unfold cD;dsimp only;rw [if_pos (by simpa using wG)]
  rw [er]
  repeat (first | (refine K.call ?_;refine JO.ld (Ld.bU (O) (qb rfl) rfl (by (exact aL.cons .refl (.cons .refl .nil)))) rfl ?_;intro _) | refine au ?_ | intro _)
  (exact J.nQ [_] rfl Tryz.func33 rfl (.cons (.tmp rfl) .nil) ⟨u,hu⟩ (by exact .refl) rfl)
 | false =>
 have k6:(Sx.op s g).kind=6:=by simpa using wG
 have nk:¬ (Sx.op s g).kind≠6:=by simpa using wG
 cases jB:(common s g).2 with
 | true =>
  have er:cD s g=((common s g).1,true):=by unfold cD;dsimp only;rw [if_neg nk,if_pos jB]
  rw [jB] at CC;rw [er]
  repeat (first | (refine K.call ?_;first | (refine JO.ld (Ld.bU (O) (qb rfl) rfl (by (exact aL.cons .refl (.cons .refl .nil)))) rfl ?_;intro _) | (refine JO.ld (Ld.bU CC (qb rfl) rfl (.cons .refl (.cons .refl .nil))) rfl ?_;intro y)) | refine au ?_ | intro _)
  (exact J.nQ [_] rfl Tryz.func33 rfl (.cons (.tmp rfl) .nil) y (by exact .refl) rfl)
 | false =>
 have e1:common s g=(s,false):=Prod.ext (Y8 jB) jB;rw [e1] at CC;dsimp only at CC;have ag:cD s g=if Sx.made s (Sx.op s g).ch=false then (s,false) else if (Sx.gr s g).place=21 then (if (cn s (Sx.op s g).ch).closed=true then (bw s g (Sx.res 4) 16,true) else (bw (Sx.av s (Sx.op s g).ch { cn s (Sx.op s g).ch with closed:=true }) g lu 22,true)) else if (Sx.gr s g).place=22 then (if 0 < (cn s (Sx.op s g).ch).recv.length then (eB s g ((cn s (Sx.op s g).ch).recv.headD 0),true) else if 0 < (cn s (Sx.op s g).ch).send.length then (eB s g ((cn s (Sx.op s g).ch).send.headD 0),true) else (Sx.aE s g 16,true)) else if (Sx.gr s g).place=23 then (gN s g,true) else (s,false):=by
  unfold cD;dsimp only;rw [if_neg nk,if_neg (by rw [jB];simp)]
 cases Nx:((Sx.gr s g).place == 21) with
 | true =>
  have Gd:(Sx.gr s g).place=21:=by simpa using Nx
  have hm:=h.md k6 (by omega);obtain ⟨k,hk,aR⟩:=rK hm;have er:cD s g=(rT s g (Sx.op s g).ch,true):=by
   rw [ag,if_neg (by rw [hm];simp),if_pos Gd];unfold rT;split <;> rfl
  have C1:=fun u=>Ze b u s g k hg aR (by omega)
  rw [← hk] at C1;have eL:∀ u,dH u s→dH u (rT s g (Sx.op s g).ch):=fun u hu=>by unfold rT bw;split <;> exact hu.to
  rw [er]
  repeat (first | (refine K.load ?_;((refine jq rfl rfl rfl (Qt.cJ rfl (cF) (by exact rfl)) ?_))) | (refine K.indexAddr ?_;refine jq rfl rfl rfl (Qt.bF rfl rfl fo fq) ?_) | (refine K.call ?_;first | (refine JO.ld (Ld.bU (O) (qb rfl) rfl (by (exact aL.cons .refl (.cons .refl .nil)))) rfl ?_;intro _) | (first | (refine JO.ld (Ld.bU CC (qb rfl) rfl (.cons .refl (.cons .refl .nil))) rfl ?_;intro y) | (refine JO.ld (Ld.bU (C1 y.1) (qb rfl) rfl (.cons .refl (.cons .refl (.cons .refl .nil)))) rfl ?_;intro _))) | refine au ?_ | intro _)
  (exact J.nQ [_] rfl Tryz.func33 rfl (.cons (.tmp rfl) .nil) ⟨y.1,eL y.1 y.2⟩ (by exact .refl) rfl)
 | false =>
 have Gz:¬ (Sx.gr s g).place=21:=by simpa using Nx
 cases Ny:((Sx.gr s g).place == 22) with
 | true =>
  have B7:(Sx.gr s g).place=22:=by simpa using Ny
  have hm:=h.md k6 (by omega);obtain ⟨k,hk,aR⟩:=rK hm;have er:cD s g=((if 0 < (cn s (Sx.op s g).ch).recv.length then eB s g ((cn s (Sx.op s g).ch).recv.headD 0) else if 0 < (cn s (Sx.op s g).ch).send.length then eB s g ((cn s (Sx.op s g).ch).send.headD 0) else Sx.aE s g 16),true):=by
   rw [ag,if_neg (by rw [hm];simp),if_neg Gz,if_pos B7]
   split
   ·rfl
   ·split <;> rfl
  have C1:=fun u hu=>Zd b u s g k hg aR h.qs h.wk hu (by rw [← hk];exact h.B6 k6 B7)
  rw [← hk] at C1;rw [er]
  repeat (first | (refine K.load ?_;((refine jq rfl rfl rfl (Qt.cJ rfl (cF) (by exact rfl)) ?_))) | (refine K.indexAddr ?_;refine jq rfl rfl rfl (Qt.bF rfl rfl fo fq) ?_) | (refine K.call ?_;first | (refine JO.ld (Ld.bU (O) (qb rfl) rfl (by (exact aL.cons .refl (.cons .refl .nil)))) rfl ?_;intro _) | (first | (refine JO.ld (Ld.bU CC (qb rfl) rfl (.cons .refl (.cons .refl .nil))) rfl ?_;intro y) | (refine JO.ld (Ld.bU (C1 y.1 y.2) (qb rfl) rfl (.cons .refl (.cons .refl (.cons .refl .nil)))) rfl ?_;intro z))) | refine au ?_ | intro _)
  (exact J.nQ [_] rfl Tryz.func33 rfl (.cons (.tmp rfl) .nil) z (by exact .refl) rfl)
 | false =>
 have Nz:¬ (Sx.gr s g).place=22:=by simpa using Ny
 cases NA:((Sx.gr s g).place == 23) with
 | true =>
  have B8:(Sx.gr s g).place=23:=by simpa using NA
  have hm:=h.md k6 (by omega);obtain ⟨o,ho⟩:=h.Gc k6 B8;have er:cD s g=(gN s g,true):=by rw [ag,if_neg (by rw [hm];simp),if_neg Gz,if_neg Nz,if_pos B8]
  have C1:=fun u hu=>Zc b u s g o hg ho h.qs h.wk hu
  rw [er]
  repeat (first | (refine K.load ?_;((refine jq rfl rfl rfl (Qt.cJ rfl (cF) (by exact rfl)) ?_))) | (refine K.indexAddr ?_;refine jq rfl rfl rfl (Qt.bF rfl rfl fo fq) ?_) | (refine K.call ?_;first | (refine JO.ld (Ld.bU (O) (qb rfl) rfl (by (exact aL.cons .refl (.cons .refl .nil)))) rfl ?_;intro _) | (first | (refine JO.ld (Ld.bU CC (qb rfl) rfl (.cons .refl (.cons .refl .nil))) rfl ?_;intro y) | (refine JO.ld (Ld.bU (C1 y.1 y.2) (qb rfl) rfl (.cons .refl (.cons .refl .nil))) rfl ?_;intro z))) | refine au ?_ | intro _)
  (exact J.nQ [_] rfl Tryz.func33 rfl (.cons (.tmp rfl) .nil) z (by exact .refl) rfl)
 | false =>
  have Zf:¬ (Sx.gr s g).place=23:=by simpa using NA
  have er:cD s g=(s,false):=by
   rw [ag,if_neg Gz,if_neg Nz,if_neg Zf,ite_self]
  rw [er]
  repeat (first | (refine K.load ?_;((refine jq rfl rfl rfl (Qt.cJ rfl (cF) (by exact rfl)) ?_))) | (refine K.indexAddr ?_;refine jq rfl rfl rfl (Qt.bF rfl rfl fo fq) ?_) | (refine K.call ?_;first | (refine JO.ld (Ld.bU (O) (qb rfl) rfl (by (exact aL.cons .refl (.cons .refl .nil)))) rfl ?_;intro _) | (refine JO.ld (Ld.bU CC (qb rfl) rfl (.cons .refl (.cons .refl .nil))) rfl ?_;intro y)) | refine au ?_ | intro _)
  (exact J.nQ [_] rfl Tryz.func33 rfl (.cons (.tmp rfl) .nil) y (by exact .refl) rfl)
theorem NB {s:Sx.St} {g:Nat} (h:Sx.MInv s) (hg:g < s.gs.length) (k6:(Sx.op s g).kind=6) {c i:Int} (c0:1≤c) (c1:c≤s.an.length) (hi:i∈(cn s c).recv∨i∈(cn s c).send):(∃ o,rS s g o i)∧-1≤(su s i).cs:=by
 have q:=Sx.Inv.q h.v c c0 c1 i hi;have sI:=Sx.Inv.su h.v i q.1 q.2.1;obtain ⟨q1,q2,q3,q4,q5,q6,q7,q8,q9⟩:=q;refine ⟨⟨(su s i).g.toNat,q1,q2,by omega,by omega,fun e=>?_⟩,sI.2.2.1⟩;have e2:(su s i).g=(g:Int):=by omega
 rw [e2] at q9;have kk:(aD (Sx.gr s g)).kind=6:=k6;have NC:Sx.dP (Sx.gr s g) i (su s i).cs:=q9;unfold Sx.dP Sx.SR SE at NC;rcases NC with ⟨a,_⟩ | ⟨a,_⟩ <;> omega
theorem Zg {s:Sx.St} {g:Nat} (h:Sx.Good s) (hg:g < s.gs.length):Gy s g:=by
 have h':=h.toMInv;have md:(Sx.op s g).kind=6→21≤(Sx.gr s g).place∧(Sx.gr s g).place≤23→Sx.made s (Sx.op s g).ch=true:=fun k6 e=>oV.2 (h'.qd hg (by omega) (by omega))
 have wk:=((zE h).gr g).wk;refine ⟨Nq h hg,h.qs,by omega,md,fun k6 e i hi=>?_,fun k6 e=>?_⟩
 ·obtain ⟨k,hk,aR⟩:=rK (md k6 (by omega));exact NB h' hg k6 (by omega) (by omega) hi
 ·have w:=Sx.Inv.dy h'.v (g:Int) (by omega) (by omega) (.inr (.inl e));exact (NB h' hg k6 w.1 w.2.1 w.2.2.2.1).1
theorem Zh (s:Sx.St) (g:Nat) (h:uM s g) :
  Pure Tryz.prog 34 [.agg (ay s),.c (nI g)] (.aV [.agg (ay (cD s g).1),.c (bI (cD s g).2)]):=by
 have C:=MP s g h;refine aq.intro Tryz.func34 rfl rfl rfl (fun ok e=>?_)
 repeat (first | refine au ?_ | intro _)
 exact az Tryz.func34
end Fl
end Go.Proofs.YtofnbflkhgammaaGreat
