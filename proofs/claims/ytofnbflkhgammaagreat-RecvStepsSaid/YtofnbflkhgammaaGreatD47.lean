/-
  What the laws need, part D47.
  Conditions: none.
-/
import Derived.Test.YtofnbflkhgammaaGreatD45
set_option linter.unusedVariables false
set_option linter.unusedSimpArgs false
set_option linter.unnecessarySimpa false
set_option maxHeartbeats 2000000
namespace Go.Proofs.YtofnbflkhgammaaGreat
open Go.RowKit
namespace Sx
theorem qc {s:ah} {g:Nat}:(aS s g).1.gs=s.gs∧(aS s g).1.aC=s.aC∧(aS s g).1.cV=s.cV∧(aS s g).1.bN=s.bN:=by
 unfold aS;split
 ·split <;> exact ⟨rfl,rfl,rfl,rfl⟩
 ·exact ⟨rfl,rfl,rfl,rfl⟩
instance bT.aS {s:ah} {g k:Nat} [h:bT k s]:bT k (Sx.aS s g).1:=⟨by rw [qc.1];exact h.h⟩
instance dY.aS {s:ah} {g k:Nat} {x:Gr} [h:dY s k x]:dY (Sx.aS s g).1 k x:=⟨by unfold aa;rw [qc.1];exact h.h⟩
instance gX.aS {s:ah} {g:Nat} {i:Int} [h:gX i s]:gX i (Sx.aS s g).1:=⟨h.h0,by rw [qc.2.1];exact h.h1⟩
instance bT.pair {s:ah} {g k:Nat} {i:Int} [h:bT k s]:bT k (Sx.pair s g i):=⟨by unfold Sx.pair;dsimp only;exact GC (GC h.h)⟩
def rj (s:ah) (g:Nat) (l:List Int) (wn hd:Int):ah × Bool:=if l.length=0 then (s,false) else (taken s g (l.headD 0) wn hd,true)
end Sx
namespace Fl
open Sx Go.Proofs.Tryz
set_option maxRecDepth 100000
section
variable {u:U} {s:ah}
abbrev sU (u:U) (s:ah) (g:Nat) (T:List Nat):U:={ u with H:=(Po.take s.cV.toNat s.bN.toNat (ee u s) g).1.H,TP:=T }
theorem Hv (h0:0≤s.fresh) {g:Nat} (hg:g < s.cache.length) (T:List Nat):ee (sU u s g T) (aS s g).1=(Po.take s.cV.toNat s.bN.toNat (ee u s) g).1∧(aS s g).2=(Po.take s.cV.toNat s.bN.toNat (ee u s) g).2:=by
 have ht:=OE (u:=u) hg;unfold sU Po.take aS;rw [if_pos ht,Int.toNat_natCast]
 by_cases c:Po.own s.bN.toNat (s.cache.getD g []) s.middle=[]
 ·rw [if_pos c,if_pos (show Po.own s.bN.toNat ((ee u s).C.getD g []) (ee u s).M=[] from c)]
  by_cases c2:s.fresh < s.cV
  ·rw [if_pos c2,if_pos (show (ee u s).f < s.cV.toNat by show s.fresh.toNat < _;omega)];refine ⟨?_,?_⟩
   ·show Po.St.mk s.cache s.middle (s.fresh + 1).toNat _=Po.St.mk s.cache s.middle (s.fresh.toNat + 1) _;rw [show (s.fresh + 1).toNat=s.fresh.toNat + 1 by omega]
   ·show (s.fresh,true)=(((s.fresh.toNat:Nat):Int),true);rw [Int.toNat_of_nonneg h0]
  ·rw [if_neg c2,if_neg (show ¬ (ee u s).f < s.cV.toNat by show ¬ s.fresh.toNat < _;omega)];exact ⟨rfl,rfl⟩
 ·rw [if_neg c,if_neg (show ¬ Po.own s.bN.toNat ((ee u s).C.getD g []) (ee u s).M=[] from c)];exact ⟨rfl,rfl⟩
theorem Zx (v:dG u s) (h0:0≤s.fresh) {g:Nat} (hg:g < s.cache.length) (T:List Nat):dG (sU u s g T) (aS s g).1:=by
 unfold dG;rw [(Hv h0 hg T).1,Sx.qc.2.2.1,Sx.qc.2.2.2];exact v.take g
theorem Zy (b:Nat) (h0:0≤s.fresh) {g:Nat} (hg:g < s.cache.length) (T:List Nat):wd b (sU u s g T) (aS s g).1=(wd b u s).set 10 (aP (tP u.pP s.cV.toNat s.bN.toNat (Po.take s.cV.toNat s.bN.toNat (ee u s) g).1) T):=by
 rw [← (Hv h0 hg T).1];unfold aS
 split
 ·split <;> rfl
 ·rfl
end
theorem Zz (b:Nat) (u:U) (s:ah) (v:dG u s) (h0:0≤s.fresh) {g:Nat} (hg:g < s.cache.length) :
  ax prog 156 [.c (.v u.pP),.c (nI g)] (wd b u s) (fun T:List Nat=>(.aZ [.c (nI (aS s g).2.1),.c (bI (aS s g).2.2)],wd b (sU u s g T) (aS s g).1)):=by
 rw [(Hv (u:=u) h0 hg []).2];exact ax.at_ 10 rfl (TE u.pP s.cV.toNat s.bN.toNat (ee u s) u.TP g v) fun T=>Zy b h0 hg T
theorem ZA (b:Nat) (u:U) (s:ah) (q:Int) :
  ax prog 110 [.c (.v u.pQ),.c (nI q)] (wd b u s) (fun _:Unit=>(.aZ [.c (nI (Qu.first (qW s) q).1),.c (bI (Qu.first (qW s) q).2)],wd b u s)) :=
 ax.at_ 9 rfl (Tz u.pQ s.aC.length (qW s) u.TQ q) fun _=>rfl
theorem OP (b:Nat) (u:U) (s:ah) (g:Nat) (q wn hn:Int) (l:List Int) (hg:g < s.gs.length) (Q:Qs s) (hr:Qu.row (qW s) q=l)
  (hq:∀ i r,l=i :: r→0≤i∧i < s.aC.length∧(0≤(su s i).cs∨∃ o,oP s g o i)) :
  ax prog 41 [.c (.v (pt b)),.c (nI g),.c (nI q),.c (nI wn),.c (nI hn)] (wd b u s) (fun _:Unit=>(.c (bI (rj s g l wn hn).2),wd b u (rj s g l wn hn).1)):=by
 haveI:Sx.bT g s:=⟨hg⟩
 have FR:=ZA b u s q;unfold Qu.first at FR
 rw [hr] at FR;refine ax.intro func41 rfl rfl rfl (fun ok e=>?_)
 cases l with
 | nil =>
  rw [if_pos rfl] at FR
  repeat (first | (refine K.call ?_;refine JO.ld (Ld.aV (FR) (qb rfl) rfl (by (exact aK.cons .refl (.cons .refl .nil)))) rfl ?_;intro _) | refine gn ?_)
  (exact J.iG func41 rfl (.cons (.tmp rfl) .nil) () (by exact .refl) rfl)
 | cons i r =>
 rw [if_neg (by simp)] at FR;simp only [List.headD_cons] at FR;obtain ⟨h0,h1,ho⟩:=hq i r rfl;haveI:Sx.gX i s:=⟨h0,h1⟩
 have e0:rj s g (i :: r) wn hn=(taken s g i wn hn,true):=rfl;rw [e0]
 by_cases c:0≤(su s i).cs
 ·have c1:(decide ((su s i).cs ≥ 0))=true:=decide_eq_true c;have er:taken s g i wn hn=bg (bg s g fun x=>{ x with hold:=i }) g fun x=>{ x with place:=wn }:=by unfold taken;exact if_pos c
  rw [er]
  repeat (first | (refine K.load ?_;((refine jq rfl rfl rfl (Qt.cE rfl (oL) (by exact rfl)) ?_))) | (refine K.store ?_;first | ((refine JO.ld (Ld.dK rfl rfl (by exact rfl) bX) rfl (fun _=>?_)));refine JO.eK b g (fun x=>{ x with hold:=i }) (by exact rfl) ?_ | ((refine JO.ld (Ld.dK rfl rfl (by exact rfl) bX) rfl (fun _=>?_)));refine JO.eK b g (fun x=>{ x with place:=wn }) (by exact rfl) ?_) | (refine K.indexAddr ?_;first | refine jq rfl rfl rfl (Qt.bM rfl rfl eB eD) ?_ | refine jq rfl rfl rfl (Qt.bM rfl rfl (nL (s:=s)) nM) ?_) | (refine K.call ?_;refine JO.ld (Ld.aV (FR) (qb rfl) rfl (by (exact aK.cons .refl (.cons .refl .nil)))) rfl ?_;intro _) | refine gn ?_)
  (exact J.iG func41 rfl (.cons (.tmp rfl) .nil) () (by exact .refl) rfl)
 ·obtain ⟨o,ho⟩:=ho.resolve_left c;have c1:(decide ((su s i).cs ≥ 0))=false:=decide_eq_false c;haveI:Sx.bT o s:=⟨ho.o1⟩
  haveI:mW o g:=⟨ho.ne⟩
  haveI:mW g o:=⟨Ne.symm ho.ne⟩
  have er:taken s g i wn hn=bg (Sx.pair (bq (bg (bg s g fun x=>{ x with hold:=i }) g fun x=>{ x with t:=s.step }) i) g i) g fun x=>{ x with place:=hn }:=by
   rw [kL hg];unfold taken;exact if_neg c
  obtain ⟨w,WD⟩:=GK b u (OM (g:=g) (f:=fun x=>{ x with t:=s.step }) (OM (g:=g) (f:=fun x=>{ x with hold:=i }) Q)) i;have CP:=NH b u (bq (bg (bg s g fun x=>{ x with hold:=i }) g fun x=>{ x with t:=s.step }) i) g o i Sx.bT.h Sx.bT.h ho.ne h0 Sx.gX.h1 (by rw [Sx.kK.h (s:=bq _ _) (i:=i)];exact ho.e);rw [er]
  repeat (first | (refine K.load ?_;((refine jq rfl rfl rfl (Qt.cE rfl (oL) (by exact rfl)) ?_))) | (refine K.store ?_;first | ((refine JO.ld (Ld.dK rfl rfl (by exact rfl) bX) rfl (fun _=>?_)));refine JO.eK b g (fun x=>{ x with hold:=i }) (by exact rfl) ?_ | ((refine JO.ld (Ld.dK rfl rfl (by exact rfl) bX) rfl (fun _=>?_)));refine JO.eK b g (fun x=>{ x with t:=s.step }) (by exact rfl) ?_ | ((refine JO.ld (Ld.dK rfl rfl (by exact rfl) bX) rfl (fun _=>?_)));refine JO.eK b g (fun x=>{ x with place:=hn }) (by exact rfl) ?_) | (refine K.indexAddr ?_;first | refine jq rfl rfl rfl (Qt.bM rfl rfl eB eD) ?_ | refine jq rfl rfl rfl (Qt.bM rfl rfl (nL (s:=s)) nM) ?_) | (refine K.call ?_;first | (refine JO.ld (Ld.aV (FR) (qb rfl) rfl (by (exact aK.cons .refl (.cons .refl .nil)))) rfl ?_;intro _) | (refine JO.ld (Ld.aV (WD) (qb rfl) rfl (by (exact aK.cons .refl (.cons .refl .nil)))) rfl ?_;intro _) | (refine JO.ld (Ld.aV (CP) (qb rfl) rfl (by (exact aK.cons .refl (.cons .refl (.cons .refl .nil))))) rfl ?_;intro _)) | refine gn ?_)
  (exact J.iG func41 rfl (.cons (.tmp rfl) .nil) () (by exact .refl) rfl)
theorem ZB (b:Nat) (u:U) (s:ah) (g o:Nat) (back on:Int) (hg:g < s.gs.length) (h:oP s g o (aa s g).hold) (Q:Qs s) :
  ax prog 103 [.c (.v (pt b)),.c (nI g),.c (nI back),.c (nI on)] (wd b u s) (fun _:Unit=>(.aZ [],wd b u (cQ s g back on))):=by
 haveI:Sx.bT g s:=⟨hg⟩
 haveI:Sx.bT o s:=⟨h.o1⟩
 haveI:mW o g:=⟨h.ne⟩
 haveI:mW g o:=⟨Ne.symm h.ne⟩
 haveI:Sx.gX (aa s g).hold s:=⟨h.h0,h.h1⟩
 have e0:=h.e;haveI:Sx.kK s (aa s g).hold { su s (aa s g).hold with g:=(o:Int) }:=⟨by rw [← e0]⟩
 refine ax.intro func103 rfl rfl rfl (fun ok e=>?_)
 cases hp:(aa s o).bz with
 | true =>
  haveI:Sx.dY s o { aa s o with bz:=true }:=⟨by rw [← hp]⟩
  have er:cQ s g back on=bg (bg (bq s (aa s g).hold) g fun x=>{ x with hold:=-1 }) g fun x=>{ x with place:=back }:=by
   rw [kL (Sx.bT.h)];have e2:aa (bq s (aa s g).hold) g=aa s g:=Sx.dY.h;unfold cQ bg;dsimp only;rw [e0,Int.toNat_natCast,if_pos hp,e2]
  obtain ⟨w,WD⟩:=GK b u Q (aa s g).hold;rw [er]
  repeat (first | (refine K.load ?_;((refine jq rfl rfl rfl (Qt.cE rfl (bX) (by exact rfl)) ?_))) | (refine K.indexAddr ?_;refine jq rfl rfl rfl (Qt.bM rfl rfl eB eD) ?_) | refine gn ?_)
  refine J.draw (by kernel_rfl) rfl ?_;refine JW.base none ?_;refine tk 0 ?_;refine tk 1 ?_;refine tk 2 ?_;refine tk 3 ?_;refine tk 4 ?_;refine tk 5 ?_;refine tk 6 ?_;refine tk 7 ?_;refine tk 8 ?_;refine JD.take 9 rfl rfl (by kernel_rfl) rfl (qb rfl) (Qt.bM rfl rfl (nL (s:=s)) nM) rfl ?_;refine tk 10 ?_;refine JD.take 11 rfl rfl (by kernel_rfl) rfl (qb rfl) (Qt.cE rfl oL rfl) rfl ?_;refine JD.take 12 rfl rfl (by kernel_rfl) rfl (qb rfl) (Qt.bM rfl rfl eB eD) rfl ?_;refine tk 13 ?_;refine bt ?_
  repeat (first | (refine K.load ?_;((refine jq rfl rfl rfl (Qt.cE rfl (bX) (by exact rfl)) ?_))) | (refine K.store ?_;first | ((refine JO.ld (Ld.dK rfl rfl (by exact rfl) bX) rfl (fun _=>?_)));refine JO.eK b g (fun x=>{ x with hold:=-1 }) (by exact rfl) ?_ | ((refine JO.ld (Ld.dK rfl rfl (by exact rfl) bX) rfl (fun _=>?_)));refine JO.eK b g (fun x=>{ x with place:=back }) (by exact rfl) ?_) | (refine K.call ?_;refine JO.ld (Ld.aV (WD) (qb rfl) rfl (by (exact aK.cons .refl (.cons .refl .nil)))) rfl ?_;intro _) | refine gn ?_)
  (exact J.iG func103 rfl .nil () (by exact .refl) rfl)
 | false =>
  haveI:Sx.dY s o { aa s o with bz:=false }:=⟨by rw [← hp]⟩
  have er:cQ s g back on=bg (Sx.pair (bg (bg s o fun x=>{ x with bz:=true }) g fun x=>{ x with t:=s.step }) g (aa s g).hold) g fun x=>{ x with place:=on }:=by
   have e2:aa (bg s o fun x=>{ x with bz:=true }) g=aa s g:=Sx.dY.h;unfold cQ;dsimp only;rw [e0,Int.toNat_natCast,if_neg (by rw [hp];simp),NG _ _ h.ne];unfold bg at e2 ⊢;rw [e2];rfl
  have CP:=NH b u (bg (bg s o fun x=>{ x with bz:=true }) g fun x=>{ x with t:=s.step }) g o (aa s g).hold Sx.bT.h Sx.bT.h h.ne h.h0 h.h1 h.e;rw [er]
  repeat (first | (refine K.load ?_;((refine jq rfl rfl rfl (Qt.cE rfl (bX) (by exact rfl)) ?_))) | (refine K.indexAddr ?_;refine jq rfl rfl rfl (Qt.bM rfl rfl eB eD) ?_) | refine gn ?_)
  refine J.draw (by kernel_rfl) rfl ?_;refine JW.base none ?_;refine tk 0 ?_;refine tk 1 ?_;refine tk 2 ?_;refine tk 3 ?_;refine tk 4 ?_;refine tk 5 ?_;refine tk 6 ?_;refine tk 7 ?_;refine tk 8 ?_;refine JD.take 9 rfl rfl (by kernel_rfl) rfl (qb rfl) (Qt.bM rfl rfl (nL (s:=s)) nM) rfl ?_;refine tk 10 ?_;refine JD.take 11 rfl rfl (by kernel_rfl) rfl (qb rfl) (Qt.cE rfl oL rfl) rfl ?_;refine JD.take 12 rfl rfl (by kernel_rfl) rfl (qb rfl) (Qt.bM rfl rfl eB eD) rfl ?_;refine tk 13 ?_;refine bt ?_
  repeat (first | (refine K.load ?_;((refine jq rfl rfl rfl (Qt.cE rfl (bX) (by exact rfl)) ?_))) | (refine K.store ?_;first | ((refine JO.ld (Ld.dK rfl rfl (by exact rfl) bX) rfl (fun _=>?_)));refine JO.eK b o (fun x=>{ x with bz:=true }) (by exact rfl) ?_ | ((refine JO.ld (Ld.dK rfl rfl (by exact rfl) bX) rfl (fun _=>?_)));refine JO.eK b g (fun x=>{ x with t:=s.step }) (by exact rfl) ?_ | ((refine JO.ld (Ld.dK rfl rfl (by exact rfl) bX) rfl (fun _=>?_)));refine JO.eK b g (fun x=>{ x with place:=on }) (by exact rfl) ?_) | (refine K.call ?_;refine JO.ld (Ld.aV (CP) (qb rfl) rfl (by (exact aK.cons .refl (.cons .refl (.cons .refl .nil))))) rfl ?_;intro _) | refine gn ?_)
  (exact J.lp func103 rfl .nil () (by exact .refl) rfl)
theorem ZC (b:Nat) (u:U) (s:ah) (g:Nat) (d:Su) (hg:g < s.gs.length) (hu:dG u s) (h0:0≤s.fresh) (hc:g < s.cache.length) (hs:(aS s g).2.2=true→0≤(aS s g).2.1∧(aS s g).2.1 < s.aC.length) :
  ax prog 106 [.c (.v (pt b)),.c (nI g),.agg (eS d)] (wd b u s) (fun x:{ u':U // dG u' (Sx.aH s g d) }=>(.aZ [],wd b x.1 (Sx.aH s g d))):=by
 haveI:Sx.bT g s:=⟨hg⟩
 have CT:=Zz b u s hu h0 hc;have hv:=fun T=>Zx (T:=T) hu h0 hc
 refine ax.intro func106 rfl rfl rfl (fun ok e=>?_);have eg:aa (aS s g).1 g=aa s g:=Sx.dY.h
 cases ho:(aS s g).2.2 with
 | true =>
  obtain ⟨i0,i1⟩:=hs ho;rw [ho] at CT;haveI:Sx.gX (aS s g).2.1 s:=⟨i0,i1⟩
  have er:Sx.aH s g d=bg (aR (bg (aS s g).1 g fun x=>{ x with aH:=(aS s g).2.1 }) (aS s g).2.1 d) g fun x=>{ x with place:=11 }:=by
   rw [show aR (bg (aS s g).1 g fun x=>{ x with aH:=(aS s g).2.1 }) (aS s g).2.1 d=bg (aR (aS s g).1 (aS s g).2.1 d) g fun x=>{ x with aH:=(aS s g).2.1 } from rfl,kL Sx.bT.h];unfold Sx.aH;rw [if_pos ho];unfold bg;rw [show aa (aR (aS s g).1 (aS s g).2.1 d) g=aa s g from eg]
  have jR:∀ T,dG (sU u s g T) (Sx.aH s g d):=fun T=>by rw [er];exact (hv T).to
  generalize Sx.aH s g d=s' at er jR ⊢;have HQ:((aS s g).2.1).toNat < ((aS s g).1.aC.map eS).length:=by rw [List.length_map,Sx.qc.2.1];omega
  repeat (first | (refine K.store ?_;((refine JO.ld (Ld.dK rfl rfl (by exact rfl) bX) rfl (fun _=>?_)));refine JO.eK b g (fun x=>{ x with aH:=(aS s g).2.1 }) (by exact rfl) ?_) | (refine K.indexAddr ?_;refine jq rfl rfl rfl (Qt.bM rfl rfl eB eD) ?_) | (refine K.call ?_;refine JO.ld (Ld.aV CT (qb rfl) rfl (.cons .refl (.cons .refl .nil))) rfl ?_;intro T) | refine av ?_ | intro _)
  refine J.draw (by kernel_rfl) rfl ?_;refine JW.base (some 7) ?_;refine tk 0 ?_;refine tk 1 ?_;refine tk 2 ?_;refine tk 3 ?_;refine tk 4 ?_;refine tk 5 ?_;refine JD.take 6 rfl rfl (by kernel_rfl) rfl (qb rfl) (Qt.bM rfl rfl (nL (s:=s)) (nM (s:=(aS s g).1))) rfl ?_;refine jt 7 rfl rfl (Ld.fZ rfl rfl rfl rfl HQ) (fun _=>?_);refine bS ?_;refine J.Al b (aS s g).2.1 d (by exact rfl) ?_
  repeat (first | (refine K.store ?_;((refine JO.ld (Ld.dK rfl rfl (by exact rfl) bX) rfl (fun _=>?_)));refine JO.eK b g (fun x=>{ x with place:=11 }) (by exact rfl) ?_) | refine gn ?_)
  subst er
  (exact J.BL [_] rfl func106 rfl .nil ⟨sU u s g T,jR T⟩ (by exact .refl) rfl)
 | false =>
  rw [ho] at CT;have er:Sx.aH s g d=bg (bg (aS s g).1 g fun x=>{ x with res:={ x.res with code:=6 } }) g fun x=>{ x with place:=16 }:=by
   rw [kL Sx.bT.h];unfold Sx.aH;rw [if_neg (by rw [ho];simp)];unfold bg;rw [eg]
  have jR:∀ T,dG (sU u s g T) (Sx.aH s g d):=fun T=>by rw [er];exact (hv T).to
  generalize Sx.aH s g d=s' at er jR ⊢
  repeat (first | (refine K.store ?_;first | ((refine JO.ld (Ld.dK rfl rfl (by exact rfl) bX) rfl (fun _=>?_)));refine JO.eK b g (fun x=>{ x with res:={ x.res with code:=6 } }) (by exact rfl) ?_ | ((refine JO.ld (Ld.dK rfl rfl (by exact rfl) bX) rfl (fun _=>?_)));refine JO.eK b g (fun x=>{ x with place:=16 }) (by exact rfl) ?_) | (refine K.indexAddr ?_;refine jq rfl rfl rfl (Qt.bM rfl rfl eB eD) ?_) | (refine K.call ?_;refine JO.ld (Ld.aV CT (qb rfl) rfl (.cons .refl (.cons .refl .nil))) rfl ?_;intro T) | refine av ?_ | intro _)
  subst er
  (exact J.iN [_] rfl func106 rfl .nil ⟨sU u s g T,jR T⟩ (by exact .refl) rfl)
end Fl
end Go.Proofs.YtofnbflkhgammaaGreat
