/-
  What the laws need, part L3.
  Conditions: none.
-/
import Derived.Test.YtdjhhbpedllnhaaGreatL2
import Derived.Test.YtdjhhbpedllnhaaGreatA39
set_option linter.unusedVariables false
set_option linter.unusedSimpArgs false
set_option linter.unnecessarySimpa false
set_option maxHeartbeats 2000000
namespace Go.Proofs.YtdjhhbpedllnhaaGreat
open Go.RowKit
namespace Fl
open Sx Go.Proofs.Tryz
set_option maxRecDepth 100000
section
variable {s s':ah} {g:Nat} {f:Gr→Gr} {x:Gr} {i:Int} {d:Su} {c:Int} {n:Cn}
instance dP.pair [h:dP s' s]:dP (Sx.pair s' g i) s:=⟨h.h⟩
instance dP.serve {b:Bool} [h:dP s' s]:dP (Sx.serve s' g i b) s:=⟨h.h⟩
end
section
variable {u:U} {s:ah}
end
end Fl
open Go.RowKit
namespace Sx
theorem pX {s:ah} {g:Nat}:(aQ s g).1.gs=s.gs∧(aQ s g).1.aB=s.aB∧(aQ s g).1.dh=s.dh∧(aQ s g).1.bP=s.bP:=by
 unfold aQ;split
 ·split <;> exact ⟨rfl,rfl,rfl,rfl⟩
 ·exact ⟨rfl,rfl,rfl,rfl⟩
instance bt.aQ {s:ah} {g k:Nat} [h:bt k s]:bt k (Sx.aQ s g).1:=⟨by rw [pX.1];exact h.h⟩
instance dD.aQ {s:ah} {g k:Nat} {x:Gr} [h:dD s k x]:dD (Sx.aQ s g).1 k x:=⟨by unfold aa;rw [pX.1];exact h.h⟩
instance gI.aQ {s:ah} {g:Nat} {i:Int} [h:gI i s]:gI i (Sx.aQ s g).1:=⟨h.h0,by rw [pX.2.1];exact h.h1⟩
instance bt.pair {s:ah} {g k:Nat} {i:Int} [h:bt k s]:bt k (Sx.pair s g i):=⟨by unfold Sx.pair;dsimp only;exact Gu (Gu h.h)⟩
def Dx (s:ah) (g:Nat) (l:List Int) (wn hd:Int):ah × Bool:=if l.length=0 then (s,false) else (taken s g (l.headD 0) wn hd,true)
end Sx
namespace Fl
open Sx Go.Proofs.Tryz
set_option maxRecDepth 100000
section
variable {u:U} {s:ah}
abbrev sY (u:U) (s:ah) (g:Nat) (T:List Nat):U:={ u with H:=(Po.take s.dh.toNat s.bP.toNat (ez u s) g).1.H,TP:=T }
theorem H8 (h0:0≤s.fresh) {g:Nat} (hg:g < s.cache.length) (T:List Nat):ez (sY u s g T) (aQ s g).1=(Po.take s.dh.toNat s.bP.toNat (ez u s) g).1∧(aQ s g).2=(Po.take s.dh.toNat s.bP.toNat (ez u s) g).2:=by
 have ht:=N3 (u:=u) hg;unfold sY Po.take aQ;rw [if_pos ht,Int.toNat_natCast]
 by_cases c:Po.own s.bP.toNat (s.cache.getD g []) s.middle=[]
 ·rw [if_pos c,if_pos (show Po.own s.bP.toNat ((ez u s).C.getD g []) (ez u s).M=[] from c)]
  by_cases c2:s.fresh < s.dh
  ·rw [if_pos c2,if_pos (show (ez u s).f < s.dh.toNat by show s.fresh.toNat < _;omega)];refine ⟨?_,?_⟩
   ·show Po.St.mk s.cache s.middle (s.fresh + 1).toNat _=Po.St.mk s.cache s.middle (s.fresh.toNat + 1) _;rw [show (s.fresh + 1).toNat=s.fresh.toNat + 1 by omega]
   ·show (s.fresh,true)=(((s.fresh.toNat:Nat):Int),true);rw [Int.toNat_of_nonneg h0]
  ·rw [if_neg c2,if_neg (show ¬ (ez u s).f < s.dh.toNat by show ¬ s.fresh.toNat < _;omega)];exact ⟨rfl,rfl⟩
 ·rw [if_neg c,if_neg (show ¬ Po.own s.bP.toNat ((ez u s).C.getD g []) (ez u s).M=[] from c)];exact ⟨rfl,rfl⟩
theorem aar (v:cA u s) (h0:0≤s.fresh) {g:Nat} (hg:g < s.cache.length) (T:List Nat):cA (sY u s g T) (aQ s g).1:=by
 unfold cA;rw [(H8 h0 hg T).1,Sx.pX.2.2.1,Sx.pX.2.2.2];exact v.take g
theorem aas (b:Nat) (h0:0≤s.fresh) {g:Nat} (hg:g < s.cache.length) (T:List Nat):wd b (sY u s g T) (aQ s g).1=(wd b u s).set 10 (aO (tP u.pP s.dh.toNat s.bP.toNat (Po.take s.dh.toNat s.bP.toNat (ez u s) g).1) T):=by
 rw [← (H8 h0 hg T).1];unfold aQ
 split
 ·split <;> rfl
 ·rfl
end
theorem aat (b:Nat) (u:U) (s:ah) (v:cA u s) (h0:0≤s.fresh) {g:Nat} (hg:g < s.cache.length) :
  av prog 148 [.c (.v u.pP),.c (nI g)] (wd b u s) (fun T:List Nat=>(.aZ [.c (nI (aQ s g).2.1),.c (bI (aQ s g).2.2)],wd b (sY u s g T) (aQ s g).1)):=by
 rw [(H8 (u:=u) h0 hg []).2];exact av.at_ 10 rfl (aaf u.pP s.dh.toNat s.bP.toNat (ez u s) u.TP g v) fun T=>aas b h0 hg T
theorem aau (b:Nat) (u:U) (s:ah) (q:Int) :
  av prog 121 [.c (.v u.pQ),.c (nI q)] (wd b u s) (fun _:Unit=>(.aZ [.c (nI (Qu.first (qW s) q).1),.c (bI (Qu.first (qW s) q).2)],wd b u s)) :=
 av.at_ 9 rfl (Fp u.pQ s.aB.length (qW s) u.TQ q) fun _=>rfl
theorem aav (b:Nat) (u:U) (s:ah) (g:Nat) (q wn hn:Int) (l:List Int) (hg:g < s.gs.length) (Q:Qs s) (hr:Qu.row (qW s) q=l)
  (hq:∀ i r,l=i :: r→0≤i∧i < s.aB.length∧(0≤(su s i).cs∨∃ o,jj s g o i)) :
  av prog 134 [.c (.v (pt b)),.c (nI g),.c (nI q),.c (nI wn),.c (nI hn)] (wd b u s) (fun _:Unit=>(.c (bI (Dx s g l wn hn).2),wd b u (Dx s g l wn hn).1)):=by
 haveI:Sx.bt g s:=⟨hg⟩
 have FR:=aau b u s q;unfold Qu.first at FR
 rw [hr] at FR;refine av.intro func134 rfl rfl rfl (fun ok e=>?_)
 cases l with
 | nil =>
  rw [if_pos rfl] at FR
  repeat (first | (refine K.call ?_;refine JO.ld (Ld.bw (FR) (qb rfl) rfl (by (exact aW.cons .refl (.cons .refl .nil)))) rfl ?_;intro _) | refine gn ?_)
  (exact J.gF func134 rfl (.cons (.tmp rfl) .nil) () (by exact .refl) rfl)
 | cons i r =>
 rw [if_neg (by simp)] at FR;simp only [List.headD_cons] at FR;obtain ⟨h0,h1,ho⟩:=hq i r rfl;haveI:Sx.gI i s:=⟨h0,h1⟩
 have e0:Dx s g (i :: r) wn hn=(taken s g i wn hn,true):=rfl;rw [e0]
 by_cases c:0≤(su s i).cs
 ·have c1:(decide ((su s i).cs ≥ 0))=true:=decide_eq_true c;have er:taken s g i wn hn=aS (aS s g fun x=>{ x with hold:=i }) g fun x=>{ x with place:=wn }:=by unfold taken;exact if_pos c
  rw [er]
  repeat (first | (refine K.load ?_;((refine jq rfl rfl rfl (Qt.bM rfl (jY) (by exact rfl)) ?_))) | (refine K.store ?_;first | ((refine JO.ld (Ld.bQ rfl rfl (by exact rfl) aP) rfl (fun _=>?_)));refine JO.bS b g (fun x=>{ x with hold:=i }) (by exact rfl) ?_ | ((refine JO.ld (Ld.bQ rfl rfl (by exact rfl) aP) rfl (fun _=>?_)));refine JO.bS b g (fun x=>{ x with place:=wn }) (by exact rfl) ?_) | (refine K.indexAddr ?_;first | refine jq rfl rfl rfl (Qt.aV rfl rfl cW cX) ?_ | refine jq rfl rfl rfl (Qt.aV rfl rfl (jH (s:=s)) jI) ?_) | (refine K.call ?_;refine JO.ld (Ld.bw (FR) (qb rfl) rfl (by (exact aW.cons .refl (.cons .refl .nil)))) rfl ?_;intro _) | refine gn ?_)
  (exact J.gF func134 rfl (.cons (.tmp rfl) .nil) () (by exact .refl) rfl)
 ·obtain ⟨o,ho⟩:=ho.resolve_left c;have c1:(decide ((su s i).cs ≥ 0))=false:=decide_eq_false c;haveI:Sx.bt o s:=⟨ho.o1⟩
  haveI:lQ o g:=⟨ho.ne⟩
  haveI:lQ g o:=⟨Ne.symm ho.ne⟩
  have er:taken s g i wn hn=aS (Sx.pair (aT (aS (aS s g fun x=>{ x with hold:=i }) g fun x=>{ x with t:=s.step }) i) g i) g fun x=>{ x with place:=hn }:=by
   rw [fJ hg];unfold taken;exact if_neg c
  obtain ⟨w,WD⟩:=Ak b u (xS (g:=g) (f:=fun x=>{ x with t:=s.step }) (xS (g:=g) (f:=fun x=>{ x with hold:=i }) Q)) i;have CP:=O3 b u (aT (aS (aS s g fun x=>{ x with hold:=i }) g fun x=>{ x with t:=s.step }) i) g o i Sx.bt.h Sx.bt.h ho.ne h0 Sx.gI.h1 (by rw [Sx.jX.h (s:=aT _ _) (i:=i)];exact ho.e);rw [er]
  repeat (first | (refine K.load ?_;((refine jq rfl rfl rfl (Qt.bM rfl (jY) (by exact rfl)) ?_))) | (refine K.store ?_;first | ((refine JO.ld (Ld.bQ rfl rfl (by exact rfl) aP) rfl (fun _=>?_)));refine JO.bS b g (fun x=>{ x with hold:=i }) (by exact rfl) ?_ | ((refine JO.ld (Ld.bQ rfl rfl (by exact rfl) aP) rfl (fun _=>?_)));refine JO.bS b g (fun x=>{ x with t:=s.step }) (by exact rfl) ?_ | ((refine JO.ld (Ld.bQ rfl rfl (by exact rfl) aP) rfl (fun _=>?_)));refine JO.bS b g (fun x=>{ x with place:=hn }) (by exact rfl) ?_) | (refine K.indexAddr ?_;first | refine jq rfl rfl rfl (Qt.aV rfl rfl cW cX) ?_ | refine jq rfl rfl rfl (Qt.aV rfl rfl (jH (s:=s)) jI) ?_) | (refine K.call ?_;first | (refine JO.ld (Ld.bw (FR) (qb rfl) rfl (by (exact aW.cons .refl (.cons .refl .nil)))) rfl ?_;intro _) | (refine JO.ld (Ld.bw (WD) (qb rfl) rfl (by (exact aW.cons .refl (.cons .refl .nil)))) rfl ?_;intro _) | (refine JO.ld (Ld.bw (CP) (qb rfl) rfl (by (exact aW.cons .refl (.cons .refl (.cons .refl .nil))))) rfl ?_;intro _)) | refine gn ?_)
  (exact J.gF func134 rfl (.cons (.tmp rfl) .nil) () (by exact .refl) rfl)
theorem aaw (b:Nat) (u:U) (s:ah) (g o:Nat) (back on:Int) (hg:g < s.gs.length) (h:jj s g o (aa s g).hold) (Q:Qs s) :
  av prog 81 [.c (.v (pt b)),.c (nI g),.c (nI back),.c (nI on)] (wd b u s) (fun _:Unit=>(.aZ [],wd b u (cU s g back on))):=by
 haveI:Sx.bt g s:=⟨hg⟩
 haveI:Sx.bt o s:=⟨h.o1⟩
 haveI:lQ o g:=⟨h.ne⟩
 haveI:lQ g o:=⟨Ne.symm h.ne⟩
 haveI:Sx.gI (aa s g).hold s:=⟨h.h0,h.h1⟩
 have e0:=h.e;haveI:Sx.jX s (aa s g).hold { su s (aa s g).hold with g:=(o:Int) }:=⟨by rw [← e0]⟩
 refine av.intro func81 rfl rfl rfl (fun ok e=>?_)
 cases hp:(aa s o).aU with
 | true =>
  haveI:Sx.dD s o { aa s o with aU:=true }:=⟨by rw [← hp]⟩
  have er:cU s g back on=aS (aS (aT s (aa s g).hold) g fun x=>{ x with hold:=-1 }) g fun x=>{ x with place:=back }:=by
   rw [fJ (Sx.bt.h)];have e2:aa (aT s (aa s g).hold) g=aa s g:=Sx.dD.h;unfold cU aS;dsimp only;rw [e0,Int.toNat_natCast,if_pos hp,e2]
  obtain ⟨w,WD⟩:=Ak b u Q (aa s g).hold;rw [er]
  repeat (first | (refine K.load ?_;((refine jq rfl rfl rfl (Qt.bM rfl (aP) (by exact rfl)) ?_))) | (refine K.indexAddr ?_;refine jq rfl rfl rfl (Qt.aV rfl rfl cW cX) ?_) | refine gn ?_)
  refine J.draw (by kernel_rfl) rfl ?_;refine JW.base none ?_;refine tk 0 ?_;refine tk 1 ?_;refine tk 2 ?_;refine tk 3 ?_;refine tk 4 ?_;refine tk 5 ?_;refine tk 6 ?_;refine tk 7 ?_;refine tk 8 ?_;refine JD.take 9 rfl rfl (by kernel_rfl) rfl (qb rfl) (Qt.aV rfl rfl (jH (s:=s)) jI) rfl ?_;refine tk 10 ?_;refine JD.take 11 rfl rfl (by kernel_rfl) rfl (qb rfl) (Qt.bM rfl jY rfl) rfl ?_;refine JD.take 12 rfl rfl (by kernel_rfl) rfl (qb rfl) (Qt.aV rfl rfl cW cX) rfl ?_;refine tk 13 ?_;refine bX ?_
  repeat (first | (refine K.load ?_;((refine jq rfl rfl rfl (Qt.bM rfl (aP) (by exact rfl)) ?_))) | (refine K.store ?_;first | ((refine JO.ld (Ld.bQ rfl rfl (by exact rfl) aP) rfl (fun _=>?_)));refine JO.bS b g (fun x=>{ x with hold:=-1 }) (by exact rfl) ?_ | ((refine JO.ld (Ld.bQ rfl rfl (by exact rfl) aP) rfl (fun _=>?_)));refine JO.bS b g (fun x=>{ x with place:=back }) (by exact rfl) ?_) | (refine K.call ?_;refine JO.ld (Ld.bw (WD) (qb rfl) rfl (by (exact aW.cons .refl (.cons .refl .nil)))) rfl ?_;intro _) | refine gn ?_)
  (exact J.gF func81 rfl .nil () (by exact .refl) rfl)
 | false =>
  haveI:Sx.dD s o { aa s o with aU:=false }:=⟨by rw [← hp]⟩
  have er:cU s g back on=aS (Sx.pair (aS (aS s o fun x=>{ x with aU:=true }) g fun x=>{ x with t:=s.step }) g (aa s g).hold) g fun x=>{ x with place:=on }:=by
   have e2:aa (aS s o fun x=>{ x with aU:=true }) g=aa s g:=Sx.dD.h;unfold cU;dsimp only;rw [e0,Int.toNat_natCast,if_neg (by rw [hp];simp),O2 _ _ h.ne];unfold aS at e2 ⊢;rw [e2];rfl
  have CP:=O3 b u (aS (aS s o fun x=>{ x with aU:=true }) g fun x=>{ x with t:=s.step }) g o (aa s g).hold Sx.bt.h Sx.bt.h h.ne h.h0 h.h1 h.e;rw [er]
  repeat (first | (refine K.load ?_;((refine jq rfl rfl rfl (Qt.bM rfl (aP) (by exact rfl)) ?_))) | (refine K.indexAddr ?_;refine jq rfl rfl rfl (Qt.aV rfl rfl cW cX) ?_) | refine gn ?_)
  refine J.draw (by kernel_rfl) rfl ?_;refine JW.base none ?_;refine tk 0 ?_;refine tk 1 ?_;refine tk 2 ?_;refine tk 3 ?_;refine tk 4 ?_;refine tk 5 ?_;refine tk 6 ?_;refine tk 7 ?_;refine tk 8 ?_;refine JD.take 9 rfl rfl (by kernel_rfl) rfl (qb rfl) (Qt.aV rfl rfl (jH (s:=s)) jI) rfl ?_;refine tk 10 ?_;refine JD.take 11 rfl rfl (by kernel_rfl) rfl (qb rfl) (Qt.bM rfl jY rfl) rfl ?_;refine JD.take 12 rfl rfl (by kernel_rfl) rfl (qb rfl) (Qt.aV rfl rfl cW cX) rfl ?_;refine tk 13 ?_;refine bX ?_
  repeat (first | (refine K.load ?_;((refine jq rfl rfl rfl (Qt.bM rfl (aP) (by exact rfl)) ?_))) | (refine K.store ?_;first | ((refine JO.ld (Ld.bQ rfl rfl (by exact rfl) aP) rfl (fun _=>?_)));refine JO.bS b o (fun x=>{ x with aU:=true }) (by exact rfl) ?_ | ((refine JO.ld (Ld.bQ rfl rfl (by exact rfl) aP) rfl (fun _=>?_)));refine JO.bS b g (fun x=>{ x with t:=s.step }) (by exact rfl) ?_ | ((refine JO.ld (Ld.bQ rfl rfl (by exact rfl) aP) rfl (fun _=>?_)));refine JO.bS b g (fun x=>{ x with place:=on }) (by exact rfl) ?_) | (refine K.call ?_;refine JO.ld (Ld.bw (CP) (qb rfl) rfl (by (exact aW.cons .refl (.cons .refl (.cons .refl .nil))))) rfl ?_;intro _) | refine gn ?_)
  (exact J.ij func81 rfl .nil () (by exact .refl) rfl)
theorem aax (b:Nat) (u:U) (s:ah) (g:Nat) (d:Su) (hg:g < s.gs.length) (hu:cA u s) (h0:0≤s.fresh) (hc:g < s.cache.length) (hs:(aQ s g).2.2=true→0≤(aQ s g).2.1∧(aQ s g).2.1 < s.aB.length) :
  av prog 139 [.c (.v (pt b)),.c (nI g),.agg (eS d)] (wd b u s) (fun x:{ u':U // cA u' (Sx.aI s g d) }=>(.aZ [],wd b x.1 (Sx.aI s g d))):=by
 haveI:Sx.bt g s:=⟨hg⟩
 have CT:=aat b u s hu h0 hc;have hv:=fun T=>aar (T:=T) hu h0 hc
 refine av.intro func139 rfl rfl rfl (fun ok e=>?_);have eg:aa (aQ s g).1 g=aa s g:=Sx.dD.h
 cases ho:(aQ s g).2.2 with
 | true =>
  obtain ⟨i0,i1⟩:=hs ho;rw [ho] at CT;haveI:Sx.gI (aQ s g).2.1 s:=⟨i0,i1⟩
  have er:Sx.aI s g d=aS (aN (aS (aQ s g).1 g fun x=>{ x with aI:=(aQ s g).2.1 }) (aQ s g).2.1 d) g fun x=>{ x with place:=11 }:=by
   rw [show aN (aS (aQ s g).1 g fun x=>{ x with aI:=(aQ s g).2.1 }) (aQ s g).2.1 d=aS (aN (aQ s g).1 (aQ s g).2.1 d) g fun x=>{ x with aI:=(aQ s g).2.1 } from rfl,fJ Sx.bt.h];unfold Sx.aI;rw [if_pos ho];unfold aS;rw [show aa (aN (aQ s g).1 (aQ s g).2.1 d) g=aa s g from eg]
  have eI:∀ T,cA (sY u s g T) (Sx.aI s g d):=fun T=>by rw [er];exact (hv T).to
  generalize Sx.aI s g d=s' at er eI ⊢;have HQ:((aQ s g).2.1).toNat < ((aQ s g).1.aB.map eS).length:=by rw [List.length_map,Sx.pX.2.1];omega
  repeat (first | (refine K.store ?_;((refine JO.ld (Ld.bQ rfl rfl (by exact rfl) aP) rfl (fun _=>?_)));refine JO.bS b g (fun x=>{ x with aI:=(aQ s g).2.1 }) (by exact rfl) ?_) | (refine K.indexAddr ?_;refine jq rfl rfl rfl (Qt.aV rfl rfl cW cX) ?_) | (refine K.call ?_;refine JO.ld (Ld.bw CT (qb rfl) rfl (.cons .refl (.cons .refl .nil))) rfl ?_;intro T) | refine ay ?_ | intro _)
  refine J.draw (by kernel_rfl) rfl ?_;refine JW.base (some 7) ?_;refine tk 0 ?_;refine tk 1 ?_;refine tk 2 ?_;refine tk 3 ?_;refine tk 4 ?_;refine tk 5 ?_;refine JD.take 6 rfl rfl (by kernel_rfl) rfl (qb rfl) (Qt.aV rfl rfl (jH (s:=s)) (jI (s:=(aQ s g).1))) rfl ?_;refine jt 7 rfl rfl (Ld.gz rfl rfl rfl rfl HQ) (fun _=>?_);refine cu ?_;refine J.Cz b (aQ s g).2.1 d (by exact rfl) ?_
  repeat (first | (refine K.store ?_;((refine JO.ld (Ld.bQ rfl rfl (by exact rfl) aP) rfl (fun _=>?_)));refine JO.bS b g (fun x=>{ x with place:=11 }) (by exact rfl) ?_) | refine gn ?_)
  subst er
  (exact J.ux [_] rfl func139 rfl .nil ⟨sY u s g T,eI T⟩ (by exact .refl) rfl)
 | false =>
  rw [ho] at CT;have er:Sx.aI s g d=aS (aS (aQ s g).1 g fun x=>{ x with res:={ x.res with code:=6 } }) g fun x=>{ x with place:=16 }:=by
   rw [fJ Sx.bt.h];unfold Sx.aI;rw [if_neg (by rw [ho];simp)];unfold aS;rw [eg]
  have eI:∀ T,cA (sY u s g T) (Sx.aI s g d):=fun T=>by rw [er];exact (hv T).to
  generalize Sx.aI s g d=s' at er eI ⊢
  repeat (first | (refine K.store ?_;first | ((refine JO.ld (Ld.bQ rfl rfl (by exact rfl) aP) rfl (fun _=>?_)));refine JO.bS b g (fun x=>{ x with res:={ x.res with code:=6 } }) (by exact rfl) ?_ | ((refine JO.ld (Ld.bQ rfl rfl (by exact rfl) aP) rfl (fun _=>?_)));refine JO.bS b g (fun x=>{ x with place:=16 }) (by exact rfl) ?_) | (refine K.indexAddr ?_;refine jq rfl rfl rfl (Qt.aV rfl rfl cW cX) ?_) | (refine K.call ?_;refine JO.ld (Ld.bw CT (qb rfl) rfl (.cons .refl (.cons .refl .nil))) rfl ?_;intro T) | refine ay ?_ | intro _)
  subst er
  (exact J.jR [_] rfl func139 rfl .nil ⟨sY u s g T,eI T⟩ (by exact .refl) rfl)
end Fl
open Go.RowKit
namespace Fl
open Sx Go.Proofs.Tryz
set_option maxRecDepth 100000
theorem aay {s:ah} {k:Nat} (hk:k < s.au.length):aA s ((k:Int) + 1) (cn s ((k:Int) + 1))=s:=by
 unfold aA;rw [show ((k:Int) + 1 - 1).toNat=k by omega,qT (lH hk)]
theorem O4 (b:Nat) (u:U) (s:ah) {k:Nat} (hk:k < s.au.length) (h0:0≤(cn s ((k:Int) + 1)).cap) :
  av prog 59 [.c (.v (u.rs k))] (wd b u s) (fun _:Unit=>(.c (nI (cn s ((k:Int) + 1)).cap),wd b u s)):=by
 have RR:=Kw (kW u s) u.TR (vl (u:=u) hk);rw [show (((cn s ((k:Int) + 1)).cap.toNat:Nat):Int)=(cn s ((k:Int) + 1)).cap by omega] at RR;exact av.at_ 11 rfl RR fun _=>rfl
section
variable {P:Program} {c:Cx} {k:List Item} {f:Fm} {L:List an} {t b:Nat} {B:TypeId} {cs:List A}
theorem St.aaz {a:Act} {w:World} (s:St c ((t,.c (.v (.pointer (some ⟨b,0,none⟩)))) :: f) (.box b B cs :: L) a w):St c ((t,.el cs 0) :: f) L a w:=by
 have m:Mon (bF c (.box b B cs :: L)) (bF c L) w w:=⟨Nat.le_refl _,fun g _ ho=>⟨⟨ho.1,fun hx=>ho.2 ((jo _ _ _).2 (.inr hx))⟩,rfl⟩⟩
 have ap:=List.pairwise_cons.1 s.ap;refine ⟨s.kp,s.size,s.j5,fun q hq=>(s.res q (List.mem_cons_of_mem _ hq)).cY (aq.refl [] w) m (by simp),fun x hx=>s.fL x ((jo _ _ _).2 (.inr hx)),ap.2,fun u e' hu=>?_⟩
 by_cases e1:t=u
 ·subst e1;rw [qg] at hu;cases hu;have hv:=s.fr t _ (qg _ _ _);obtain ⟨vs,r1,r2⟩:=s.res _ (List.mem_cons_self ..);unfold RD RA at hv;rw [hv.1];unfold RD;have hb:b∈(an.box b B cs).bT:=by simp [an.bT]
  refine ⟨b,0,vs,rfl,⟨.inr (s.fL b ((jo _ _ _).2 (.inl hb))),fun hx=>?_⟩,r1.lt,r1.range,RC.cY m _ _ r2⟩;obtain ⟨q,hq,l9⟩:=dz.1 hx;exact ap.1 q hq b hb l9
 ·rw [uF e1] at hu;exact RD.cY m e' _ (s.fr u e' (by rw [uF e1];exact hu))
theorem J.aaA (t:Nat) (h1:look f t=some (.c (.v (.pointer (some ⟨b,0,none⟩))))) (h:J P c k ((t,.el cs 0) :: f) L):J P c k f (.box b B cs :: L):=⟨fun a w s=>by
 have s1:St c ((t,.c (.v (.pointer (some ⟨b,0,none⟩)))) :: f) (.box b B cs :: L) a w:=by
  refine ⟨s.kp,s.size,s.j5,s.res,s.fL,s.ap,fun u d hu=>?_⟩
  by_cases e1:t=u
  ·subst e1;rw [qg] at hu;cases hu;exact s.fr t _ h1
  ·rw [uF e1] at hu;exact s.fr u d hu
 exact h.go a w s1.aaz⟩
end
def vX:D→D
 | .ow v sz k o=>.ow v sz k o
 | d=>stays d
theorem vX.rep {d:D} {ok gy:Nat→Prop} {w w':World} {x:Value} (h:RD ok w d x):RD gy w' (vX d) x:=by
 unfold vX
 split
 ·unfold RD at h ⊢;exact h
 ·exact stays.rep h
section
variable {P:Program} {c:Cx} {k:List Item} {f f0:Fm} {L L0:List an} {ops:Array Oper} {o:Oper} {m:Option Nat} {n:Nat} {aM:Array Bool}
theorem JS.ldB {S:List Nat} {i t:Nat} {ι:Type} {g:ι→D} {L':ι→List an} (hi:ops[i]?=some o) (hd:o.dst=some t) (hw:ee ops o f=true) (ht:t < c.N) (q:Ld P c o f L S (fun x=>(t,g x) :: f) L') (hS:ku S L)
  (h:∀ x,JD P c ops m (uy L0) n (aM.setIfInBounds i true) k ((t,g x) :: f) (L' x) ((t,vX (g x)) :: f0) L0):JS P c ops m (uy L0) n aM k f L f0 L0 i:=⟨fun a w w0 s s0 kp ho=>by
 refine wpOp_step hi (fun K hK=>?_);rw [ee.run hw s,if_pos rfl];refine q.go a w s K _ fun x v w' qo sx hf=>?_
 have oU:aq (jM L0 (uy L0)) w0 w':=kp.trans qo fun x hx=>by
  rcases ho x (hS x hx) with h | h
  ·exact .inl (OZ h)
  ·exact .inr h
 refine hK _ _ (.inr ⟨oU,(h x).go _ w' w0 sx ?_ oU ?_⟩)
 ·rw [hd];exact s0.lX ht (vX.rep (by
   have h1:=sx.fr t (g x) (qg _ _ _);have h2:=s.size;rw [hd] at h1;simpa [Act.put,Array.getD_eq_getD_getElem?,Array.getElem?_setIfInBounds,h2,ht] using h1))
 ·intro y hy;rcases hf y hy with h1 | h1
  ·exact ho y h1
  ·exact .inr (Nat.le_trans kp.size h1)⟩
theorem JS.qB {T:List Nat} {i t:Nat} {d:D} {U:List Nat} (hi:ops[i]?=some o) (hd:o.dst=some t) (hw:ee ops o f=true) (ht:t < c.N) (q:Qt P c U o f L d)
  (h:JD P c ops m T n (aM.setIfInBounds i true) k ((t,d) :: f) L ((t,vX d) :: f0) L0):JS P c ops m T n aM k f L f0 L0 i:=⟨fun a w w0 s s0 kp ho=>by
 obtain ⟨v,h1,h2⟩:=q.go a w s;refine wpOp_step hi (fun K hK=>?_);rw [ee.run hw s,if_pos rfl];simp only [Oper.wp,h2 w (rD.now _ _ _),Oper.upon];exact hK _ _ (.inr ⟨kp,h.go _ w w0 (by rw [hd];exact s.lX ht h1) (by rw [hd];exact s0.lX ht (vX.rep h1)) kp ho⟩)⟩
end
abbrev sdr (b g:Nat) (o:Pn.Op):List A:=.v (pt b) :: nI g :: eL o
theorem Dy {u:U} {s:ah} {k:Nat} (hk:k < s.au.length):((List.range s.au.length).map fun i=>[A.v (u.rs i)])[((k:Int)).toNat]?=some [.v (u.rs k)]:=by
 rw [Int.toNat_natCast,List.getElem?_map,List.getElem?_range hk];rfl
structure vY (s:ah) (o:Pn.Op) (k:Nat):Prop where
 e:o.ch=(k:Int) + 1
 k1:k < s.au.length
 k8:k < 8
 c0:0≤(cn s ((k:Int) + 1)).cap
 bl:((cn s ((k:Int) + 1)).buf.length:Int)≤(cn s ((k:Int) + 1)).cap
end Fl
open Go.RowKit
namespace Sx
instance bt.serve {s:ah} {g k:Nat} {i:Int} {d:Bool} [h:bt k s]:bt k (Sx.serve s g i d):=⟨by rw [Oj];exact h.h⟩
end Sx
namespace Fl
open Sx Go.Proofs.Tryz
set_option maxRecDepth 100000
structure acK (s:ah) (g:Nat):Prop where
 cp:xO s g
 qs:Qs s
 wk:(aa s g).ak.length≤1000
 ch:(ag s g).kind=2∨(ag s g).kind=4→(aa s g).place≠0→(aa s g).place≠18→(aa s g).place≠19→∃ k,vY s (ag s g) k
 l6:(ag s g).kind=2∨(ag s g).kind=4→(aa s g).place=6→∀ i r,(cn s (ag s g).ch).recv=i :: r→0≤i∧i < s.aB.length∧(0≤(su s i).cs∨∃ o,jj s g o i)
 l7:(ag s g).kind=2∨(ag s g).kind=4→(aa s g).place=7∨(aa s g).place=8→∃ o,jj s g o (aa s g).hold
 xH:(aa s g).place=10→g < s.cache.length∧((aQ s g).2.2=true→0≤(aQ s g).2.1∧(aQ s g).2.1 < s.aB.length)
 O5:(ag s g).kind=2∨(ag s g).kind=4→(aa s g).place=11→0≤(aa s g).aI∧(aa s g).aI < s.aB.length∧∀ c,(aa s g).aI∉(cn s c).recv∧(aa s g).aI∉(cn s c).send
 uj:(ag s g).kind=2∨(ag s g).kind=4→(aa s g).place=14→0≤(aa s g).param∧(aa s g).param < s.aB.length
end Fl
open Go.RowKit
namespace Fl
open Sx Go.Proofs.Tryz
set_option maxRecDepth 100000
theorem O6 {s:ah} {g:Nat} (h:Sx.MInv s) (hg:g < s.gs.length) (hn:∀ i j,¬ Sx.dI (aa s g) i j) {c i:Int} (c0:1≤c) (c1:c≤s.au.length) (hi:i∈(cn s c).recv∨i∈(cn s c).send):(∃ o,jj s g o i)∧-1≤(su s i).cs:=by
 have q:=Sx.Inv.q h.v c c0 c1 i hi;have sI:=Sx.Inv.su h.v i q.1 q.2.1;obtain ⟨q1,q2,q3,q4,q5,q6,q7,q8,q9⟩:=q;refine ⟨⟨(su s i).g.toNat,q1,q2,by omega,by omega,fun e=>?_⟩,sI.2.2.1⟩;have e2:(su s i).g=(g:Int):=by omega
 rw [e2] at q9;exact hn _ _ q9
theorem bU {s:ah} {g:Nat} (h:Sx.Good s) (hg:g < s.gs.length) (e:(aa s g).place≠0∧(aa s g).place≠18∧(aa s g).place≠19) (k:2≤(ag s g).kind∧(ag s g).kind≤6):∃ k,vY s (ag s g) k:=by
 have h':=h.toMInv;have m:=h'.kn hg e k;have c8:=h.c8;have c4:=h'.g9 (c:=(ag s g).ch) m.1 m.2;refine ⟨((ag s g).ch - 1).toNat,by omega,by omega,by omega,?_,?_⟩
 all_goals
  rw [show ((((ag s g).ch - 1).toNat:Nat):Int) + 1=(ag s g).ch by omega];omega
theorem aaC {s:ah} {g:Nat} (h:Sx.MInv s) (hg:g < s.gs.length) (hn:∀ i j,¬ Sx.dI (aa s g) i j) (e:(aa s g).place=7∨(aa s g).place=8):∃ o,jj s g o (aa s g).hold:=by
 rcases e with e | e
 ·have w:=Sx.Inv.cU h.v (g:Int) (by omega) (by omega) (.inl e);exact (O6 h hg hn w.1 w.2.1 w.2.2.2.1).1
 ·have hd:=(h.loc hg).hd (by omega);have w:=Sx.Inv.cl h.v (g:Int) (by omega) (by omega) (.inl e);obtain ⟨w1,w2,w3,w4,w5,w6,w7⟩:=w;have e0:(su s (aa s g).hold).g≠(g:Int):=w6;have e1:0≤(su s (aa s g).hold).g:=w4;have e2:(su s (aa s g).hold).g < s.gs.length:=w5;exact ⟨(su s (aa s g).hold).g.toNat,hd.1,hd.2,by omega,by omega,fun e=>by omega⟩
theorem aaD {s:ah} {g:Nat} (h:Sx.MInv s) (hg:g < s.gs.length) (k:(ag s g).kind=2∨(ag s g).kind=3) (e:(aa s g).place=11):0≤(aa s g).aI∧(aa s g).aI < s.aB.length∧∀ c,(aa s g).aI∉(cn s c).recv∧(aa s g).aI∉(cn s c).send:=by
 have L:=h.loc hg;have m:=L.mi k (by omega) (by omega);have w:=Sx.Inv.own h.v (g:Int) (by omega) (by omega) (aa s g).aI ⟨m.1,.inl ⟨k,(by show 11≤(aa s g).place;omega),(by show (aa s g).place≤15;omega),rfl⟩⟩;have no:∀ c,1≤c→c≤(s.au.length:Int)→¬ ((aa s g).aI∈(cn s c).recv∨(aa s g).aI∈(cn s c).send):=fun c c0 c1 hi=>by
  have q:=(Sx.Inv.q h.v c c0 c1 _ hi).2.2.2.2.2.2.2.2;have e2:(su s (aa s g).aI).g=(g:Int):=w.2.2.1;rw [e2] at q;have q':Sx.dI (aa s g) (aa s g).aI (su s (aa s g).aI).cs:=q;have kk:(aH (aa s g)).kind=2∨(aH (aa s g)).kind=3:=k;unfold Sx.dI Sx.SR SE at q';rcases q' with ⟨_,a,_⟩ | ⟨a,_⟩ <;> omega
 refine ⟨m.1,m.2,fun c=>?_⟩;rcases G6 s c with ⟨c',a,b,e1⟩ | e1
 ·rw [e1];exact ⟨fun hi=>no c' a b (.inl hi),fun hi=>no c' a b (.inr hi)⟩
 ·rw [e1];simp [rP]
end Fl
end Go.Proofs.YtdjhhbpedllnhaaGreat
