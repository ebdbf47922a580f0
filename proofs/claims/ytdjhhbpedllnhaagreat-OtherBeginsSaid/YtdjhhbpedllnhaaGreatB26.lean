/-
  What the laws need, part B26.
  Conditions: none.
-/
import Derived.Test.YtdjhhbpedllnhaaGreatB24
set_option linter.unusedVariables false
set_option linter.unusedSimpArgs false
set_option linter.unnecessarySimpa false
set_option maxHeartbeats 2000000
namespace Go.Proofs.YtdjhhbpedllnhaaGreat
open Go.RowKit
namespace Sx
theorem qp {s:ah} {g:Nat}:(bn s g).1.gs=s.gs∧(bn s g).1.aA=s.aA∧(bn s g).1.dx=s.dx∧(bn s g).1.bX=s.bX:=by
 unfold bn;split
 ·split <;> exact ⟨rfl,rfl,rfl,rfl⟩
 ·exact ⟨rfl,rfl,rfl,rfl⟩
instance bJ.bn {s:ah} {g k:Nat} [h:bJ k s]:bJ k (Sx.bn s g).1:=⟨by rw [qp.1];exact h.h⟩
instance dB.bn {s:ah} {g k:Nat} {x:Gr} [h:dB s k x]:dB (Sx.bn s g).1 k x:=⟨by unfold aa;rw [qp.1];exact h.h⟩
instance bJ.pair {s:ah} {g k:Nat} {i:Int} [h:bJ k s]:bJ k (Sx.pair s g i):=⟨by unfold Sx.pair;dsimp only;exact EV (EV h.h)⟩
def zK (s:ah) (g:Nat) (l:List Int) (wn hd:Int):ah × Bool:=if l.length=0 then (s,false) else (taken s g (l.headD 0) wn hd,true)
end Sx
namespace Fl
open Sx Go.Proofs.Tryz
set_option maxRecDepth 100000
section
variable {u:U} {s:ah}
abbrev lP (u:U) (s:ah) (g:Nat) (T:List Nat):U:={ u with H:=(Po.take s.dx.toNat s.bX.toNat (dV u s) g).1.H,TP:=T }
theorem FT (h0:0≤s.fresh) {g:Nat} (hg:g < s.cache.length) (T:List Nat):dV (lP u s g T) (bn s g).1=(Po.take s.dx.toNat s.bX.toNat (dV u s) g).1∧(bn s g).2=(Po.take s.dx.toNat s.bX.toNat (dV u s) g).2:=by
 have ht:=Le (u:=u) hg;unfold lP Po.take bn;rw [if_pos ht,Int.toNat_natCast]
 by_cases c:Po.own s.bX.toNat (s.cache.getD g []) s.middle=[]
 ·rw [if_pos c,if_pos (show Po.own s.bX.toNat ((dV u s).C.getD g []) (dV u s).M=[] from c)]
  by_cases c2:s.fresh < s.dx
  ·rw [if_pos c2,if_pos (show (dV u s).f < s.dx.toNat by show s.fresh.toNat < _;omega)];refine ⟨?_,?_⟩
   ·show Po.St.mk s.cache s.middle (s.fresh + 1).toNat _=Po.St.mk s.cache s.middle (s.fresh.toNat + 1) _;rw [show (s.fresh + 1).toNat=s.fresh.toNat + 1 by omega]
   ·show (s.fresh,true)=(((s.fresh.toNat:Nat):Int),true);rw [Int.toNat_of_nonneg h0]
  ·rw [if_neg c2,if_neg (show ¬ (dV u s).f < s.dx.toNat by show ¬ s.fresh.toNat < _;omega)];exact ⟨rfl,rfl⟩
 ·rw [if_neg c,if_neg (show ¬ Po.own s.bX.toNat ((dV u s).C.getD g []) (dV u s).M=[] from c)];exact ⟨rfl,rfl⟩
theorem Vd (v:bY u s) (h0:0≤s.fresh) {g:Nat} (hg:g < s.cache.length) (T:List Nat):bY (lP u s g T) (bn s g).1:=by
 unfold bY;rw [(FT h0 hg T).1,Sx.qp.2.2.1,Sx.qp.2.2.2];exact v.take g
theorem Ve (b:Nat) (h0:0≤s.fresh) {g:Nat} (hg:g < s.cache.length) (T:List Nat):wd b (lP u s g T) (bn s g).1=(wd b u s).set 10 (aM (tP u.pP s.dx.toNat s.bX.toNat (Po.take s.dx.toNat s.bX.toNat (dV u s) g).1) T):=by
 rw [← (FT h0 hg T).1];unfold bn
 split
 ·split <;> rfl
 ·rfl
end
theorem Vf (b:Nat) (u:U) (s:ah) (v:bY u s) (h0:0≤s.fresh) {g:Nat} (hg:g < s.cache.length) :
  an prog 148 [.c (.v u.pP),.c (nI g)] (wd b u s) (fun T:List Nat=>(.bp [.c (nI (bn s g).2.1),.c (bI (bn s g).2.2)],wd b (lP u s g T) (bn s g).1)):=by
 rw [(FT (u:=u) h0 hg []).2];exact an.at_ 10 rfl (O7 u.pP s.dx.toNat s.bX.toNat (dV u s) u.TP g hg v) fun T=>Ve b h0 hg T
theorem Vg (b:Nat) (u:U) (s:ah) (q:Int) :
  an prog 121 [.c (.v u.pQ),.c (nI q)] (wd b u s) (fun _:Unit=>(.bp [.c (nI (Qu.first (qW s) q).1),.c (bI (Qu.first (qW s) q).2)],wd b u s)) :=
 an.at_ 9 rfl (Ol u.pQ s.aA.length (qW s) u.TQ q) fun _=>rfl
theorem Ly (b:Nat) (u:U) (s:ah) (g:Nat) (q wn hn:Int) (l:List Int) (hg:g < s.gs.length) (Q:Qs s) (hr:Qu.row (qW s) q=l)
  (hq:∀ i r,l=i :: r→0≤i∧i < s.aA.length∧(0≤(su s i).cs∨∃ o,oz s g o i)) :
  an prog 134 [.c (.v (pt b)),.c (nI g),.c (nI q),.c (nI wn),.c (nI hn)] (wd b u s) (fun _:Unit=>(.c (bI (zK s g l wn hn).2),wd b u (zK s g l wn hn).1)):=by
 haveI:Sx.bJ g s:=⟨hg⟩
 have FR:=Vg b u s q;unfold Qu.first at FR
 rw [hr] at FR;refine an.intro func134 rfl rfl rfl (fun ok e=>?_)
 cases l with
 | nil =>
  rw [if_pos rfl] at FR
  repeat (first | (refine K.call ?_;refine JO.ld (Ld.aY (FR) (qb rfl) rfl (by (exact aJ.cons .refl (.cons .refl .nil)))) rfl ?_;intro _) | refine gn ?_)
  (exact J.bN func134 rfl (.cons (.tmp rfl) .nil) () (by exact .refl) rfl)
 | cons i r =>
 rw [if_neg (by simp)] at FR;simp only [List.headD_cons] at FR;obtain ⟨h0,h1,ho⟩:=hq i r rfl;haveI:Sx.gQ i s:=⟨h0,h1⟩
 have e0:zK s g (i :: r) wn hn=(taken s g i wn hn,true):=rfl;rw [e0]
 by_cases c:0≤(su s i).cs
 ·have c1:(decide ((su s i).cs ≥ 0))=true:=decide_eq_true c;have er:taken s g i wn hn=aK (aK s g fun x=>{ x with hold:=i }) g fun x=>{ x with place:=wn }:=by unfold taken;exact if_pos c
  rw [er]
  repeat (first | (refine K.load ?_;((refine jq rfl rfl rfl (Qt.aL rfl (oq) (by exact rfl)) ?_))) | (refine K.store ?_;first | ((refine JO.ld (Ld.bL rfl rfl (by exact rfl) aN) rfl (fun _=>?_)));refine JO.cH b g (fun x=>{ x with hold:=i }) (by exact rfl) ?_ | ((refine JO.ld (Ld.bL rfl rfl (by exact rfl) aN) rfl (fun _=>?_)));refine JO.cH b g (fun x=>{ x with place:=wn }) (by exact rfl) ?_) | (refine K.indexAddr ?_;first | refine jq rfl rfl rfl (Qt.aI rfl rfl cL cM) ?_ | refine jq rfl rfl rfl (Qt.aI rfl rfl (mF (s:=s)) mG) ?_) | (refine K.call ?_;refine JO.ld (Ld.aY (FR) (qb rfl) rfl (by (exact aJ.cons .refl (.cons .refl .nil)))) rfl ?_;intro _) | refine gn ?_)
  (exact J.bN func134 rfl (.cons (.tmp rfl) .nil) () (by exact .refl) rfl)
 ·obtain ⟨o,ho⟩:=ho.resolve_left c;have c1:(decide ((su s i).cs ≥ 0))=false:=decide_eq_false c;haveI:Sx.bJ o s:=⟨ho.o1⟩
  haveI:oo o g:=⟨ho.ne⟩
  haveI:oo g o:=⟨Ne.symm ho.ne⟩
  have er:taken s g i wn hn=aK (Sx.pair (aZ (aK (aK s g fun x=>{ x with hold:=i }) g fun x=>{ x with t:=s.step }) i) g i) g fun x=>{ x with place:=hn }:=by
   rw [gR hg];unfold taken;exact if_neg c
  obtain ⟨w,WD⟩:=BC b u (Lv (g:=g) (f:=fun x=>{ x with t:=s.step }) (Lv (g:=g) (f:=fun x=>{ x with hold:=i }) Q)) i;have CP:=Kc b u (aZ (aK (aK s g fun x=>{ x with hold:=i }) g fun x=>{ x with t:=s.step }) i) g o i Sx.bJ.h Sx.bJ.h ho.ne h0 Sx.gQ.h1 (by rw [Sx.jJ.h (s:=aZ _ _) (i:=i)];exact ho.e);rw [er]
  repeat (first | (refine K.load ?_;((refine jq rfl rfl rfl (Qt.aL rfl (oq) (by exact rfl)) ?_))) | (refine K.store ?_;first | ((refine JO.ld (Ld.bL rfl rfl (by exact rfl) aN) rfl (fun _=>?_)));refine JO.cH b g (fun x=>{ x with hold:=i }) (by exact rfl) ?_ | ((refine JO.ld (Ld.bL rfl rfl (by exact rfl) aN) rfl (fun _=>?_)));refine JO.cH b g (fun x=>{ x with t:=s.step }) (by exact rfl) ?_ | ((refine JO.ld (Ld.bL rfl rfl (by exact rfl) aN) rfl (fun _=>?_)));refine JO.cH b g (fun x=>{ x with place:=hn }) (by exact rfl) ?_) | (refine K.indexAddr ?_;first | refine jq rfl rfl rfl (Qt.aI rfl rfl cL cM) ?_ | refine jq rfl rfl rfl (Qt.aI rfl rfl (mF (s:=s)) mG) ?_) | (refine K.call ?_;first | (refine JO.ld (Ld.aY (FR) (qb rfl) rfl (by (exact aJ.cons .refl (.cons .refl .nil)))) rfl ?_;intro _) | (refine JO.ld (Ld.aY (WD) (qb rfl) rfl (by (exact aJ.cons .refl (.cons .refl .nil)))) rfl ?_;intro _) | (refine JO.ld (Ld.aY (CP) (qb rfl) rfl (by (exact aJ.cons .refl (.cons .refl (.cons .refl .nil))))) rfl ?_;intro _)) | refine gn ?_)
  (exact J.bN func134 rfl (.cons (.tmp rfl) .nil) () (by exact .refl) rfl)
theorem Vh (b:Nat) (u:U) (s:ah) (g o:Nat) (back on:Int) (hg:g < s.gs.length) (h:oz s g o (aa s g).hold) (Q:Qs s) :
  an prog 81 [.c (.v (pt b)),.c (nI g),.c (nI back),.c (nI on)] (wd b u s) (fun _:Unit=>(.bp [],wd b u (cT s g back on))):=by
 haveI:Sx.bJ g s:=⟨hg⟩
 haveI:Sx.bJ o s:=⟨h.o1⟩
 haveI:oo o g:=⟨h.ne⟩
 haveI:oo g o:=⟨Ne.symm h.ne⟩
 haveI:Sx.gQ (aa s g).hold s:=⟨h.h0,h.h1⟩
 have e0:=h.e;haveI:Sx.jJ s (aa s g).hold { su s (aa s g).hold with g:=(o:Int) }:=⟨by rw [← e0]⟩
 refine an.intro func81 rfl rfl rfl (fun ok e=>?_)
 cases hp:(aa s o).bG with
 | true =>
  haveI:Sx.dB s o { aa s o with bG:=true }:=⟨by rw [← hp]⟩
  have er:cT s g back on=aK (aK (aZ s (aa s g).hold) g fun x=>{ x with hold:=-1 }) g fun x=>{ x with place:=back }:=by
   rw [gR (Sx.bJ.h)];have e2:aa (aZ s (aa s g).hold) g=aa s g:=Sx.dB.h;unfold cT aK;dsimp only;rw [e0,Int.toNat_natCast,if_pos hp,e2]
  obtain ⟨w,WD⟩:=BC b u Q (aa s g).hold;rw [er]
  repeat (first | (refine K.load ?_;((refine jq rfl rfl rfl (Qt.aL rfl (aN) (by exact rfl)) ?_))) | (refine K.indexAddr ?_;refine jq rfl rfl rfl (Qt.aI rfl rfl cL cM) ?_) | refine gn ?_)
  refine J.draw (by kernel_rfl) rfl ?_;refine JW.base none ?_;refine tk 0 ?_;refine tk 1 ?_;refine tk 2 ?_;refine tk 3 ?_;refine tk 4 ?_;refine tk 5 ?_;refine tk 6 ?_;refine tk 7 ?_;refine tk 8 ?_;refine JD.take 9 rfl rfl (by kernel_rfl) rfl (qb rfl) (Qt.aI rfl rfl (mF (s:=s)) mG) rfl ?_;refine tk 10 ?_;refine JD.take 11 rfl rfl (by kernel_rfl) rfl (qb rfl) (Qt.aL rfl oq rfl) rfl ?_;refine JD.take 12 rfl rfl (by kernel_rfl) rfl (qb rfl) (Qt.aI rfl rfl cL cM) rfl ?_;refine tk 13 ?_;refine bE ?_
  repeat (first | (refine K.load ?_;((refine jq rfl rfl rfl (Qt.aL rfl (aN) (by exact rfl)) ?_))) | (refine K.store ?_;first | ((refine JO.ld (Ld.bL rfl rfl (by exact rfl) aN) rfl (fun _=>?_)));refine JO.cH b g (fun x=>{ x with hold:=-1 }) (by exact rfl) ?_ | ((refine JO.ld (Ld.bL rfl rfl (by exact rfl) aN) rfl (fun _=>?_)));refine JO.cH b g (fun x=>{ x with place:=back }) (by exact rfl) ?_) | (refine K.call ?_;refine JO.ld (Ld.aY (WD) (qb rfl) rfl (by (exact aJ.cons .refl (.cons .refl .nil)))) rfl ?_;intro _) | refine gn ?_)
  (exact J.bN func81 rfl .nil () (by exact .refl) rfl)
 | false =>
  haveI:Sx.dB s o { aa s o with bG:=false }:=⟨by rw [← hp]⟩
  have er:cT s g back on=aK (Sx.pair (aK (aK s o fun x=>{ x with bG:=true }) g fun x=>{ x with t:=s.step }) g (aa s g).hold) g fun x=>{ x with place:=on }:=by
   have e2:aa (aK s o fun x=>{ x with bG:=true }) g=aa s g:=Sx.dB.h;unfold cT;dsimp only;rw [e0,Int.toNat_natCast,if_neg (by rw [hp];simp),Kb _ _ h.ne];unfold aK at e2 ⊢;rw [e2];rfl
  have CP:=Kc b u (aK (aK s o fun x=>{ x with bG:=true }) g fun x=>{ x with t:=s.step }) g o (aa s g).hold Sx.bJ.h Sx.bJ.h h.ne h.h0 h.h1 h.e;rw [er]
  repeat (first | (refine K.load ?_;((refine jq rfl rfl rfl (Qt.aL rfl (aN) (by exact rfl)) ?_))) | (refine K.indexAddr ?_;refine jq rfl rfl rfl (Qt.aI rfl rfl cL cM) ?_) | refine gn ?_)
  refine J.draw (by kernel_rfl) rfl ?_;refine JW.base none ?_;refine tk 0 ?_;refine tk 1 ?_;refine tk 2 ?_;refine tk 3 ?_;refine tk 4 ?_;refine tk 5 ?_;refine tk 6 ?_;refine tk 7 ?_;refine tk 8 ?_;refine JD.take 9 rfl rfl (by kernel_rfl) rfl (qb rfl) (Qt.aI rfl rfl (mF (s:=s)) mG) rfl ?_;refine tk 10 ?_;refine JD.take 11 rfl rfl (by kernel_rfl) rfl (qb rfl) (Qt.aL rfl oq rfl) rfl ?_;refine JD.take 12 rfl rfl (by kernel_rfl) rfl (qb rfl) (Qt.aI rfl rfl cL cM) rfl ?_;refine tk 13 ?_;refine bE ?_
  repeat (first | (refine K.load ?_;((refine jq rfl rfl rfl (Qt.aL rfl (aN) (by exact rfl)) ?_))) | (refine K.store ?_;first | ((refine JO.ld (Ld.bL rfl rfl (by exact rfl) aN) rfl (fun _=>?_)));refine JO.cH b o (fun x=>{ x with bG:=true }) (by exact rfl) ?_ | ((refine JO.ld (Ld.bL rfl rfl (by exact rfl) aN) rfl (fun _=>?_)));refine JO.cH b g (fun x=>{ x with t:=s.step }) (by exact rfl) ?_ | ((refine JO.ld (Ld.bL rfl rfl (by exact rfl) aN) rfl (fun _=>?_)));refine JO.cH b g (fun x=>{ x with place:=on }) (by exact rfl) ?_) | (refine K.call ?_;refine JO.ld (Ld.aY (CP) (qb rfl) rfl (by (exact aJ.cons .refl (.cons .refl (.cons .refl .nil))))) rfl ?_;intro _) | refine gn ?_)
  (exact J.iV func81 rfl .nil () (by exact .refl) rfl)
end Fl
open Go.RowKit
namespace Fl
open Sx Go.Proofs.Tryz
set_option maxRecDepth 100000
theorem Lz {s:ah} {k:Nat} (hk:k < s.av.length):aE s ((k:Int) + 1) (cn s ((k:Int) + 1))=s:=by
 unfold aE;rw [show ((k:Int) + 1 - 1).toNat=k by omega,nC (mY hk)]
theorem Vi (l:List Int) (c v:Int) (h:0≤c):(fo l c v).2=decide (l.length < c.toNat)∧(fo l c v).1=Rn.yA c.toNat l v:=by
 unfold fo Rn.yA
 by_cases a:c≤l.length
 ·rw [if_pos a,if_neg (show ¬ l.length < c.toNat by omega)];exact ⟨(decide_eq_false (by omega)).symm,rfl⟩
 ·rw [if_neg a,if_pos (show l.length < c.toNat by omega)];exact ⟨(decide_eq_true (by omega)).symm,rfl⟩
theorem Vj (b:Nat) (u:U) (s:ah) {k:Nat} (v:Int) (hk:k < s.av.length) (h8:k < 8) (h0:0≤(cn s ((k:Int) + 1)).cap) :
  an prog 197 [.c (.v (u.rs k)),.c (nI v)] (wd b u s) (fun _:Unit=>(.c (bI (fo (cn s ((k:Int) + 1)).buf (cn s ((k:Int) + 1)).cap v).2),wd b u (aE s ((k:Int) + 1) { cn s ((k:Int) + 1) with buf:=(fo (cn s ((k:Int) + 1)).buf (cn s ((k:Int) + 1)).cap v).1 }))):=by
 have e:=Vi (cn s ((k:Int) + 1)).buf (cn s ((k:Int) + 1)).cap v h0;rw [e.1,e.2];exact an.at_ 11 rfl (OO (kC u s) u.TR (um (u:=u) hk) v) fun _=>E0 _ hk h8
theorem Vk (b:Nat) (u:U) (s:ah) {k:Nat} (hk:k < s.av.length) (h0:0≤(cn s ((k:Int) + 1)).cap) :
  an prog 59 [.c (.v (u.rs k))] (wd b u s) (fun _:Unit=>(.c (nI (cn s ((k:Int) + 1)).cap),wd b u s)):=by
 have RR:=Ig (kC u s) u.TR (um (u:=u) hk);rw [show (((cn s ((k:Int) + 1)).cap.toNat:Nat):Int)=(cn s ((k:Int) + 1)).cap by omega] at RR;exact an.at_ 11 rfl RR fun _=>rfl
section
variable {P:Program} {c:Cx} {k:List Item} {f:Fm} {L:List aj} {t b:Nat} {B:TypeId} {cs:List A}
theorem St.Vl {a:Act} {w:World} (s:St c ((t,.c (.v (.pointer (some ⟨b,0,none⟩)))) :: f) (.box b B cs :: L) a w):St c ((t,.el cs 0) :: f) L a w:=by
 have m:Mon (bM c (.box b B cs :: L)) (bM c L) w w:=⟨Nat.le_refl _,fun g _ ho=>⟨⟨ho.1,fun hx=>ho.2 ((iR _ _ _).2 (.inr hx))⟩,rfl⟩⟩
 have ap:=List.pairwise_cons.1 s.ap;refine ⟨s.kp,s.size,s.jO,fun q hq=>(s.res q (List.mem_cons_of_mem _ hq)).cO (aP.refl [] w) m (by simp),fun x hx=>s.fL x ((iR _ _ _).2 (.inr hx)),ap.2,fun u e' hu=>?_⟩
 by_cases e1:t=u
 ·subst e1;rw [qL] at hu;cases hu;have hv:=s.fr t _ (qL _ _ _);obtain ⟨vs,r1,r2⟩:=s.res _ (List.mem_cons_self ..);unfold RD RA at hv;rw [hv.1];unfold RD;have hb:b∈(aj.box b B cs).cA:=by simp [aj.cA]
  refine ⟨b,0,vs,rfl,⟨.inr (s.fL b ((iR _ _ _).2 (.inl hb))),fun hx=>?_⟩,r1.lt,r1.range,RC.cO m _ _ r2⟩;obtain ⟨q,hq,kZ⟩:=dz.1 hx;exact ap.1 q hq b hb kZ
 ·rw [tG e1] at hu;exact RD.cO m e' _ (s.fr u e' (by rw [tG e1];exact hu))
theorem J.Vm (t:Nat) (h1:look f t=some (.c (.v (.pointer (some ⟨b,0,none⟩))))) (h:J P c k ((t,.el cs 0) :: f) L):J P c k f (.box b B cs :: L):=⟨fun a w s=>by
 have s1:St c ((t,.c (.v (.pointer (some ⟨b,0,none⟩)))) :: f) (.box b B cs :: L) a w:=by
  refine ⟨s.kp,s.size,s.jO,s.res,s.fL,s.ap,fun u d hu=>?_⟩
  by_cases e1:t=u
  ·subst e1;rw [qL] at hu;cases hu;exact s.fr t _ h1
  ·rw [tG e1] at hu;exact s.fr u d hu
 exact h.go a w s1.Vl⟩
end
section
variable {P:Program} {c:Cx} {k:List Item} {f f0:Fm} {L L0:List aj} {ops:Array Oper} {o:Oper} {m:Option Nat} {n:Nat} {aU:Array Bool}
end
abbrev YB (b g:Nat) (o:Pn.Op):List A:=.v (pt b) :: nI g :: dH o
theorem FU {u:U} {s:ah} {k:Nat} (hk:k < s.av.length):((List.range s.av.length).map fun i=>[A.v (u.rs i)])[((k:Int)).toNat]?=some [.v (u.rs k)]:=by
 rw [Int.toNat_natCast,List.getElem?_map,List.getElem?_range hk];rfl
structure LA (s:ah) (o:Pn.Op) (k:Nat):Prop where
 e:o.ch=(k:Int) + 1
 k1:k < s.av.length
 k8:k < 8
 c0:0≤(cn s ((k:Int) + 1)).cap
 bl:((cn s ((k:Int) + 1)).buf.length:Int)≤(cn s ((k:Int) + 1)).cap
end Fl
open Go.RowKit
namespace Sx
end Sx
namespace Fl
open Sx Go.Proofs.Tryz
set_option maxRecDepth 100000
structure YC (s:ah) (g:Nat):Prop where
 cp:uO s g
 qs:Qs s
 wk:(aa s g).au.length≤1000
 ch:(ag s g).kind=2∨(ag s g).kind=4→(aa s g).place≠0→(aa s g).place≠18→(aa s g).place≠19→∃ k,LA s (ag s g) k
 l6:(ag s g).kind=2∨(ag s g).kind=4→(aa s g).place=6→∀ i r,(cn s (ag s g).ch).recv=i :: r→0≤i∧i < s.aA.length∧(0≤(su s i).cs∨∃ o,oz s g o i)
 l7:(ag s g).kind=2∨(ag s g).kind=4→(aa s g).place=7∨(aa s g).place=8→∃ o,oz s g o (aa s g).hold
 zn:(aa s g).place=10→g < s.cache.length∧((bn s g).2.2=true→0≤(bn s g).2.1∧(bn s g).2.1 < s.aA.length)
 Vn:(ag s g).kind=2∨(ag s g).kind=4→(aa s g).place=11→0≤(aa s g).bh∧(aa s g).bh < s.aA.length∧∀ c,(aa s g).bh∉(cn s c).recv∧(aa s g).bh∉(cn s c).send
 pE:(ag s g).kind=2∨(ag s g).kind=4→(aa s g).place=14→0≤(aa s g).param∧(aa s g).param < s.aA.length
end Fl
open Go.RowKit
namespace Fl
open Sx Go.Proofs.Tryz
set_option maxRecDepth 100000
theorem Vo {s:ah} {g:Nat} (h:Sx.MInv s) (hg:g < s.gs.length) (hn:∀ i j,¬ Sx.eH (aa s g) i j) {c i:Int} (c0:1≤c) (c1:c≤s.av.length) (hi:i∈(cn s c).recv∨i∈(cn s c).send):(∃ o,oz s g o i)∧-1≤(su s i).cs:=by
 have q:=Sx.Inv.q h.v c c0 c1 i hi;have sI:=Sx.Inv.su h.v i q.1 q.2.1;obtain ⟨q1,q2,q3,q4,q5,q6,q7,q8,q9⟩:=q;refine ⟨⟨(su s i).g.toNat,q1,q2,by omega,by omega,fun e=>?_⟩,sI.2.2.1⟩;have e2:(su s i).g=(g:Int):=by omega
 rw [e2] at q9;exact hn _ _ q9
end Fl
open Go.RowKit
namespace Fl
open Sx Go.Proofs.Tryz
set_option maxRecDepth 100000
structure pG (s:ah) (ch:Int) (k:Nat):Prop where
 e:ch=(k:Int) + 1
 k1:k < s.av.length
 k8:k < 8
 c0:0≤(cn s ((k:Int) + 1)).cap
 bl:((cn s ((k:Int) + 1)).buf.length:Int)≤(cn s ((k:Int) + 1)).cap
theorem pG.made {s:ah} {ch:Int} {k:Nat} (h:pG s ch k):aT s ch=true:=by
 have:=h.e;have:=h.k1;unfold aT;simp only [decide_eq_true_eq];omega
theorem Vp (l:List Int):(dF l).2.1=Rn.hd l∧(dF l).2.2=(!l.isEmpty)∧(dF l).1=l.tail:=by
 unfold dF Rn.hd
 cases l with
 | nil=>exact ⟨rfl,rfl,rfl⟩
 | cons x r=>rw [if_neg (by simp)];exact ⟨rfl,rfl,rfl⟩
theorem Vq (b:Nat) (u:U) (s:ah) {k:Nat} (hk:k < s.av.length) (h8:k < 8) :
  an prog 196 [.c (.v (u.rs k))] (wd b u s) (fun _:Unit=>(.bp [.c (nI (dF (cn s ((k:Int) + 1)).buf).2.1),.c (bI (dF (cn s ((k:Int) + 1)).buf).2.2)],wd b u (aE s ((k:Int) + 1) { cn s ((k:Int) + 1) with buf:=(dF (cn s ((k:Int) + 1)).buf).1 }))):=by
 have e:=Vp (cn s ((k:Int) + 1)).buf;rw [e.1,e.2.1,e.2.2];exact an.at_ 11 rfl (OP (kC u s) u.TR (um (u:=u) hk)) fun _=>E0 _ hk h8
theorem Vr (l:List Int) (c v:Int) (h:0≤c) (hl:(l.length:Int)≤c):(fh l c v).2.1=Rn.yy c.toNat l∧(fh l c v).2.2=Rn.nR c.toNat l∧(fh l c v).1=Rn.yz c.toNat l v:=by
 unfold fh Rn.yy Rn.yz Rn.nR Rn.hd
 cases l with
 | nil=>rw [if_pos (.inr rfl)];simp
 | cons x r =>
  by_cases a:((x :: r).length:Int) < c
  ·rw [if_pos (.inl a)];have:¬ (x :: r).length=c.toNat:=by omega
   rw [decide_eq_false this];simp
  ·rw [if_neg (by simp only [not_or];exact ⟨a,by simp⟩)];have:(x :: r).length=c.toNat:=by omega
   rw [decide_eq_true this];simp
theorem Vs (b:Nat) (u:U) (s:ah) {k:Nat} (v:Int) (hk:k < s.av.length) (h8:k < 8) (h0:0≤(cn s ((k:Int) + 1)).cap) (hl:((cn s ((k:Int) + 1)).buf.length:Int)≤(cn s ((k:Int) + 1)).cap) :
  an prog 195 [.c (.v (u.rs k)),.c (nI v)] (wd b u s) (fun _:Unit=>(.bp [.c (nI (fh (cn s ((k:Int) + 1)).buf (cn s ((k:Int) + 1)).cap v).2.1),.c (bI (fh (cn s ((k:Int) + 1)).buf (cn s ((k:Int) + 1)).cap v).2.2)],wd b u (aE s ((k:Int) + 1) { cn s ((k:Int) + 1) with buf:=(fh (cn s ((k:Int) + 1)).buf (cn s ((k:Int) + 1)).cap v).1 }))):=by
 have e:=Vr (cn s ((k:Int) + 1)).buf (cn s ((k:Int) + 1)).cap v h0 hl;rw [e.1,e.2.1,e.2.2];exact an.at_ 11 rfl (OQ (kC u s) u.TR (um (u:=u) hk) v) fun _=>E0 _ hk h8
theorem Vt (b:Nat) (u:U) (s:ah) (ch i:Int) (k:Nat) (h:pG s ch k) (h0:0≤i) (h1:i < s.aA.length) :
  an prog 136 [.c (.v (pt b)),.c (nI ch),.c (nI i)] (wd b u s) (fun _:Unit=>(.c (nI (Sx.hand s ((k:Int) + 1) i).2),wd b u (Sx.hand s ((k:Int) + 1) i).1)):=by
 have CM:=Pd b u s ch;rw [h.made] at CM;obtain ⟨he,hk,h8,c0,bl⟩:=h;haveI:Sx.gQ i s:=⟨h0,h1⟩
 have w1:IntKind.i64.wrap (ch - 1)=(k:Int):=by rw [dJ (by omega) (by omega)];omega
 have i0:(0:Int)≤(k:Int):=by omega
 have i1:(k:Int) < ((List.range s.av.length).map fun i=>[A.v (u.rs i)]).length:=by rw [List.length_map,List.length_range];omega
 have AC:=FU (u:=u) hk;have RM:=Vk b u s hk c0;have PS:=Vs b u s (su s i).v hk h8 c0 bl;have t1:decide (i < 0)=false:=by simp;omega
 have t2:decide (i ≥ ((s.aA.map eS).length:Int))=false:=by rw [List.length_map];simp;omega
 refine an.intro func136 rfl rfl rfl (fun ok e=>?_)
 by_cases c:(cn s ((k:Int) + 1)).cap=0
 ·have t3:((cn s ((k:Int) + 1)).cap == 0)=true:=by rw [c];rfl
  have er:Sx.hand s ((k:Int) + 1) i=(s,(su s i).v):=by unfold Sx.hand;dsimp only;rw [if_pos c]
  rw [er]
  repeat (first | (refine K.load ?_;first | ((refine jq rfl rfl rfl (Qt.aL rfl (AC) (by exact rfl)) ?_)) | ((refine jq rfl rfl rfl (Qt.aL rfl (oq) (by exact rfl)) ?_))) | (refine K.indexAddr ?_;first | refine jq rfl rfl rfl (Qt.aI rfl rfl i0 i1) ?_ | refine jq rfl rfl rfl (Qt.aI rfl rfl (mF (s:=s)) mG) ?_) | (refine K.binOp ?_;refine jq rfl rfl rfl ((Qt.cJ rfl rfl rfl w1)) ?_) | (refine K.call ?_;first | (refine JO.ld (Ld.aY (CM) (qb rfl) rfl (by (exact aJ.cons .refl (.cons .refl .nil)))) rfl ?_;intro _) | (refine JO.ld (Ld.aY (RM) (qb rfl) rfl (aJ.cons .refl .nil)) rfl ?_;intro _)) | refine gn ?_)
  (exact J.bN func136 rfl (.cons (.tmp rfl) .nil) () (by exact .refl) rfl)
 ·have t3:((cn s ((k:Int) + 1)).cap == 0)=false:=by simpa using c
  have er:Sx.hand s ((k:Int) + 1) i=(aE s ((k:Int) + 1) { cn s ((k:Int) + 1) with buf:=(fh (cn s ((k:Int) + 1)).buf (cn s ((k:Int) + 1)).cap (su s i).v).1 },(fh (cn s ((k:Int) + 1)).buf (cn s ((k:Int) + 1)).cap (su s i).v).2.1):=by unfold Sx.hand;dsimp only;rw [if_neg c]
  rw [er];have hz:(fh (cn s ((k:Int) + 1)).buf (cn s ((k:Int) + 1)).cap (su s i).v).2.2=false→(fh (cn s ((k:Int) + 1)).buf (cn s ((k:Int) + 1)).cap (su s i).v).2.1=0:=by
   unfold fh;split <;> simp
  generalize hS:aE s ((k:Int) + 1) { cn s ((k:Int) + 1) with buf:=(fh (cn s ((k:Int) + 1)).buf (cn s ((k:Int) + 1)).cap (su s i).v).1 }=S1 at PS;generalize (fh (cn s ((k:Int) + 1)).buf (cn s ((k:Int) + 1)).cap (su s i).v).2.2=o2 at PS hz;generalize (fh (cn s ((k:Int) + 1)).buf (cn s ((k:Int) + 1)).cap (su s i).v).2.1=v at PS hz ⊢
  cases o2
  all_goals
   first | cases hz rfl | skip
   repeat (first | (refine K.load ?_;first | ((refine jq rfl rfl rfl (Qt.aL rfl (AC) (by exact rfl)) ?_)) | ((refine jq rfl rfl rfl (Qt.aL rfl (oq) (by exact rfl)) ?_))) | (refine K.indexAddr ?_;first | refine jq rfl rfl rfl (Qt.aI rfl rfl i0 i1) ?_ | refine jq rfl rfl rfl (Qt.aI rfl rfl (mF (s:=s)) mG) ?_) | (refine K.binOp ?_;refine jq rfl rfl rfl ((Qt.cJ rfl rfl rfl w1)) ?_) | (refine K.call ?_;first | (refine JO.ld (Ld.aY (CM) (qb rfl) rfl (by (exact aJ.cons .refl (.cons .refl .nil)))) rfl ?_;intro _) | (refine JO.ld (Ld.aY (RM) (qb rfl) rfl (aJ.cons .refl .nil)) rfl ?_;intro _) | (refine JO.ld (Ld.aY (PS) (qb rfl) rfl (by (exact aJ.cons .refl (.cons .refl .nil)))) rfl ?_;intro _)) | refine gn ?_)
   (exact J.bN func136 rfl (.cons (.tmp rfl) .nil) () (by exact .refl) rfl)
end Fl
open Go.RowKit
namespace Fl
open Sx Go.Proofs.Tryz
set_option maxRecDepth 100000
theorem pG.drop {s:ah} {ch:Int} {k:Nat} (h:pG s ch k) {i:Int}:pG (aZ s i) ch k:=by
 obtain ⟨e,k1,k8,c0,bl⟩:=h;unfold aZ
 split
 next m =>
  have m':=m;unfold aT at m';simp only [decide_eq_true_eq] at m';obtain ⟨j,ej⟩:∃ j:Nat,(su s i).ch=(j:Int) + 1:=⟨((su s i).ch - 1).toNat,by omega⟩
  rw [ej];have q:=By (s:=s) (k:=j) (j:=k) (c:={ cn s ((j:Int) + 1) with recv:=gO (cn s ((j:Int) + 1)).recv i,send:=gO (cn s ((j:Int) + 1)).send i }) (by omega);refine ⟨e,?_,k8,?_,?_⟩
  ·show k < (List.set _ _ _).length;rw [List.length_set];exact k1
  ·rw [q];split
   next z=>subst z;exact c0
   next=>exact c0
  ·rw [q];split
   next z=>subst z;exact bl
   next=>exact bl
 next=>exact ⟨e,k1,k8,c0,bl⟩
structure YD (s:ah) (g:Nat):Prop where
 cp:uO s g
 qs:Qs s
 wk:(aa s g).au.length≤1000
 ch:(ag s g).kind=3∨(ag s g).kind=5→(aa s g).place≠0→(aa s g).place≠18→(aa s g).place≠19→∃ k,LA s (ag s g) k
 l6:(ag s g).kind=3∨(ag s g).kind=5→(aa s g).place=6→∀ i r,(cn s (ag s g).ch).send=i :: r→0≤i∧i < s.aA.length∧(0≤(su s i).cs∨∃ o,oz s g o i)
 l7:(ag s g).kind=3∨(ag s g).kind=5→(aa s g).place=7∨(aa s g).place=8→∃ o,oz s g o (aa s g).hold
 zn:(aa s g).place=10→g < s.cache.length∧((bn s g).2.2=true→0≤(bn s g).2.1∧(bn s g).2.1 < s.aA.length)
 Vn:(ag s g).kind=3∨(ag s g).kind=5→(aa s g).place=11→0≤(aa s g).bh∧(aa s g).bh < s.aA.length∧∀ c,(aa s g).bh∉(cn s c).recv∧(aa s g).bh∉(cn s c).send
 pE:(ag s g).kind=3∨(ag s g).kind=5→(aa s g).place=14→0≤(aa s g).param∧(aa s g).param < s.aA.length
end Fl
end Go.Proofs.YtdjhhbpedllnhaaGreat
