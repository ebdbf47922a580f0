/-
  What the laws need, part CO4.
  Conditions: none.
-/
import Derived.Test.YtdjhhbpedllnhaaGreatB25
import Derived.Test.YtdjhhbpedllnhaaGreatCO3
set_option linter.unusedVariables false
set_option linter.unusedSimpArgs false
set_option linter.unnecessarySimpa false
set_option maxHeartbeats 2000000
namespace Go.Proofs.YtdjhhbpedllnhaaGreat
open Go.RowKit
namespace Fl
open Sx Go.Proofs.Tryz
set_option maxRecDepth 100000
section
variable (b:Nat) (u:U) (s:ah) (g:Nat)
theorem aap (h:Sx.Good s) (hg:g < s.gs.length) (st:(aa s g).status=0) :
  an prog 73 [.c (.v (pt b)),.c (nI g)] (wd b u s) (fun x:{ u':U // u'.H=u.H }=>(.bp [],wd b x.1 (kq s g))):=by
 haveI:Sx.bJ g s:=⟨hg⟩
 have h':=h.toMInv;have L:=h'.loc hg;have d0:=h.rK;have d1:=h.sO;have d5:=h.d5;have O:=U8 h' hg;have CO:=FH b u s g hg L.a0 (by omega);have CE:=aal b u s g hg st;have CC:=Zs b u s g hg;refine an.intro func73 rfl rfl rfl (fun ok e=>?_);have er:kq s g=kq s g:=rfl
 conv at er=>rhs;unfold kq;dsimp only
 cases t1:decide ((aa s g).at_ ≥ ((aa s g).ops.length:Int)) with
 | true =>
  rw [if_pos (by simpa using t1)] at er;rw [er]
  repeat ((refine J.seq ?_))
  refine J.draw (by kernel_rfl) rfl ?_;refine JW.base none ?_;refine tk 0 ?_;refine tk 1 ?_;refine tk 2 ?_;refine tk 3 ?_;refine tk 4 ?_;refine JD.take 5 rfl rfl (by kernel_rfl) rfl (qb rfl) (Qt.aI rfl rfl cL cM) rfl ?_;refine tk 6 ?_;refine JD.take 7 rfl rfl (by kernel_rfl) rfl (qb rfl) (Qt.aL rfl aN rfl) rfl ?_;refine tk 8 ?_;refine tk 9 ?_;refine tk 10 ?_;refine tk 11 ?_;refine tk 12 ?_;refine JD.take 13 rfl rfl (by kernel_rfl) rfl (qb rfl) (Qt.aI rfl rfl cL cM) rfl ?_;refine tk 14 ?_;refine JD.take 15 rfl rfl (by kernel_rfl) rfl (qb rfl) (Qt.aL rfl aN rfl) rfl ?_;refine tk 16 ?_;refine JD.take 17 rfl rfl (by kernel_rfl) rfl (qb rfl) (Qt.cmp rfl rfl (congrArg some t1)) rfl ?_;refine bE ?_
  repeat (first | (refine K.call ?_;refine JO.ld (Ld.aY (CE) (qb rfl) rfl (by (exact aJ.cons .refl (.cons .refl .nil)))) rfl ?_;intro _) | refine gn ?_)
  (exact J.bN func73 rfl .nil ⟨u,rfl⟩ (by exact .refl) rfl)
 | false =>
 rw [if_neg (by simpa using t1)] at er;have ro:Pn.fG (ag s g)=true:=Jr L (by have:=of_decide_eq_false t1;omega);have kf:=EK ro;obtain ⟨S,hS⟩:∃ S,aK (Sx.clear s g) g (fun x=>{ x with call:=(Sx.clear s g).step })=S:=⟨_,rfl⟩
 have oA:g < S.gs.length:=by rw [← hS];exact wD (EV hg)
 have gS:aa S g={ oG (aa s g) with call:=s.step }:=by
  rw [← hS];unfold aK Sx.clear;rw [kS,EW hg,if_pos rfl,EW hg,if_pos rfl];rfl
 have oS:ag S g=ag s g:=by rw [Ab,gS];rfl
 have mS:∀ c,aT S c=aT s c:=fun c=>by rw [← hS];rfl
 have CM:=Pd b (YT u g) S (ag s g).ch;have CN:=ZG b (YT u g) S g oA;have CA:=fun c=>ZH b (YT u g) S g c oA
 have CS:=aao b (YT u g) S g (ag s g) oA (by omega) (by rw [← hS];exact d0) (by rw [← hS];exact d1) (by rw [← hS];show s.di.length≤_;omega) (by rw [← hS];exact h.du) (by rw [gS];rfl);rw [show ai (Sx.clear s g) g { aa (Sx.clear s g) g with call:=(Sx.clear s g).step }=S from hS,oS] at er;rw [er];clear er;haveI:Sx.bJ g (Sx.clear s g):=⟨EV hg⟩
 haveI:Sx.bJ g S:=⟨oA⟩
 generalize ag s g=o at CO CM CS kf O ⊢
 repeat ((refine J.seq ?_))
 refine J.draw (by kernel_rfl) rfl ?_;refine JW.base none ?_;refine tk 0 ?_;refine tk 1 ?_;refine tk 2 ?_;refine tk 3 ?_;refine tk 4 ?_;refine JD.take 5 rfl rfl (by kernel_rfl) rfl (qb rfl) (Qt.aI rfl rfl cL cM) rfl ?_;refine tk 6 ?_;refine JD.take 7 rfl rfl (by kernel_rfl) rfl (qb rfl) (Qt.aL rfl aN rfl) rfl ?_;refine tk 8 ?_;refine tk 9 ?_;refine tk 10 ?_;refine tk 11 ?_;refine tk 12 ?_;refine JD.take 13 rfl rfl (by kernel_rfl) rfl (qb rfl) (Qt.aI rfl rfl cL cM) rfl ?_;refine tk 14 ?_;refine JD.take 15 rfl rfl (by kernel_rfl) rfl (qb rfl) (Qt.aL rfl aN rfl) rfl ?_;refine tk 16 ?_;refine JD.take 17 rfl rfl (by kernel_rfl) rfl (qb rfl) (Qt.cmp rfl rfl (congrArg some t1)) rfl ?_;refine bE ?_
 repeat (first | (refine K.store ?_;((refine JO.ld (Ld.bL rfl rfl (by exact rfl) aN) rfl (fun _=>?_)));refine JO.cH b g (fun x=>{ x with call:=(Sx.clear s g).step }) (by exact rfl) ?_) | (refine K.indexAddr ?_;refine jq rfl rfl rfl (Qt.aI rfl rfl cL cM) ?_) | (refine K.call ?_;first | (refine JO.ld (Ld.aY (CO) (qb rfl) rfl (by (exact aJ.cons .refl (.cons .refl .nil)))) rfl ?_;intro _) | (refine JO.ld (Ld.aY (CC) (qb rfl) rfl (by (exact aJ.cons .refl (.cons .refl .nil)))) rfl ?_;intro _)) | refine ay ?_ | intro _)
 rw [hS];have P:∀ v:Int,o.kind=v→∀ c,(o.kind == c)=(v == c):=fun v hv c=>by rw [hv]
 have hk:o.kind=1∨o.kind=7∨o.kind=8∨o.kind=2∨o.kind=3∨o.kind=4∨o.kind=5∨o.kind=6∨o.kind=9:=by omega
 generalize aT S o.ch=m at CM ⊢
 repeat (first | (refine K.call ?_;refine JO.ld (Ld.aY (CM) (qb rfl) rfl (by (exact aJ.cons .refl (.cons .refl .nil)))) rfl ?_;intro _) | refine gn ?_)
 rcases hk with ek | ek | ek | ek | ek | ek | ek | ek | ek
 iterate 3
  ·rw [if_pos (by omega),P _ ek]
   repeat (first | (refine K.store ?_;((refine JO.ld (Ld.bL rfl rfl (by exact rfl) aN) rfl (fun _=>?_)));refine JO.cH b g (fun x=>{ x with place:=20 }) (by exact rfl) ?_) | refine aQ (P _ ek _) ?_ | refine gn ?_)
   (exact J.jF [_] rfl func73 rfl .nil ⟨YT u g,rfl⟩ (by exact .refl) rfl)
 iterate 2
  ·rw [az,if_pos (by omega),P _ ek]
   cases m with
   | true =>
    repeat (first | (refine K.store ?_;((refine JO.ld (Ld.bL rfl rfl (by exact rfl) aN) rfl (fun _=>?_)));refine JO.cH b g (fun x=>{ x with place:=4 }) (by exact rfl) ?_) | refine aQ (P _ ek _) ?_ | refine gn ?_)
    (exact J.jF [_] rfl func73 rfl .nil ⟨YT u g,rfl⟩ (by exact .refl) rfl)
   | false =>
    repeat (first | refine aQ (P _ ek _) ?_ | (refine K.call ?_;refine JO.ld (Ld.aY (CN) (qb rfl) rfl (by (exact aJ.cons .refl (.cons .refl .nil)))) rfl ?_;intro _) | refine gn ?_)
    (exact J.jF [_] rfl func73 rfl .nil ⟨YT u g,rfl⟩ (by exact .refl) rfl)
 iterate 2
  ·rw [az,az,if_pos (by omega),P _ ek]
   cases m with
   | true =>
    repeat (first | (refine K.store ?_;((refine JO.ld (Ld.bL rfl rfl (by exact rfl) aN) rfl (fun _=>?_)));refine JO.cH b g (fun x=>{ x with place:=1 }) (by exact rfl) ?_) | refine aQ (P _ ek _) ?_ | refine gn ?_)
    (exact J.jF [_] rfl func73 rfl .nil ⟨YT u g,rfl⟩ (by exact .refl) rfl)
   | false =>
    repeat (first | refine aQ (P _ ek _) ?_ | (refine K.call ?_;refine JO.ld (Ld.aY ((CA _)) (qb rfl) rfl (by (exact aJ.cons .refl (.cons .refl (.cons .refl .nil))))) rfl ?_;intro _) | refine gn ?_)
    (exact J.jF [_] rfl func73 rfl .nil ⟨YT u g,rfl⟩ (by exact .refl) rfl)
 ·rw [az,az,az,if_pos ek,P _ ek]
  cases m with
  | true =>
   repeat (first | (refine K.store ?_;((refine JO.ld (Ld.bL rfl rfl (by exact rfl) aN) rfl (fun _=>?_)));refine JO.cH b g (fun x=>{ x with place:=4 }) (by exact rfl) ?_) | refine aQ (P _ ek _) ?_ | refine gn ?_)
   (exact J.jF [_] rfl func73 rfl .nil ⟨YT u g,rfl⟩ (by exact .refl) rfl)
  | false =>
   repeat (first | refine aQ (P _ ek _) ?_ | (refine K.call ?_;refine JO.ld (Ld.aY ((CA _)) (qb rfl) rfl (by (exact aJ.cons .refl (.cons .refl (.cons .refl .nil))))) rfl ?_;intro _) | refine gn ?_)
   (exact J.jF [_] rfl func73 rfl .nil ⟨YT u g,rfl⟩ (by exact .refl) rfl)
 ·rw [az,az,az,az,P _ ek]
  repeat (first | refine aQ (P _ ek _) ?_ | (refine K.call ?_;refine JO.ld (Ld.aY (CS) (qb rfl) rfl (by (exact aJ.cons .refl (.cons .refl (.cons .refl .nil))))) rfl ?_;intro _) | refine gn ?_)
  (exact J.jF [_] rfl func73 rfl .nil ⟨YT u g,rfl⟩ (by exact .refl) rfl)
theorem aaq (re:Int) (hg:g < s.gs.length) :
  an prog 130 [.c (.v (pt b)),.c (nI g),.c (nI re)] (wd b u s) (fun _:Unit=>(.agg (eM (Sx.mark s g re)),wd b u s)):=by
 haveI:Sx.bJ g s:=⟨hg⟩
 refine an.intro func130 rfl rfl rfl (fun ok e=>?_)
 repeat (first | (refine K.load ?_;((refine jq rfl rfl rfl (Qt.C8 rfl (aN) (by exact rfl)) ?_))) | (refine K.indexAddr ?_;refine jq rfl rfl rfl (Qt.aI rfl rfl cL cM) ?_) | refine ay ?_ | intro _)
 (exact J.fC [_,_] rfl func130 rfl (.cons (.cell 1 rfl rfl rfl) .nil) () la rfl)
theorem aar {s:ah} {g:Nat} (hg:g < s.gs.length):answer s g=aK (Sx.clear (aK { s with done:=s.done ++ [Sx.mark s g s.step] } g fun x=>{ x with at_:=(aa s g).at_ + 1 }) g) g fun x=>{ x with place:=0 }:=by
 unfold answer Sx.clear aK;dsimp only;have e1:∀ x,aa (ai { s with done:=s.done ++ [Sx.mark s g s.step] } g x) g=x:=fun x=>(EW (s:={ s with done:=s.done ++ [Sx.mark s g s.step] }) hg).trans (if_pos rfl)
 simp only [kS,e1];rfl
abbrev Zo (b:Nat) (u:U) (s:ah):List aj :=
 .row u.vM 54 13 (s.done.map eM) ::
 .box b 68 (wW u s) ::
 .row u.vG 47 25 (dQ u s) ::
 .row u.vR 106 1 ((List.range s.av.length).map fun i=>[.v (u.rs i)]) ::
 .row u.vC 4 1 (s.av.map fun c=>[bI c.closed]) ::
 .row u.vS 52 7 (s.aA.map eS) ::
 .box u.bD 130 [dW s,nI s.drawn] ::
 aM (tB u.pB (s.gs.map fun x=>(x.status,x.token))) u.TB ::
 aM (tL u.pL (s.av.map (·.lock))) u.TL ::
 aM (tQ u.pQ s.aA.length (qW s)) u.TQ ::
 aM (tP u.pP s.dx.toNat s.bX.toNat (dV u s)) u.TP ::
 aM (tR (kC u s)) u.TR :: eE u s
theorem aas (h:Sx.Good s) (hg:g < s.gs.length) :
  an prog 75 [.c (.v (pt b)),.c (nI g)] (wd b u s) (fun x:{ u':U // u'.H=u.H }=>(.bp [],wd b x.1 (answer s g))):=by
 haveI:Sx.bJ g s:=⟨hg⟩
 have h':=h.toMInv;have L:=h'.loc hg;have L1:=L.a1;have L2:=L.nU;have L0:=L.a0;have CM:=aaq b u s g s.step hg;have ld:(s.done.map eM).length=s.done.length:=List.length_map ..;have dn:=(zI h).dn;obtain ⟨S,hS⟩:∃ S,({ s with done:=s.done ++ [Sx.mark s g s.step] }:ah)=S:=⟨_,rfl⟩
 have oA:g < S.gs.length:=by rw [← hS];exact hg
 have gS:aa S g=aa s g:=by rw [← hS];rfl
 haveI:Sx.bJ g S:=⟨oA⟩
 haveI:Sx.dB S g (aa s g):=⟨gS⟩
 have CC:=fun v=>Zs b { u with vM:=v } (aK S g fun x=>{ x with at_:=(aa s g).at_ + 1 }) g (wD oA)
 haveI:Sx.bJ g (Sx.clear (aK S g fun x=>{ x with at_:=(aa s g).at_ + 1 }) g):=⟨EV (wD oA)⟩
 rw [aar hg,hS];have hp:(wd b u s).Perm (Zo b u s):=List.perm_middle (l₁:=[_,_,_,_,_]);have CM:an prog 130 [.c (.v (pt b)),.c (nI g),.c (nI s.step)] (Zo b u s) (fun _:Unit=>(.agg (eM (Sx.mark s g s.step)),Zo b u s)):=an.frame [] CM (by rw [List.append_nil];exact hp) fun _=>by rw [List.append_nil];exact hp.symm
 refine an.intro func75 rfl rfl rfl (fun ok e=>?_);refine J.perm hp.symm ?_
 repeat ((refine J.seq ?_))
 refine J.draw (by kernel_rfl) rfl ?_;refine JW.ya (some 16) ?_;refine tk 0 ?_;refine tk 1 ?_;refine tk 2 ?_;refine tk 3 ?_;refine tk 5 ?_;refine tk 6 ?_;refine tk 7 ?_;refine tk 8 ?_;refine tk 9 ?_;refine JD.cU (i:=4) (j:=10) (by kernel_rfl) ?_ ?_
 (refine JS.q rfl rfl rfl (qb rfl) (Qt.hJ rfl (by exact rfl)) ?_)
 refine jk 10 rfl rfl rfl rfl (Qt.hJ rfl (by exact rfl)) ?_;refine JD.gU (i:=11) (by kernel_rfl) ?_;refine JS.kA rfl rfl rfl (qb rfl) (Ld.fj CM (qb rfl) rfl (.cons .refl (.cons .refl (.cons .refl .nil)))) (iA.bu) (fun _=>?_);refine JD.gU (i:=12) (by kernel_rfl) ?_;refine JS.kA rfl rfl rfl (qb rfl) (Ld.jS (qb rfl) rfl rfl rfl rfl rfl) (iA.nil) (fun _=>?_);refine JD.gU (i:=13) (by kernel_rfl) ?_;refine JS.kA rfl rfl rfl (qb rfl) (Ld.cy (qb rfl) rfl rfl .read (by simp only [List.length_singleton];omega)) (iA.row) (fun _=>?_);refine jk 14 rfl rfl rfl rfl (Qt.nilCheck rfl rfl) ?_;refine jk 15 rfl rfl rfl rfl (Qt.fieldAddr rfl rfl) ?_;refine jt 16 rfl rfl (Ld.cY rfl rfl (by exact rfl)) (fun _=>?_);refine bR ?_
 rotate_left
 (refine JS.q rfl rfl rfl (qb rfl) (Qt.hJ rfl (by exact rfl)) ?_)
 refine JD.cU (i:=4) (j:=11) (by kernel_rfl) ?_ ?_
 (refine JS.q rfl rfl rfl (qb rfl) (Qt.hJ rfl (by exact rfl)) ?_)
 refine JD.gU (i:=11) (by kernel_rfl) ?_;refine JS.kA rfl rfl rfl (qb rfl) (Ld.fj CM (qb rfl) rfl (.cons .refl (.cons .refl (.cons .refl .nil)))) (iA.bu) (fun _=>?_);refine JD.gU (i:=12) (by kernel_rfl) ?_;refine JS.kA rfl rfl rfl (qb rfl) (Ld.jS (qb rfl) rfl rfl rfl rfl rfl) (iA.nil) (fun _=>?_);refine JD.gU (i:=13) (by kernel_rfl) ?_;refine JS.kA rfl rfl rfl (qb rfl) (Ld.cy (qb rfl) rfl rfl .read (by simp only [List.length_singleton];omega)) (iA.row) (fun _=>?_);refine jk 14 rfl rfl rfl rfl (Qt.nilCheck rfl rfl) ?_;refine jk 15 rfl rfl rfl rfl (Qt.fieldAddr rfl rfl) ?_;refine jt 16 rfl rfl (Ld.cY rfl rfl (by exact rfl)) (fun _=>?_);refine bR ?_
 rotate_left
 refine JS.kA rfl rfl rfl (qb rfl) (Ld.fj CM (qb rfl) rfl (.cons .refl (.cons .refl (.cons .refl .nil)))) (iA.bu) (fun _=>?_);refine JD.cU (i:=4) (j:=12) (by kernel_rfl) ?_ ?_
 (refine JS.q rfl rfl rfl (qb rfl) (Qt.hJ rfl (by exact rfl)) ?_)
 refine JD.gU (i:=12) (by kernel_rfl) ?_;refine JS.kA rfl rfl rfl (qb rfl) (Ld.jS (qb rfl) rfl rfl rfl rfl rfl) (iA.nil) (fun _=>?_);refine JD.gU (i:=13) (by kernel_rfl) ?_;refine JS.kA rfl rfl rfl (qb rfl) (Ld.cy (qb rfl) rfl rfl .read (by simp only [List.length_singleton];omega)) (iA.row) (fun _=>?_);refine jk 14 rfl rfl rfl rfl (Qt.nilCheck rfl rfl) ?_;refine jk 15 rfl rfl rfl rfl (Qt.fieldAddr rfl rfl) ?_;refine jt 16 rfl rfl (Ld.cY rfl rfl (by exact rfl)) (fun _=>?_);refine bR ?_
 rotate_left
 refine JS.kA rfl rfl rfl (qb rfl) (Ld.jS (qb rfl) rfl rfl rfl rfl rfl) (iA.nil) (fun _=>?_);refine jk 4 rfl rfl rfl rfl (Qt.hJ rfl (by exact rfl)) ?_;refine JD.gU (i:=13) (by kernel_rfl) ?_;refine JS.kA rfl rfl rfl (qb rfl) (Ld.cy (qb rfl) rfl rfl .read (by simp only [List.length_singleton];omega)) (iA.row) (fun _=>?_);refine jk 14 rfl rfl rfl rfl (Qt.nilCheck rfl rfl) ?_;refine jk 15 rfl rfl rfl rfl (Qt.fieldAddr rfl rfl) ?_;refine jt 16 rfl rfl (Ld.cY rfl rfl (by exact rfl)) (fun _=>?_);refine bR ?_
 rotate_left
 all_goals
  rename_i v _;rw [show s.done.map eM ++ [eM (Sx.mark s g s.step)]=(s.done ++ [Sx.mark s g s.step]).map eM by rw [List.map_append];rfl];refine J.perm (L2:=wd b { u with vM:=v } { s with done:=s.done ++ [Sx.mark s g s.step] }) (List.perm_middle (l₁:=[_,_,_,_,_])) ?_;rw [hS]
  repeat (first | (refine K.load ?_;((refine jq rfl rfl rfl (Qt.aL rfl (aN) (by exact rfl)) ?_))) | (refine K.store ?_;first | ((refine JO.ld (Ld.bL rfl rfl (by exact rfl) aN) rfl (fun _=>?_)));refine JO.cH b g (fun x=>{ x with at_:=(aa s g).at_ + 1 }) (by exact rfl) ?_ | ((refine JO.ld (Ld.bL rfl rfl (by exact rfl) aN) rfl (fun _=>?_)));refine JO.cH b g (fun x=>{ x with place:=0 }) (by exact rfl) ?_) | (refine K.indexAddr ?_;refine jq rfl rfl rfl (Qt.aI rfl rfl cL cM) ?_) | (refine K.call ?_;refine JO.ld (Ld.aY ((CC v)) (qb rfl) rfl (by (exact aJ.cons .refl (.cons .refl .nil)))) rfl ?_;intro _) | refine gn ?_)
  (exact J.iV func75 rfl .nil (⟨YT { u with vM:=v } g,rfl⟩:{ u':U // u'.H=u.H }) (by exact .refl) rfl)
theorem Zp (h:Sx.Good s) (hg:g < s.gs.length) (st:(aa s g).status=0) (pl:(aa s g).place=0∨(aa s g).place=18) :
  an prog 21 [.c (.v (pt b)),.c (nI g)] (wd b u s) (fun x:{ u':U // u'.H=u.H }=>(.c (bI (jm s g).2),wd b x.1 (jm s g).1)):=by
 haveI:Sx.bJ g s:=⟨hg⟩
 have P:∀ v:Int,(aa s g).place=v→∀ c,((aa s g).place == c)=(v == c):=fun v hv c=>by rw [hv]
 rcases pl with e0 | e0
 ·have er:jm s g=(kq s g,true):=by unfold jm;dsimp only;rw [if_pos e0]
  have C1:=aap b u s g h hg st;rw [er];refine an.intro func21 rfl rfl rfl (fun ok e=>?_)
  repeat (first | (refine K.load ?_;((refine jq rfl rfl rfl (Qt.aL rfl (aN) (by exact rfl)) ?_))) | (refine K.indexAddr ?_;refine jq rfl rfl rfl (Qt.aI rfl rfl cL cM) ?_) | refine aQ (P _ e0 _) ?_ | (refine K.call ?_;refine JO.ld (Ld.aY C1 (qb rfl) rfl (.cons .refl (.cons .refl .nil))) rfl ?_;intro x) | refine gn ?_)
  (exact J.bN func21 rfl (.cons (.tmp rfl) .nil) x (by exact .refl) rfl)
 ·have er:jm s g=(answer s g,true):=by unfold jm;dsimp only;rw [if_neg (by omega),if_neg (by omega),if_pos e0]
  have C1:=aas b u s g h hg;rw [er];refine an.intro func21 rfl rfl rfl (fun ok e=>?_)
  repeat (first | (refine K.load ?_;((refine jq rfl rfl rfl (Qt.aL rfl (aN) (by exact rfl)) ?_))) | (refine K.indexAddr ?_;refine jq rfl rfl rfl (Qt.aI rfl rfl cL cM) ?_) | refine aQ (P _ e0 _) ?_ | (refine K.call ?_;refine JO.ld (Ld.aY C1 (qb rfl) rfl (.cons .refl (.cons .refl .nil))) rfl ?_;intro x) | refine gn ?_)
  (exact J.bN func21 rfl (.cons (.tmp rfl) .nil) x (by exact .refl) rfl)
end
theorem Zq {s:ah} {g:Nat} (h:Sx.Good s) (hg:g < s.gs.length) (st:(aa s g).status=0):Sx.Good (jm s g).1:=⟨h.toMInv.jm hg st,h.z.jm⟩
end Fl
namespace Sx
def YG (x:Gr):Prop:=x.place=0→x.order=[]
def YS (s:ah):Prop:=∀ h,YG (aa s h)
section
variable {s t:ah} {g:Nat}
theorem YG.clean {a:Int} {l:List Pn.Op}:YG (clean l a):=fun _=>rfl
theorem YG.of {x:Gr} (h:x.place≠0:=by simp):YG x:=fun e=>absurd e h
theorem YG.k {x y:Gr} (h:YG y) (e1:x.place=y.place:=by rfl) (e2:x.order=y.order:=by rfl):YG x:=fun e=>e2.trans (h (e1.symm.trans e))
theorem YS.dR (a:YS t) {o:Nat} {x:Gr} (h:YG x):YS (Sx.ai t o x):=fun k=>by
 unfold aa Sx.ai;rw [List.getD_eq_getElem?_getD,List.getElem?_set];have:=a k;unfold aa at this;rw [List.getD_eq_getElem?_getD] at this
 split
 ·split
  ·exact h
  ·exact YG.clean
 ·exact this
theorem YS.of (a:YS t) {u:ah} (e:u.gs=t.gs):YS u:=fun k=>by have:=a k;unfold aa at this ⊢;rw [e];exact this
theorem YS.aS (a:YS t) {p:Int} (h:p≠0:=by decide):YS (Sx.aS t g p):=a.dR (.of h)
theorem YS.cq (a:YS t) {r:Md.aj} {p:Int} (h:p≠0:=by decide):YS (Sx.cq t g r p):=a.dR (.of h)
theorem YS.tryLock (a:YS t) {c:Int}:YS (Sx.tryLock t g c).1:=by unfold Sx.tryLock;split <;> exact a.of (by rfl)
theorem YS.au (a:YS t):YS (Sx.au t g):=by unfold Sx.au;split <;> exact a.aS
theorem YS.gi (a:YS t):YS (Sx.gi t g):=by
 unfold Sx.gi;refine a.dR ?_;have:=a g
 split
 ·exact this.k
 ·split
  ·exact this.k
  ·exact this
theorem YS.ready (a:YS t) {o:Nat}:YS (Sx.ready t o):=by
 unfold Sx.ready;refine a.dR ?_;have:=a o
 split
 ·exact this.k
 ·split
  ·exact this.k
  ·exact this
theorem YS.dO (a:YS t) {k:Nat} {x:Int}:YS (Sx.dO t k x):=by unfold Sx.dO;split <;> exact a.of (by rfl)
theorem YS.cz (a:YS t) {k:Nat} {x:Int}:YS (Sx.cz t k x):=YS.of a.dO (by rfl)
theorem YS.bn (a:YS t) {k:Nat}:YS (Sx.bn t k).1:=by
 unfold Sx.bn;split
 ·split
  ·exact a.of (by rfl)
  ·exact a
 ·exact a.of (by rfl)
theorem YS.drop (a:YS t) {i:Int}:YS (Sx.aZ t i):=by unfold Sx.aZ;split;exact a.of (by rfl);exact a
theorem YS.pair (a:YS t) {i:Int}:YS (Sx.pair t g i):=YS.dR (YS.dR a (x:={ aa t (su t i).g.toNat with bT:=(aa t g).t,wi:=g,dm:=(su t i).cs }) (a (su t i).g.toNat).k) (x:={ aa t g with bT:=(aa t g).t,wi:=(su t i).g }) (a g).k
theorem YS.serve (a:YS t) {i:Int} {d:Bool}:YS (Sx.serve t g i d):=by
 have a2:YS (Sx.aV (Sx.ai t (su t i).g.toNat { aa t (su t i).g.toNat with param:=i }) i { su t i with done:=d }):=YS.of (YS.dR a (x:={ aa t (su t i).g.toNat with param:=i }) (a (su t i).g.toNat).k) rfl;exact a2.dR (a2 g).k
theorem YS.hand (a:YS t) {c i:Int}:YS (Sx.hand t c i).1:=by unfold Sx.hand;dsimp only;split;exact a;exact a.of (by rfl)
theorem YS.ite {p:Prop} [Decidable p] {β:Type} {x y:ah × β} (h1:p→YS x.1) (h2:¬ p→YS y.1):YS (if p then x else y).1:=by
 split
 ·exact h1 ‹_›
 ·exact h2 ‹_›
theorem YS.cB {p:Prop} [Decidable p] {x y:ah} (h1:p→YS x) (h2:¬ p→YS y):YS (if p then x else y):=by
 split
 ·exact h1 ‹_›
 ·exact h2 ‹_›
theorem YS.common (a:YS s):YS (Sx.common s g).1:=by
 unfold Sx.common;dsimp only;refine .ite (fun _=>.ite (fun _=>.ite (fun _=>YS.aS a.tryLock) fun _=>YS.aS a.tryLock) fun _=>a) fun _=>.ite (fun _=>YS.aS (a.of (by rfl))) fun _=>.ite (fun _=>YS.gi (a.aS)) fun _=>.ite (fun _=>YS.aS (YS.dR a.cz (a g).k)) fun _=>.ite (fun _=>YS.au (a.of (by rfl))) fun _=>.ite (fun _=>YS.au (YS.dR a.ready (a g).k)) fun _=>a
theorem YS.taken (a:YS s) {i wn hn:Int} (h1:wn≠0:=by decide) (h2:hn≠0:=by decide):YS (Sx.taken s g i wn hn):=by
 unfold Sx.taken;exact .cB (fun _=>YS.aS (YS.dR a (a g).k) h1) fun _=>YS.aS (YS.pair (YS.drop (YS.dR a (a g).k))) h2
theorem YS.cT (a:YS s) {bk on:Int} (h1:bk≠0:=by decide) (h2:on≠0:=by decide):YS (Sx.cT s g bk on):=by
 unfold Sx.cT;dsimp only;exact .cB (fun _=>YS.dR a.drop (.of h1)) fun _=>YS.aS (YS.pair (YS.dR (YS.dR a (a g).k) (a (su s (aa s g).hold).g.toNat).k)) h2
theorem YS.bh (a:YS s) {d:Su}:YS (Sx.bh s g d):=by
 unfold Sx.bh;exact .cB (fun _=>YS.dR (YS.of a.bn (by rfl)) .of) fun _=>YS.dR a.bn .of
theorem YS.mS (a:YS s) {v:Int}:YS (Sx.mS s g v):=YS.serve (YS.of a.drop (by rfl))
theorem YS.cu (a:YS s):YS (Sx.cu s g).1:=by
 unfold Sx.cu;dsimp only;refine .ite (fun _=>a) fun _=>.ite (fun _=>a.common) fun _=>.ite (fun _=>a) fun _=>.ite (fun _=>.ite (fun _=>a.aS) fun _=>a.cq) fun _=>.ite (fun _=>.ite (fun _=>a.dR .of) fun _=>a.dR .of) fun _=>.ite (fun _=>.ite (fun _=>a.cq) fun _=>a.aS) fun _=>.ite (fun _=>.ite (fun _=>a.aS) fun _=>a.taken) fun _=>.ite (fun _=>a.cT) fun _=>.ite (fun _=>a.mS.dR .of) fun _=>.ite (fun _=>.ite (fun _=>YS.cq (a.of (by rfl))) fun _=>.ite (fun _=>a.cq) fun _=>a.aS) fun _=>.ite (fun _=>a.bh) fun _=>.ite (fun _=>YS.dR (a.of (by rfl)) .of) fun _=>.ite (fun _=>a.dR .of) fun _=>a
theorem YS.cj (a:YS s):YS (Sx.cj s g).1:=by
 unfold Sx.cj;dsimp only;refine .ite (fun _=>a) fun _=>.ite (fun _=>a.common) fun _=>.ite (fun _=>a) fun _=>.ite (fun _=>.ite (fun _=>a.aS) fun _=>a.cq) fun _=>.ite (fun _=>.ite (fun _=>a.aS) fun _=>a.dR .of) fun _=>.ite (fun _=>.ite (fun _=>a.dR .of) fun _=>a.cq) fun _=>.ite (fun _=>.ite (fun _=>a.cq) fun _=>.ite (fun _=>a.aS) fun _=>a.aS) fun _=>.ite (fun _=>.ite (fun _=>a.aS) fun _=>a.taken) fun _=>.ite (fun _=>a.cT) fun _=>.ite (fun _=>YS.dR (YS.serve (YS.hand a.drop)) .of) fun _=>.ite (fun _=>.ite (fun _=>YS.cq (a.of (by rfl))) fun _=>.ite (fun _=>a.cq) fun _=>a.aS) fun _=>.ite (fun _=>a.bh) fun _=>.ite (fun _=>YS.dR (a.of (by rfl)) .of) fun _=>.ite (fun _=>a.dR .of) fun _=>a
theorem YS.jj (a:YS s):YS (Sx.jj s g):=by
 have a2:YS (Sx.aZ (Sx.ai s g { aa s g with t:=s.step }) (aa s g).hold):=YS.drop (a.dR (a g).k);exact YS.serve (YS.dR a2 (a2 _).k)
theorem YS.l9 (a:YS s) {i:Int}:YS (Sx.l9 s g i):=by
 have a2:YS (Sx.ai s g { aa s g with hold:=i }):=a.dR (a g).k;exact .cB (fun _=>a2.aS) fun _=>a2.jj
theorem YS.nN (a:YS s):YS (Sx.nN s g) :=
 .cB (fun _=>YS.dR a.drop .of) fun _=>YS.aS (YS.jj (YS.dR a (a (su s (aa s g).hold).g.toNat).k))
theorem YS.dY (a:YS s):YS (Sx.dY s g).1:=by
 unfold Sx.dY;dsimp only;refine .ite (fun _=>a) fun _=>.ite (fun _=>a.common) fun _=>.ite (fun _=>a) fun _=>.ite (fun _=>.ite (fun _=>a.cq) fun _=>YS.cq (a.of (by rfl))) fun _=>.ite (fun _=>.ite (fun _=>a.l9) fun _=>.ite (fun _=>a.l9) fun _=>a.aS) fun _=>.ite (fun _=>a.nN) fun _=>a
theorem YS.unlock (a:YS t) {p:Int} (h:p≠0:=by decide):YS (Sx.unlock t g p):=a.dR (.of h)
theorem YS.cZ (a:YS t) {r:Md.aj} {i:Int}:YS (Sx.cZ t g r i):=YS.unlock (YS.dR (a.cq) ((a.cq (r:={ r with cs:=i }) (p:=30)) g).k)
theorem YS.lock (a:YS s) {p:Int} (h:p≠0:=by decide):YS (Sx.lock s g p):=.cB (fun _=>.cB (fun _=>YS.dR a.tryLock (.of h)) fun _=>YS.dR a.tryLock (a g).k) fun _=>a
theorem YS.next (a:YS t) {p:Int} (h:p≠0:=by decide):YS (Sx.next t g p):=.cB (fun _=>a.dR (.of h)) fun _=>a.dR (a g).k
theorem YS.dG (a:YS t):YS (Sx.dG t g):=.cB (fun _=>a.dR (a g).k) fun _=>a.dR (a g).k
theorem YS.fq (a:YS s) {o:Pn.Op}:YS (Sx.fq s g o):=by
 unfold Sx.fq;dsimp only;generalize aH o (ax (aa s g).order (aa s g).k)=k;generalize ax (aa s g).order (aa s g).k=i;have hq:YS (if k.send=true then fX s g i k else gE s g i k).1:=by
  refine .ite (fun _=>?_) fun _=>?_
  ·unfold fX;dsimp only;exact .ite (fun _=>by dsimp only;exact a.cZ) fun _=>.ite (fun _=>by dsimp only;exact YS.dG (a.taken)) fun _=>.ite (fun _=>by dsimp only;exact YS.cZ (a.of (by rfl))) fun _=>a
  ·unfold gE;dsimp only;exact .ite (fun _=>by dsimp only;exact YS.dG (a.taken)) fun _=>.ite (fun _=>by dsimp only;exact YS.cZ (a.of (by rfl))) fun _=>.ite (fun _=>by dsimp only;exact a.cZ) fun _=>a
 generalize (if k.send=true then fX s g i k else gE s g i k)=r at hq ⊢;exact .cB (fun _=>hq) fun _=>.cB (fun _=>a.next) fun _=>.cB (fun _=>a.cZ) fun _=>YS.next (a.dR (a g).k)
theorem YS.gG (a:YS s) {o:Pn.Op}:YS (Sx.gG s g o):=by
 unfold Sx.gG;dsimp only;have h:∀ n:ah × Md.aj,YS n.1→YS (Sx.unlock (Sx.ai (Sx.serve n.1 g (aa s g).hold true) g { aa (Sx.serve n.1 g (aa s g).hold true) g with res:=n.2 }) g 30):=fun n hn=>YS.unlock (YS.dR (YS.serve hn) (YS.serve hn g).k)
 refine h _ ?_
 split
 ·exact a.drop.of (by rfl)
 ·exact YS.hand a.drop
theorem YS.aA (a:YS s) {o:Pn.Op}:YS (Sx.aA s g o):=by
 unfold Sx.aA;dsimp only;exact .cB (fun _=>YS.next (YS.dR (a.bn.of (by rfl)) (a g).k)) fun _=>YS.unlock (YS.dR a.bn (a g).k)
theorem YS.iT (a:YS s) {o:Pn.Op}:YS (Sx.iT s g o):=by
 unfold Sx.iT;dsimp only;exact .cB (fun _=>YS.next (a.of (by rfl))) fun _=>YS.unlock (YS.dR (a.of (by rfl)) (a g).k)
theorem YS.ck (a:YS s):YS (Sx.ck s g).1:=YS.dR (a.of (by rfl)) (a g).k
theorem YS.iU (a:YS s):YS (Sx.iU s g):=.cB (fun _=>YS.next a.drop) fun _=>YS.unlock a.drop
theorem YS.iz (a:YS s):YS (Sx.iz s g):=by
 have h:YS (if 0≤ax (aa s g).aq (ax (aa s g).order (aa s g).k) then Sx.cz s g (ax (aa s g).aq (ax (aa s g).order (aa s g).k)) else s):=.cB (fun _=>a.cz) fun _=>a
 unfold Sx.iz;dsimp only;exact .cB (fun _=>YS.au (YS.next (h.dR (a g).k))) fun _=>YS.next (h.dR (a g).k)
theorem YS.aR (a:YS s):YS (Sx.aR s g).1:=by
 unfold Sx.aR;dsimp only;refine .ite (fun _=>a) fun _=>.ite (fun _=>a.lock) fun _=>.ite (fun _=>a.fq) fun _=>.ite (fun _=>YS.dG (a.cT)) fun _=>.ite (fun _=>a.gG) fun _=>.ite (fun _=>a.aA) fun _=>.ite (fun _=>a.iT) fun _=>.ite (fun _=>.ite (fun _=>a.ck) fun _=>.ite (fun _=>a.ck.aS) fun _=>.ite (fun _=>a.ck.aS) fun _=>a.ck.au) fun _=>.ite (fun _=>a.dR .of) fun _=>.ite (fun _=>a.lock) fun _=>.ite (fun _=>a.iU) fun _=>.ite (fun _=>.ite (fun _=>a.ck) fun _=>a.ck.aS) fun _=>.ite (fun _=>a.iz) fun _=>.ite (fun _=>a.common) fun _=>a
theorem YS.clear (a:YS s):YS (Sx.clear s g):=a.dR fun _=>rfl
theorem YS.aat {x:Gr} (a:YS t):YS (Sx.clear (Sx.ai t g x) g):=fun k=>by
 unfold Sx.clear Sx.ai aa;simp only [List.set_set];rw [List.getD_eq_getElem?_getD,List.getElem?_set];have:=a k;unfold aa at this;rw [List.getD_eq_getElem?_getD] at this
 split
 ·split
  ·exact fun _=>rfl
  ·exact YG.clean
 ·exact this
theorem YS.ko (a:YS s) {o:Pn.Op}:YS (Sx.ko s g o):=by
 unfold Sx.ko;dsimp only;have a2:∀ d x,x.place=24→YS (Sx.ai { s with drawn:=d } g x):=fun d x hx=>YS.dR (a.of (by rfl)) (.of (by omega))
 exact .cB (fun _=>a2 _ _ rfl) fun _=>.cB (fun _=>YS.cq (a2 _ _ rfl)) fun _=>YS.gi (YS.aS (a2 _ _ rfl))
theorem YS.kq (a:YS s):YS (Sx.kq s g):=by
 unfold Sx.kq;dsimp only;refine .cB (fun _=>a.dR (a g).k) fun _=>?_
 have a2:YS (Sx.ai (Sx.clear s g) g { aa (Sx.clear s g) g with call:=(Sx.clear s g).step }):=YS.dR a.clear (a.clear g).k;generalize Sx.ai (Sx.clear s g) g { aa (Sx.clear s g) g with call:=(Sx.clear s g).step }=t at a2 ⊢;have nv:YS (Sx.never t g):=YS.gi (a2.aS);exact .cB (fun _=>a2.aS) fun _=>.cB (fun _=>.cB (fun _=>a2.aS) fun _=>nv) fun _=>.cB (fun _=>.cB (fun _=>a2.aS) fun _=>a2.cq) fun _=>.cB (fun _=>.cB (fun _=>a2.aS) fun _=>a2.cq) fun _=>a2.ko
theorem YS.jm (a:YS s):YS (Sx.jm s g).1:=by
 unfold Sx.jm;dsimp only;refine .ite (fun _=>a.kq) fun _=>.ite (fun _=>?_) fun _=>.ite (fun _=>?_) fun _=>a
 ·unfold Sx.kr;dsimp only;exact .cB (fun _=>a.cq) fun _=>.cB (fun _=>YS.cq (a.of (by rfl))) fun _=>.cB (fun _=>a.cq) fun _=>.cB (fun _=>a.cq) fun _=>a.cq
 ·unfold Sx.answer;dsimp only;exact YS.aat (a.of (by rfl))
theorem YS.one (a:YS s) (p:Int):YS (Sx.one s p).1:=by
 unfold Sx.one;dsimp only;have b:YS { s with step:=s.step + 1 }:=a.of rfl;exact .ite (fun _=>a) fun _=>.ite (fun _=>b.jm) fun _=>.ite (fun _=>b.cu) fun _=>.ite (fun _=>b.cj) fun _=>.ite (fun _=>b.dY) fun _=>.ite (fun _=>b.aR) fun _=>a
theorem YS.runs (a:YS s):∀ (l:List Int),YS (Sx.runs s l).1:=by
 intro l
 induction l generalizing s with
 | nil=>exact a
 | cons p r ih =>
  unfold Sx.runs
  split
  ·exact a
  ·exact ih (a.one _)
theorem YS.start {p:List (List Pn.Op)} {a c:Int} {d:List Int}:YS (Sx.start p a c d):=fun k=>by
 unfold aa Sx.start;rw [List.getD_eq_getElem?_getD,List.getElem?_map]
 cases p[k]? <;> exact fun _=>rfl
end
end Sx
namespace Sx
section
variable {s t:ah} {g:Nat}
theorem ZJ (s:ah) (h0:0≤s.drawn) (h1:s.drawn≤s.di.length):∀ n:Nat,(drawn s n).2=if (s.di.length:Int) - s.drawn < n then (s.di.length:Int) else s.drawn + n
 | 0=>by simp [drawn];omega
 | n + 1=>by
  unfold drawn draw;rw [ZJ s h0 h1 n];simp only
  split
  ·split
   ·simp only;rw [if_pos (by omega)]
   ·rename_i a b;exfalso;apply b;right;omega
  ·split
   ·rename_i a b;simp only;split <;> omega
   ·rename_i a b;simp only;split <;> omega
structure Y9 (s t:ah) (g:Nat):Prop where
 gl:t.gs.length=s.gs.length
 ch:t.av=s.av
 dn:t.done=s.done
 dr:t.drawn - s.drawn=if (s.di.length:Int) - s.drawn < (ag s g).cases.length then (s.di.length:Int) - s.drawn else ((ag s g).cases.length:Int)
 o:∀ h,h≠g→(aa t h).status=(aa s h).status∧(aa t h).place=(aa s h).place
 od:∀ i∈(aa t g).order,0≤i∧i < (ag s g).cases.length∧aT s (aH (ag s g) i).ch=true
theorem Ze {o h:Nat} {x:Gr}:aa (Sx.ai s o x) h=if o=h∧h < s.gs.length then x else aa s h:=by
 unfold aa Sx.ai;rw [List.getD_eq_getElem?_getD,List.getD_eq_getElem?_getD,List.getElem?_set]
 by_cases e:o=h
 ·subst e
  by_cases l:o < s.gs.length
  ·rw [if_pos rfl,if_pos l,if_pos ⟨rfl,l⟩];rfl
  ·rw [if_pos rfl,if_neg l,if_neg (fun q=>l q.2),List.getElem?_eq_none (by omega)]
 ·rw [if_neg e,if_neg (fun q=>e q.1)]
theorem aau (h:Good s) (ys:YS s) (hg:g < s.gs.length) (e:(aa s g).place=0):(jm s g).2=true∧Y9 s (jm s g).1 g:=by
 have h':=h.toMInv;have L:=h'.loc hg;have e1:jm s g=(kq s g,true):=by unfold jm;dsimp only;rw [if_pos e]
 rw [e1];refine ⟨rfl,?_⟩;have d0:=h.rK;have d1:=h.sO;have key:∀ (d:Int) (x:Gr),(d - s.drawn=if (s.di.length:Int) - s.drawn < (ag s g).cases.length then (s.di.length:Int) - s.drawn else ((ag s g).cases.length:Int))→(∀ i∈x.order,0≤i∧i < (ag s g).cases.length∧aT s (aH (ag s g) i).ch=true)→Y9 s (ai { s with drawn:=d } g x) g:=fun d x hd hx =>
  ⟨by simp [ai],rfl,rfl,hd,fun h n=>by rw [Ze,if_neg (fun q=>n q.1.symm)];exact ⟨rfl,rfl⟩,by rw [Ze,if_pos ⟨rfl,hg⟩];exact hx⟩
 have Y4:(ag s g).cases=[]→∀ x:Gr,x.order=[]→Y9 s (ai s g x) g:=fun hc x hx =>
  key s.drawn x (by rw [hc];simp;intro q;omega) (by rw [hx];intro i hi;cases hi)
 show Y9 s (kq s g) g;unfold kq;dsimp only
 split
 ·rename_i c;refine Y4 ?_ _ (ys g e);unfold ag;rw [List.getD_eq_getElem?_getD,List.getElem?_eq_none (by have:=L.a0;omega)];rfl
 ·rename_i c;have ro:=Jr L (by omega);rw [show aO (aa s g)=ag s g from rfl] at ro;obtain ⟨x,hx⟩:∃ x,ai (clear s g) g { aa (clear s g) g with call:=(clear s g).step }=ai s g x∧x={ oG (aa s g) with call:=s.step }:=by
   refine ⟨_,?_,rfl⟩;unfold clear;rw [gy hg,if_pos rfl,kS];rfl
  rw [hx.1];have xo:x.order=[]:=by rw [hx.2];rfl
  have xp:x.place=0:=by rw [hx.2];exact e
  have gx:aa (ai s g x) g=x:=by rw [gy hg,if_pos rfl]
  have eo:ag (ai s g x) g=ag s g:=by rw [Ab,gx,hx.2];rfl
  have em:∀ c,aT (ai s g x) c=aT s c:=fun c=>rfl
  rw [eo];have gT:∀ p,aS (ai s g x) g p=ai s g { x with place:=p }:=fun p=>by unfold aS;rw [gx,kS]
  have pA:∀ r p,cq (ai s g x) g r p=ai s g { x with bT:=s.step,res:=r,place:=p }:=fun r p=>EJ _ _ _ _ _ hg
  have nV:∀ (d:Int) (y:Gr),∃ z:Gr,never (ai { s with drawn:=d } g y) g=ai { s with drawn:=d } g z∧z.order=y.order:=fun d y=>by
   have g1:aa (ai { s with drawn:=d } g y) g=y:=by rw [Ze,if_pos ⟨rfl,hg⟩]
   have g2:aa (ai { s with drawn:=d } g { y with place:=19 }) g={ y with place:=19 }:=by rw [Ze,if_pos ⟨rfl,hg⟩]
   unfold never aS gi;rw [g1];simp only [kS];rw [g2];refine ⟨_,rfl,?_⟩
   split
   ·rfl
   ·split <;> rfl
  by_cases k9:(ag s g).kind=9
  ·rw [az,az,az,az];have dd:∀ n,drawn (ai s g x) n=drawn s n:=fun n=>by
    induction n with
    | zero=>rfl
    | succ n ih=>unfold drawn;rw [ih];rfl
   have w1:∀ (d:Int) (y:Gr),ai { ai s g x with drawn:=d } g y=ai { s with drawn:=d } g y:=fun d y=>by unfold ai;simp only [List.set_set]
   obtain ⟨S,hS⟩:∃ S,ai s g x=S:=⟨_,rfl⟩
   have em:∀ c,aT S c=aT s c:=fun c=>by rw [← hS];rfl
   rw [hS] at gx dd w1 ⊢;have g1:∀ d,aa { S with drawn:=d } g=x:=fun d=>gx
   unfold ko;dsimp only;rw [dd,g1,w1,xo];have Zr:∀ i:Int,i∈([] ++ (eU (drawn s (ag s g).cases.length).1 (ag s g).cases.length).filter (fun i=>aT S (aH (ag s g) i).ch):List Int)→0≤i∧i < (ag s g).cases.length∧aT s (aH (ag s g) i).ch=true:=fun i hi=>by
    rw [List.nil_append,List.mem_filter,Rf] at hi;exact ⟨hi.1.1,hi.1.2,by rw [← em];exact hi.2⟩
   have dn:=ZJ s d0 d1 (ag s g).cases.length
   split
   ·exact key _ _ (by rw [dn];split <;> omega) Zr
   ·split
    ·rw [EJ _ _ _ _ _ (by exact hg)];exact key _ _ (by rw [dn];split <;> omega) Zr
    ·obtain ⟨z,z1,z2⟩:=nV (drawn s (ag s g).cases.length).2 { x with order:=[] ++ (eU (drawn s (ag s g).cases.length).1 (ag s g).cases.length).filter (fun i=>aT S (aH (ag s g) i).ch),aB:=aB (((eU (drawn s (ag s g).cases.length).1 (ag s g).cases.length).filter (fun i=>aT S (aH (ag s g) i).ch)).map (fun i=>(aH (ag s g) i).ch)),place:=24 };rw [z1];refine key _ _ (by rw [dn];split <;> omega) ?_;rw [z2];exact Zr
  ·have hc:(ag s g).cases=[]:=by
    unfold Pn.fG at ro;simp only [decide_eq_true_eq] at ro;exact (ro.2.2.2.2.2.2.2.2.2.2.2.2.1 k9).1
   have kf:=EK ro;have nV0:Y9 s (never (ai s g x) g) g:=by
    obtain ⟨z,z1,z2⟩:=nV s.drawn x;rw [show ai s g x=ai { s with drawn:=s.drawn } g x from rfl,z1];exact Y4 hc z (z2.trans xo)
   split
   ·rw [gT];exact Y4 hc _ xo
   split
   ·split
    ·rw [gT];exact Y4 hc _ xo
    ·exact nV0
   split
   ·split
    ·rw [gT];exact Y4 hc _ xo
    ·rw [pA];exact Y4 hc _ xo
   split
   ·split
    ·rw [gT];exact Y4 hc _ xo
    ·rw [pA];exact Y4 hc _ xo
   ·exfalso;omega
end
end Sx
open Go.RowKit
namespace Sx
def Za:Pn.Op:=⟨6,1,0,0,[],false⟩
def Y7:ah:=start [[Za]] ((0:Nat):Int) ((1:Nat):Int) []
def Y1:ah:=(jm Y7 0).1
def Y2:ah:=(jm Y1 0).1
end Sx
namespace Fl
open Sx Go.Proofs.Tryz
set_option maxRecDepth 100000
theorem aaw {p:List (List Pn.Op)} {sn cn:Int} {d l:List Int} (h:(j6 p sn cn d l).2=true):Sx.YS (j6 p sn cn d l).1:=by
 unfold j6 at h ⊢
 split at h
 ·cases h
 ·rename_i c;rw [if_neg c]
  split at h
  ·rename_i c2;rw [if_pos c2];unfold Sx.new at c2 ⊢
   split at c2
   ·cases c2
   ·rename_i r1
    split at c2
    ·cases c2
    ·rename_i r2;rw [if_neg r1,if_neg r2];exact Sx.YS.start.runs l
  ·cases h
theorem ZK:Sx.Good Y7:=Sx.Good.start (by decide +kernel) (by decide +kernel) (by simp) (by simp)
theorem ZL:Sx.Good Y1:=Zq ZK (by decide +kernel) (by decide +kernel)
theorem aax:Sx.Good Y2:=Zq ZL (by decide +kernel) (by decide +kernel)
theorem ZM:Pure prog 20 [] (.c (bI true)):=by
 have hr:Pn.right [[Za]]=true:=by decide +kernel
 have CN:=aac [[Za]] 0 1 [] hr (by omega) (by omega) (by omega) (by simp)
 change an _ _ _ _ (fun x:Nat × U=>(.bp [.c (.v (pt x.1)),.c (nI 0)],wd x.1 x.2 Y7)) at CN
 have C1:=fun b u=>Zp b u Y7 0 ZK (by decide +kernel) (by decide +kernel) (.inl (by decide +kernel))
 have C2:=fun b u=>Zp b u Y1 0 ZL (by decide +kernel) (by decide +kernel) (.inr (by decide +kernel))
 have CS:=fun b u=>AQ b u Y2 (Bd.fw (zI aax) (by omega))
 have e1:(jm Y7 0).2=true:=by decide +kernel
 have e2:(jm Y1 0).2=true:=by decide +kernel
 rw [e1] at C1;rw [e2] at C2
 change ∀ b u,an _ _ _ (wd b u Y7) (fun x:{ u':U // u'.H=u.H }=>(.c (bI true),wd b x.1 Y1)) at C1
 change ∀ b u,an _ _ _ (wd b u Y1) (fun x:{ u':U // u'.H=u.H }=>(.c (bI true),wd b x.1 Y2)) at C2
 haveI:Sx.bJ 0 Y1:=⟨by decide +kernel⟩
 have p1:((aa Y1 0).place != 18)=false:=by decide +kernel
 have A1:(Y2.done.map eM)[((0:Int)).toNat]?=some (eM ⟨0,0,0,0,0,-1,-1,0,⟨5,-1,0,false,0⟩⟩):=by kernel_rfl
 have A2:(Y2.gs.map eG)[((0:Int)).toNat]?=some (eG (aa Y2 0)):=iB (by decide +kernel);have q1:((Y2.done.length:Int) == 1)=true:=by decide +kernel
 have q2:((Y2.gs.length:Int) == 1)=true:=by decide +kernel
 have q3:((aa Y2 0).at_ == 1)=true:=by decide +kernel
 have q4:((aa Y2 0).place == 0)=true:=by decide +kernel
 refine an.intro func20 rfl rfl rfl (fun ok e=>?_)
 repeat (first | (refine K.binOp ?_;refine jq rfl rfl rfl (Qt.yI yJ rfl rfl) ?_) | (refine K.call ?_;refine JO.ld (Ld.fj CN (qb rfl) rfl (.cons .refl (.cons .refl (.cons (.c .nil) .nil)))) rfl ?_;intro x) | (refine K.lit ?_;first | (refine JO.ld (Ld.kF (mm:=[dH Za]) (qb rfl) rfl rfl rfl rfl rfl rfl (.of (by exact rfl))) rfl (fun _=>?_)) | (refine JO.ld (Ld.kF (mm:=[[.r 6 [dH Za]]]) (qb rfl) rfl rfl rfl rfl rfl rfl (.of (by exact rfl))) rfl (fun _=>?_))) | refine gn ?_)
 obtain ⟨b,u⟩:=x;simp only;have D1:=C1 b u
 repeat (first | (refine K.call ?_;refine JO.ld (Ld.aY D1 (qb rfl) rfl (.cons .refl (.cons .refl .nil))) rfl ?_;intro y) | refine oJ ?_)
 have D2:=C2 b y.1
 repeat (first | (refine K.load ?_;refine jq rfl rfl rfl (Qt.aL rfl (aN (g:=0) (s:=Y1)) (by exact rfl)) ?_) | (refine K.indexAddr ?_;refine jq rfl rfl rfl (Qt.aI rfl rfl (cL (g:=0)) (cM (g:=0) (s:=Y1))) ?_) | (refine K.call ?_;refine JO.ld (Ld.aY D2 (qb rfl) rfl (.cons .refl (.cons .refl .nil))) rfl ?_;intro z) | refine oJ ?_)
 have D3:=CS b z.1
 repeat (first | (refine K.call ?_;refine JO.ld (Ld.aY D3 (qb rfl) rfl (.cons .refl .nil)) rfl ?_;intro _) | refine ay ?_ | intro _)
 exact aD func20
theorem aay {s:ah} {k:Nat} (hk:k < s.av.length):(s.av.map eC)[((k:Int)).toNat]?=some (eC (Sx.cn s ((k:Int) + 1))):=by
 rw [Int.toNat_natCast,List.getElem?_map,mY hk];rfl
theorem aaz (p:List (List Pn.Op)) (sn cn:Int) (d l:List Int) (hd:∀ x∈d,0≤x∧x < 65536) :
  Pure prog 5 [.agg (ng p sn cn d),.c (ints l)] (.c (bI true)):=by
 have CR:=FL p sn cn d l hd;have HG:=FK (p:=p) (sn:=sn) (cn:=cn) (l:=l) hd;have HY:=aaw (p:=p) (sn:=sn) (cn:=cn) (d:=d) (l:=l);generalize j6 p sn cn d l=r at CR HG HY;obtain ⟨s,o⟩:=r;refine an.intro func5 rfl rfl rfl (fun ok e=>?_)
 cases o with
 | false =>
  repeat (first | (refine K.store ?_;refine JO.ld (Ld.bq rfl rfl rfl (by exact rfl) (by exact rfl)) rfl (fun _=>?_)) | refine kN (ZM) ?_ | refine ay ?_ | intro _)
  exact aD func5
 | true =>
 have G:Sx.Good s:=HG rfl;have Y:Sx.YS s:=HY rfl;have g8:=G.n8;have c8:=G.c8;have d1:=G.sO;have d0:=G.rK;have d5:=G.d5;clear HG HY
 repeat (first | (refine K.store ?_;refine JO.ld (Ld.bq rfl rfl rfl (by exact rfl) (by exact rfl)) rfl (fun _=>?_)) | refine kN (ZM) ?_ | refine ay ?_ | intro _)
 rename_i b2 b5 _;refine J.loop (ι:={ k:Nat // k≤s.gs.length }) (fun q=>[(29,.c (nI q.1)),(28,.c (nI s.gs.length)),(27,.c (.r 25 (s.gs.map eG))),(5,.c (.v (pt b5)))]) (fun _=>[.box b5 36 (aC s),.box b2 27 (ng p sn cn d)]) (fun q=>s.gs.length - q.1) ⟨0,Nat.zero_le _⟩ (fun X h=>h.aW ⟨rfl,rfl,rfl,rfl,trivial⟩) (fun q ih=>?_);obtain ⟨g,hk⟩:=q;simp only at hk ih ⊢
 by_cases hg:g < s.gs.length
 case neg =>
  have t1:(decide ((g:Int) < (s.gs.length:Int)))=false:=by simpa using hg
  repeat (refine gn ?_)
  exact aD func5
 have t1:(decide ((g:Int) < (s.gs.length:Int)))=true:=by simpa using hg
 have CO:=Cf s (FJ G)
 cases st:((aa s g).status != 0) with
 | true =>
  repeat (first | (refine K.store ?_;refine JO.ld (Ld.bq rfl rfl rfl (by exact rfl) (by exact rfl)) rfl (fun _=>?_)) | (refine K.binOp ?_;refine jq rfl rfl rfl (Qt.yI yJ rfl rfl) ?_) | (refine K.call ?_;refine JO.ld (Ld.aY CO (qb rfl) rfl (.cons .refl .nil)) rfl ?_;intro x) | refine ay ?_ | intro _)
  obtain ⟨⟨b9,u⟩,hu⟩:=x;refine J.uI b9 ?_;refine J.cS 0 ?_;exact (ih ⟨g + 1,by omega⟩ (by simp only;omega)).aW ⟨rfl,rfl,rfl,rfl,trivial⟩
 | false =>
 cases pl:((aa s g).place != 0) with
 | true =>
  repeat (first | (refine K.store ?_;refine JO.ld (Ld.bq rfl rfl rfl (by exact rfl) (by exact rfl)) rfl (fun _=>?_)) | (refine K.binOp ?_;refine jq rfl rfl rfl (Qt.yI yJ rfl rfl) ?_) | (refine K.call ?_;refine JO.ld (Ld.aY CO (qb rfl) rfl (.cons .refl .nil)) rfl ?_;intro x) | refine ay ?_ | intro _)
  obtain ⟨⟨b9,u⟩,hu⟩:=x;refine J.uI b9 ?_;refine J.cS 0 ?_;exact (ih ⟨g + 1,by omega⟩ (by simp only;omega)).aW ⟨rfl,rfl,rfl,rfl,trivial⟩
 | false =>
 have kG:(aa s g).status=0:=by simpa using st
 have ZN:(aa s g).place=0:=by simpa using pl
 have GS:=Zq G hg kG;obtain ⟨LT,LK⟩:=aau G Y hg ZN;have FW:=Bd.fw (zI GS) (by omega);have C0:=fun b u=>Zp b u s g G hg kG (.inl ZN)
 rw [LT] at C0;generalize (jm s g).1=s2 at C0 FW LK GS;have OP:=U8 G.toMInv hg;have CP:=dI s g hg (G.toMInv.loc hg).a0;have dr:=LK.dr;have N0:((ag s g).cases.length:Int)≤6:=by have:=OP.2.2;omega
 have N1:(0:Int)≤((ag s g).cases.length:Int):=Int.natCast_nonneg _;have w1:IntKind.i64.wrap ((s.di.length:Int) - s.drawn)=(s.di.length:Int) - s.drawn:=dJ (by omega) (by omega);have w2:IntKind.i64.wrap (s2.drawn - s.drawn)=s2.drawn - s.drawn:=by
  refine dJ ?_ ?_ <;> rw [dr] <;> split <;> omega
 have c82:s2.av.length≤8:=by rw [LK.ch];exact c8
 have g82:s2.gs.length≤8:=by rw [LK.gl];exact g8
 have xo:=((zI GS).gr g).od;have q2:((s2.av.length:Int) != (s.av.length:Int))=false:=by rw [LK.ch];simp
 have q3:((s2.done.length:Int) != (s.done.length:Int))=false:=by rw [LK.dn];simp
 repeat (first | (refine K.store ?_;refine JO.ld (Ld.bq rfl rfl rfl (by exact rfl) (by exact rfl)) rfl (fun _=>?_)) | (refine K.binOp ?_;refine jq rfl rfl rfl (Qt.yI yJ rfl rfl) ?_) | (refine K.call ?_;refine JO.ld (Ld.aY CO (qb rfl) rfl (.cons .refl .nil)) rfl ?_;intro x) | refine ay ?_ | intro _)
 obtain ⟨⟨b9,u⟩,hu⟩:=x;simp only at hu ⊢;have C1:=C0 b9 u
 repeat (first | (refine K.call ?_;refine JO.ld (Ld.aY C1 (qb rfl) rfl (.cons .refl (.cons .refl .nil))) rfl ?_;intro y) | refine oJ ?_)
 repeat (refine gn ?_)
 have CT:=AQ b9 y.1 s2 FW
 repeat (first | (refine K.store ?_;refine JO.ld (Ld.bq rfl rfl rfl (by exact rfl) (by exact rfl)) rfl (fun _=>?_)) | (refine K.call ?_;refine JO.ld (Ld.aY CT (qb rfl) rfl (.cons .refl .nil)) rfl ?_;intro _) | (refine ga ?_;intro _))
 repeat (first | (refine K.binOp ?_;refine jq rfl rfl rfl ((Qt.cJ rfl rfl rfl w1)) ?_) | refine gn ?_)
 rename_i b8 _ _ mu _;refine J.uI b9 ?_;refine J.Ih (ι:=Unit) (fun _=>[(11,.c (nI (s2.drawn - s.drawn))),(29,.c (nI g)),(28,.c (nI s.gs.length)),(27,.c (.r 25 (s.gs.map eG))),(7,.c (nI g)),(10,.c (.v (pt mu))),(5,.c (.v (pt b5)))]) (fun _=>[.box mu 36 (aC s2),.box b8 47 (eG (aa s g)),.box b5 36 (aC s),.box b2 27 (ng p sn cn d)]) (fun _=>?_) (fun KK rest=>?_)
 rotate_left
 ·cases t2:decide (((ag s g).cases.length:Int) > (s.di.length:Int) - s.drawn) with
  | true =>
   rw [if_pos (by have:=of_decide_eq_true t2;omega)] at dr;rw [dr] at rest
   repeat (first | (refine K.binOp ?_;refine jq rfl rfl rfl ((Qt.cJ rfl rfl rfl w1)) ?_) | refine gn ?_)
   exact (rest ()).aW ⟨rfl,rfl,rfl,rfl,rfl,rfl,rfl,trivial⟩
  | false =>
   rw [if_neg (by have:=of_decide_eq_false t2;omega)] at dr;rw [dr] at rest
   repeat (refine gn ?_)
   exact (rest ()).aW ⟨rfl,rfl,rfl,rfl,rfl,rfl,rfl,trivial⟩
 repeat (first | (refine K.binOp ?_;first | refine jq rfl rfl rfl ((Qt.cJ rfl rfl rfl w2)) ?_ | refine jq rfl rfl rfl (Qt.tr rfl rfl) ?_) | refine gn ?_)
 refine J.loop (ι:={ k:Nat // k≤s2.av.length }) (fun q=>[(101,.c (nI q.1)),(100,.c (nI s2.av.length)),(29,.c (nI g)),(28,.c (nI s.gs.length)),(27,.c (.r 25 (s.gs.map eG))),(7,.c (nI g)),(10,.c (.v (pt mu))),(5,.c (.v (pt b5)))]) (fun _=>[.box mu 36 (aC s2),.box b8 47 (eG (aa s g)),.box b5 36 (aC s),.box b2 27 (ng p sn cn d)]) (fun q=>s2.av.length - q.1) ⟨0,Nat.zero_le _⟩ (fun X h=>h.aW ⟨rfl,rfl,rfl,rfl,rfl,rfl,rfl,rfl,trivial⟩) (fun q ZO=>?_);obtain ⟨i,hi⟩:=q;simp only at hi ZO ⊢
 by_cases dM:i < s2.av.length
 ·have t3:(decide ((i:Int) < (s2.av.length:Int)))=true:=by simpa using dM
  have E1:=aay (s:=s) (k:=i) (by rw [← LK.ch];exact dM);have E2:(s2.av.map eC)[((i:Int)).toNat]?=some (eC (Sx.cn s ((i:Int) + 1))):=by rw [LK.ch];exact E1
  repeat (refine gn ?_)
  refine J.draw (by kernel_rfl) rfl ?_;refine JW.base none ?_;refine tk 0 ?_;refine tk 1 ?_;refine tk 2 ?_;refine JD.take 3 rfl rfl (by kernel_rfl) rfl (qb rfl) (Qt.cI rfl rfl (by omega) E2) rfl ?_;refine tk 4 ?_;refine tk 5 ?_;refine tk 6 ?_;refine tk 7 ?_;refine tk 8 ?_;refine JD.take 9 rfl rfl (by kernel_rfl) rfl (qb rfl) (Qt.cI rfl rfl (by omega) E1) rfl ?_;refine tk 10 ?_;refine tk 11 ?_;refine JD.take 12 rfl rfl (by kernel_rfl) rfl (qb rfl) (Qt.tr rfl rfl) rfl ?_;refine tk 13 ?_;refine tk 14 ?_;refine tk 15 ?_;refine tk 16 ?_
  (refine JD.take 17 rfl rfl (by kernel_rfl) rfl (qb rfl) (Qt.cI rfl rfl (by omega) E2) rfl ?_)
  refine tk 18 ?_;refine tk 19 ?_;refine tk 20 ?_;refine tk 21 ?_;refine tk 22 ?_;refine tk 23 ?_
  (refine JD.take 24 rfl rfl (by kernel_rfl) rfl (qb rfl) (Qt.cI rfl rfl (by omega) E1) rfl ?_)
  refine tk 25 ?_;refine tk 26 ?_;refine tk 27 ?_
  (refine JD.take 28 rfl rfl (by kernel_rfl) rfl (qb rfl) (Qt.tr rfl rfl) rfl ?_)
  refine tk 29 ?_;refine tk 30 ?_;refine tk 31 ?_;refine tk 32 ?_;refine tk 33 ?_
  (refine JD.take 34 rfl rfl (by kernel_rfl) rfl (qb rfl) (Qt.cI rfl rfl (by omega) E2) rfl ?_)
  refine tk 35 ?_;refine tk 36 ?_;refine tk 37 ?_;refine tk 38 ?_;refine tk 39 ?_
  (refine JD.take 40 rfl rfl (by kernel_rfl) rfl (qb rfl) (Qt.cI rfl rfl (by omega) E1) rfl ?_)
  refine tk 41 ?_;refine tk 42 ?_
  (refine JD.take 43 rfl rfl (by kernel_rfl) rfl (qb rfl) (Qt.Mb rfl rfl) rfl ?_)
  refine tk 44 ?_;refine bE ?_
  repeat (refine gn ?_)
  exact (ZO ⟨i + 1,by omega⟩ (by simp only;omega)).aW ⟨rfl,rfl,rfl,rfl,rfl,rfl,rfl,rfl,trivial⟩
 have t3:(decide ((i:Int) < (s2.av.length:Int)))=false:=by simpa using dM
 repeat (refine gn ?_)
 refine J.loop (ι:={ k:Nat // k≤s2.gs.length }) (fun q=>[(153,.c (nI q.1)),(152,.c (nI s2.gs.length)),(29,.c (nI g)),(28,.c (nI s.gs.length)),(27,.c (.r 25 (s.gs.map eG))),(7,.c (nI g)),(10,.c (.v (pt mu))),(5,.c (.v (pt b5)))]) (fun _=>[.box mu 36 (aC s2),.box b8 47 (eG (aa s g)),.box b5 36 (aC s),.box b2 27 (ng p sn cn d)]) (fun q=>s2.gs.length - q.1) ⟨0,Nat.zero_le _⟩ (fun X h=>h.aW ⟨rfl,rfl,rfl,rfl,rfl,rfl,rfl,rfl,trivial⟩) (fun q fP=>?_);obtain ⟨h,hh⟩:=q;simp only at hh fP ⊢
 by_cases Rb:h < s2.gs.length
 ·have t4:(decide ((h:Int) < (s2.gs.length:Int)))=true:=by simpa using Rb
  have E1:=iB (s:=s) (g:=h) (by have:=LK.gl;omega)
  by_cases hc:h=g
  ·have c1:((h:Int) != (g:Int))=false:=by simp [hc]
   repeat (refine gn ?_)
   refine J.draw (by kernel_rfl) rfl ?_;refine JW.base none ?_;refine tk 0 ?_;refine tk 1 ?_;refine JD.take 2 rfl rfl (by kernel_rfl) rfl (qb rfl) (Qt.cmp rfl rfl (congrArg some c1)) rfl ?_;refine tk 3 ?_
   (refine JD.skip 4 rfl rfl (by kernel_rfl) rfl (qb rfl) ?_)
   (refine JD.skip 5 rfl rfl (by kernel_rfl) rfl (qb rfl) ?_)
   (refine JD.skip 6 rfl rfl (by kernel_rfl) rfl (qb rfl) ?_)
   refine JD.skip 7 rfl rfl (by kernel_rfl) rfl (qb rfl) ?_
   (refine JD.skip 8 rfl rfl (by kernel_rfl) rfl (qb rfl) ?_)
   (refine JD.skip 9 rfl rfl (by kernel_rfl) rfl (qb rfl) ?_)
   (refine JD.skip 10 rfl rfl (by kernel_rfl) rfl (qb rfl) ?_)
   (refine JD.skip 11 rfl rfl (by kernel_rfl) rfl (qb rfl) ?_)
   (refine JD.skip 12 rfl rfl (by kernel_rfl) rfl (qb rfl) ?_)
   refine JD.skip 13 rfl rfl (by kernel_rfl) rfl (qb rfl) ?_
   (refine JD.skip 14 rfl rfl (by kernel_rfl) rfl (qb rfl) ?_)
   (refine JD.skip 15 rfl rfl (by kernel_rfl) rfl (qb rfl) ?_)
   (refine JD.skip 16 rfl rfl (by kernel_rfl) rfl (qb rfl) ?_)
   (refine JD.skip 17 rfl rfl (by kernel_rfl) rfl (qb rfl) ?_)
   (refine JD.skip 18 rfl rfl (by kernel_rfl) rfl (qb rfl) ?_)
   (refine JD.skip 19 rfl rfl (by kernel_rfl) rfl (qb rfl) ?_)
   (refine JD.skip 20 rfl rfl (by kernel_rfl) rfl (qb rfl) ?_)
   refine JD.skip 21 rfl rfl (by kernel_rfl) rfl (qb rfl) ?_
   (refine JD.skip 22 rfl rfl (by kernel_rfl) rfl (qb rfl) ?_)
   (refine JD.skip 23 rfl rfl (by kernel_rfl) rfl (qb rfl) ?_)
   (refine JD.skip 24 rfl rfl (by kernel_rfl) rfl (qb rfl) ?_)
   (refine JD.skip 25 rfl rfl (by kernel_rfl) rfl (qb rfl) ?_)
   (refine JD.skip 26 rfl rfl (by kernel_rfl) rfl (qb rfl) ?_)
   refine JD.skip 27 rfl rfl (by kernel_rfl) rfl (qb rfl) ?_
   (refine JD.skip 28 rfl rfl (by kernel_rfl) rfl (qb rfl) ?_)
   (refine JD.skip 29 rfl rfl (by kernel_rfl) rfl (qb rfl) ?_)
   (refine JD.skip 30 rfl rfl (by kernel_rfl) rfl (qb rfl) ?_)
   (refine JD.skip 31 rfl rfl (by kernel_rfl) rfl (qb rfl) ?_)
   refine tk 32 ?_;refine bE ?_
   repeat (refine gn ?_)
   exact (fP ⟨h + 1,by omega⟩ (by simp only;omega)).aW ⟨rfl,rfl,rfl,rfl,rfl,rfl,rfl,rfl,trivial⟩
  ·have c1:((h:Int) != (g:Int))=true:=by simp;omega
   obtain ⟨G1,G2⟩:=LK.o h hc;have E2:(s2.gs.map eG)[((h:Int)).toNat]?=some (eG { aa s2 h with status:=(aa s h).status,place:=(aa s h).place }):=by rw [← G1,← G2];exact iB Rb
   repeat (refine gn ?_)
   refine J.draw (by kernel_rfl) rfl ?_;refine JW.base none ?_;refine tk 0 ?_;refine tk 1 ?_;refine JD.take 2 rfl rfl (by kernel_rfl) rfl (qb rfl) (Qt.cmp rfl rfl (congrArg some c1)) rfl ?_;refine tk 3 ?_;refine tk 4 ?_;refine tk 5 ?_;refine tk 6 ?_
   (refine JD.take 7 rfl rfl (by kernel_rfl) rfl (qb rfl) (Qt.cI rfl rfl (by omega) E2) rfl ?_)
   refine tk 8 ?_;refine tk 9 ?_;refine tk 10 ?_;refine tk 11 ?_;refine tk 12 ?_
   (refine JD.take 13 rfl rfl (by kernel_rfl) rfl (qb rfl) (Qt.cI rfl rfl (by omega) E1) rfl ?_)
   refine tk 14 ?_;refine tk 15 ?_
   (refine JD.take 16 rfl rfl (by kernel_rfl) rfl (qb rfl) (Qt.tr rfl rfl) rfl ?_)
   refine tk 17 ?_;refine tk 18 ?_;refine tk 19 ?_;refine tk 20 ?_
   (refine JD.take 21 rfl rfl (by kernel_rfl) rfl (qb rfl) (Qt.cI rfl rfl (by omega) E2) rfl ?_)
   refine tk 22 ?_;refine tk 23 ?_;refine tk 24 ?_;refine tk 25 ?_;refine tk 26 ?_
   (refine JD.take 27 rfl rfl (by kernel_rfl) rfl (qb rfl) (Qt.cI rfl rfl (by omega) E1) rfl ?_)
   refine tk 28 ?_;refine tk 29 ?_
   (refine JD.take 30 rfl rfl (by kernel_rfl) rfl (qb rfl) (Qt.tr rfl rfl) rfl ?_)
   refine tk 31 ?_;refine tk 32 ?_;refine bE ?_
   repeat (refine gn ?_)
   exact (fP ⟨h + 1,by omega⟩ (by simp only;omega)).aW ⟨rfl,rfl,rfl,rfl,rfl,rfl,rfl,rfl,trivial⟩
 have t4:(decide ((h:Int) < (s2.gs.length:Int)))=false:=by simpa using Rb
 have E3:=iB (s:=s2) (g:=g) (by have:=LK.gl;omega);have od:=LK.od;obtain ⟨x2,qO⟩:∃ x,aa s2 g=x:=⟨_,rfl⟩
 rw [qO] at E3 od xo
 repeat (refine gn ?_)
 refine J.loop (ι:={ k:Nat // k≤x2.order.length }) (fun q=>[(197,.c (nI q.1)),(196,.c (nI x2.order.length)),(195,.c (ints x2.order)),(29,.c (nI g)),(28,.c (nI s.gs.length)),(27,.c (.r 25 (s.gs.map eG))),(7,.c (nI g)),(10,.c (.v (pt mu))),(5,.c (.v (pt b5)))]) (fun _=>[.box mu 36 (aC s2),.box b8 47 (eG (aa s g)),.box b5 36 (aC s),.box b2 27 (ng p sn cn d)]) (fun q=>x2.order.length - q.1) ⟨0,Nat.zero_le _⟩ (fun X h=>h.aW ⟨rfl,rfl,rfl,rfl,rfl,rfl,rfl,rfl,rfl,trivial⟩) (fun q lE=>?_);obtain ⟨k,cP⟩:=q;simp only at cP lE ⊢
 by_cases bF:k < x2.order.length
 ·have t5:(decide ((k:Int) < (x2.order.length:Int)))=true:=by simpa using bF
  have A:=YZ bF;have m:=od (x2.order.getD k 0) (by rw [List.getD_eq_getElem?_getD,List.getElem?_eq_getElem bF];exact List.getElem_mem bF);generalize x2.order.getD k 0=i at A m;have AC:=at_case m.1 m.2.1;have c1:decide (i < 0)=false:=decide_eq_false (by omega);have c2:decide (i ≥ ((ag s g).cases.length:Int))=false:=decide_eq_false (by omega);have CM:=fH s (aH (ag s g) i).ch;rw [m.2.2] at CM
  repeat (refine gn ?_)
  refine J.draw (by kernel_rfl) rfl ?_;refine JW.base none ?_;refine tk 0 ?_;refine JD.take 1 rfl rfl (by kernel_rfl) rfl (qb rfl) (Qt.cmp rfl rfl (congrArg some c1)) rfl ?_;refine tk 2 ?_;refine tk 3 ?_;refine tk 4 ?_;refine tk 5 ?_;refine dA 6 (CP) ?_;refine jk 7 rfl rfl rfl rfl (Qt.field (cs:=dH (ag s g)) rfl rfl (by kernel_rfl) rfl) ?_;refine jk 8 rfl rfl rfl rfl (Qt.ve rfl) ?_
  (refine JD.take 9 rfl rfl (by kernel_rfl) rfl (qb rfl) (Qt.cmp rfl rfl (congrArg some c2)) rfl ?_)
  refine jk 10 rfl rfl rfl rfl (Qt.pick rfl rfl) ?_;refine jk 11 rfl rfl rfl rfl (Qt.move rfl) ?_;refine JD.lB ?_;refine tk 12 ?_;refine tk 13 ?_;refine tk 14 ?_;refine tk 17 ?_;refine dA 15 (CP) ?_;refine jk 16 rfl rfl rfl rfl (Qt.field (cs:=dH (ag s g)) rfl rfl (by kernel_rfl) rfl) ?_;refine jk 18 rfl rfl rfl rfl (Qt.cI rfl rfl m.1 AC) ?_;refine jk 19 rfl rfl rfl rfl (Qt.fieldAddr rfl rfl) ?_;refine jk 20 rfl rfl rfl rfl (Qt.qM rfl .el rfl) ?_;refine dA 21 (CM) ?_;refine tk 22 ?_;refine jk 23 rfl rfl rfl rfl (Qt.pick rfl rfl) ?_;refine bE ?_
  repeat (refine gn ?_)
  exact (lE ⟨k + 1,by omega⟩ (by simp only;omega)).aW ⟨rfl,rfl,rfl,rfl,rfl,rfl,rfl,rfl,rfl,trivial⟩
 have t5:(decide ((k:Int) < (x2.order.length:Int)))=false:=by simpa using bF
 repeat (refine gn ?_)
 refine J.cS 0 ?_;refine J.cS 0 ?_;exact (ih ⟨g + 1,by omega⟩ (by simp only;omega)).aW ⟨rfl,rfl,rfl,rfl,trivial⟩
theorem aaA (w:World) (cs:Array Value) (a:uq) (U:List Nat) (sz:cs.size=4) (he:sG w cs.toList a U) (oc:∀ y∈cs.toList,y.oneCell'=true) (v:Value) (l:List Int) (S:List Nat) (hl:GV (kY .i64) 1 w v l S) :
  Calls prog 5 #[.agg cs,v] w fun e w'=>e=.returned (.bool true)∧aP [] w w' :=
 FP (aaz a.p a.sn a.cn a.d l (FM he)) he hl
end Fl
end Go.Proofs.YtdjhhbpedllnhaaGreat
