/-
  What the laws need, part B28.
  Conditions: none.
-/
import Derived.Test.YtdjhhbpedllnhaaGreatB26
import Derived.Test.YtdjhhbpedllnhaaGreatB27
set_option linter.unusedVariables false
set_option linter.unusedSimpArgs false
set_option linter.unnecessarySimpa false
set_option maxHeartbeats 2000000
namespace Go.Proofs.YtdjhhbpedllnhaaGreat
open Go.RowKit
namespace Fl
open Sx Go.Proofs.Tryz
set_option maxRecDepth 100000
theorem at_atK {l:List Int} {k:Int} (h0:0≤k) (h:k < l.length):(l.map fun n=>[nI n])[k.toNat]?=some [nI (ax l k)]:=by
 unfold ax;rw [List.getElem?_map,List.getD_eq_getElem?_getD,List.getElem?_eq_getElem (show k.toNat < l.length by omega)];rfl
theorem at_case {o:Pn.Op} {i:Int} (h0:0≤i) (h:i < o.cases.length):(o.cases.map mc)[i.toNat]?=some (mc (aH o i)):=by
 unfold aH;rw [List.getElem?_map,List.getD_eq_getElem?_getD,List.getElem?_eq_getElem (show i.toNat < o.cases.length by omega)];rfl
section
variable {P:Program} {c:Cx} {k:List Item} {f:Fm} {b:Nat} {u:U} {s:ah} {g:Nat}
abbrev jw (u:U) (g:Nat) (v:Value):U:={ u with sg:=fun k=>if k=g then v else u.sg k }
theorem J.Vv (g:Nat) {x:Gr} [hg:Sx.bJ g s] [hx:Sx.dB s g x] (h:J P c k f (.row (u.sg g) 3 1 (aF x.aq) :: wl b u s (dQ u s) (s.gs.map fun x=>(x.status,x.token)) ((eE u s).eraseIdx g))):J P c k f (wd b u s):=by
 have ex:=hx.h;subst ex;exact J.perm (oC (wd b u s) (g + 12) (r:=.row (u.sg g) 3 1 (aF (aa s g).aq)) (vT (u:=u) hg.h)) h
theorem J.Vw (g:Nat) (v:Value) (l:List Int) {x:Gr} {G W:List (List A)} [hg:Sx.bJ g s] [hx:Sx.dB s g x] (hW:W=aF l) (hG:G=(dQ u s).set g (gW { x with aq:=l } v (u.wk g))) (h:J P c k f (wd b (jw u g v) (aK s g fun x=>{ x with aq:=l }))):J P c k f (.row v 3 1 W :: wl b u s G (s.gs.map fun x=>(x.status,x.token)) ((eE u s).eraseIdx g)):=by
 have ex:=hx.h;subst ex;subst hW hG;refine J.perm ?_ h;have e1:dQ (jw u g v) (aK s g fun x=>{ x with aq:=l })=(dQ u s).set g (gW { aa s g with aq:=l } v (u.wk g)):=(AO (u:=u) (u':=jw u g v) (x:={ aa s g with aq:=l }) (v:=v) (w:=u.wk g) hg.h ⟨if_pos rfl,rfl⟩ fun k hk=>⟨if_neg hk,rfl⟩).symm;have e2:(aK s g fun x=>{ x with aq:=l }).gs.map (fun x=>(x.status,x.token))=s.gs.map fun x=>(x.status,x.token):=yD hg.h ⟨rfl,rfl⟩
 have e3:eE (jw u g v) (aK s g fun x=>{ x with aq:=l })=(eE u s).set g (.row v 3 1 (aF l)):=(D9 (x:={ aa s g with aq:=l }) hg.h rfl).symm
 show (wl b (jw u g v) (aK s g fun x=>{ x with aq:=l }) (dQ (jw u g v) (aK s g fun x=>{ x with aq:=l })) ((aK s g fun x=>{ x with aq:=l }).gs.map fun x=>(x.status,x.token)) (eE (jw u g v) (aK s g fun x=>{ x with aq:=l }))).Perm _;rw [e1,e2,e3];have hp:=set_perm (r':=aj.row v 3 1 (aF l)) (vT (u:=u) hg.h);exact (hp.append_left (wl b u s ((dQ u s).set g (gW { aa s g with aq:=l } v (u.wk g))) (s.gs.map fun x=>(x.status,x.token)) [])).trans List.perm_middle
theorem bY.sg {v:Value} (h:bY u s):bY (jw u g v) s:=h
theorem zL (b:Nat) (u:U) {s:ah} {g:Nat} (hg:g < s.gs.length):fU (wd b u s) (u.sg g) 3 1 (aF (aa s g).aq) (g + 12):=⟨vT (u:=u) hg⟩
theorem Vx (b:Nat) (u:U) {s:ah} {g:Nat} (hg:g < s.gs.length):fU (wd b u s) (u.wk g) 3 1 (aF (aa s g).au) (s.gs.length + g + 12):=⟨vU (u:=u) hg⟩
end
theorem LF (ch:Int) (k:Nat) (hk:ch=(k:Int) + 1) (h8:k < 8):Pure prog 149 [.c (nI ch)] (.c (nI (2 * ((k:Int) + 1) - 2))):=by
 have w1:IntKind.i64.wrap (2 * ch)=2 * ((k:Int) + 1):=by rw [hk];exact dJ (by omega) (by omega)
 have w2:IntKind.i64.wrap (2 * ((k:Int) + 1) - 2)=2 * ((k:Int) + 1) - 2:=dJ (by omega) (by omega);refine an.intro func149 rfl rfl rfl (fun ok e=>?_)
 repeat (first | (refine K.binOp ?_;first | refine jq rfl rfl rfl ((Qt.cJ rfl rfl rfl w1)) ?_ | refine jq rfl rfl rfl ((Qt.cJ rfl rfl rfl w2)) ?_) | refine gn ?_)
 exact aD func149
theorem LG (ch:Int) (k:Nat) (hk:ch=(k:Int) + 1) (h8:k < 8):Pure prog 150 [.c (nI ch)] (.c (nI (2 * ((k:Int) + 1) - 1))):=by
 have w1:IntKind.i64.wrap (2 * ch)=2 * ((k:Int) + 1):=by rw [hk];exact dJ (by omega) (by omega)
 have w2:IntKind.i64.wrap (2 * ((k:Int) + 1) - 1)=2 * ((k:Int) + 1) - 1:=dJ (by omega) (by omega);refine an.intro func150 rfl rfl rfl (fun ok e=>?_)
 repeat (first | (refine K.binOp ?_;first | refine jq rfl rfl rfl ((Qt.cJ rfl rfl rfl w1)) ?_ | refine jq rfl rfl rfl ((Qt.cJ rfl rfl rfl w2)) ?_) | refine gn ?_)
 exact aD func150
theorem uP (b:Nat) (u:U) (s:ah) (g:Nat) (hg:g < s.gs.length) (k0:0≤(aa s g).k) (k1:(aa s g).k < (aa s g).order.length) :
  an prog 141 [.c (.v (pt b)),.c (nI g)] (wd b u s) (fun _:Unit=>(.c (nI (ax (aa s g).order (aa s g).k)),wd b u s)):=by
 haveI:Sx.bJ g s:=⟨hg⟩
 have HK:=at_atK k0 k1;refine an.intro func141 rfl rfl rfl (fun ok e=>?_)
 repeat (refine gn ?_)
 refine J.draw (by kernel_rfl) rfl ?_;refine JW.base none ?_;refine tk 0 ?_;refine tk 1 ?_;refine tk 2 ?_;refine tk 3 ?_;refine tk 4 ?_;refine JD.take 5 rfl rfl (by kernel_rfl) rfl (qb rfl) (Qt.aI rfl rfl cL cM) rfl ?_;refine tk 6 ?_;refine JD.take 7 rfl rfl (by kernel_rfl) rfl (qb rfl) (Qt.aL rfl aN rfl) rfl ?_;refine tk 8 ?_;refine tk 9 ?_;refine tk 10 ?_;refine tk 11 ?_;refine tk 12 ?_;refine JD.take 13 rfl rfl (by kernel_rfl) rfl (qb rfl) (Qt.aI rfl rfl cL cM) rfl ?_;refine tk 14 ?_;refine JD.take 15 rfl rfl (by kernel_rfl) rfl (qb rfl) (Qt.aL rfl aN rfl) rfl ?_;refine JD.take 16 rfl rfl (by kernel_rfl) rfl (qb rfl) (Qt.cI rfl rfl k0 HK) rfl ?_;refine tk 17 ?_;refine tk 18 ?_;refine bE ?_
 repeat (fail)
 (exact J.bN func141 rfl (.cons (.tmp rfl) .nil) () (by exact .refl) rfl)
theorem Vy {s:ah} {g:Nat} {p:Int} (hg:g < s.gs.length):Sx.unlock s g p=aK (aK s g fun x=>{ x with k:=(aa s g).aB.length }) g fun x=>{ x with place:=p }:=by
 rw [gR hg];rfl
theorem uQ (b:Nat) (u:U) (s:ah) (g:Nat) (p:Int) (hg:g < s.gs.length) :
  an prog 147 [.c (.v (pt b)),.c (nI g),.c (nI p)] (wd b u s) (fun _:Unit=>(.bp [],wd b u (Sx.unlock s g p))):=by
 haveI:Sx.bJ g s:=⟨hg⟩
 rw [Vy hg];refine an.intro func147 rfl rfl rfl (fun ok e=>?_)
 repeat ((refine J.seq ?_))
 refine J.draw (by kernel_rfl) rfl ?_;refine JW.base (some 16) ?_;refine tk 0 ?_;refine tk 1 ?_;refine tk 2 ?_;refine tk 3 ?_;refine tk 4 ?_;refine tk 5 ?_;refine tk 6 ?_;refine tk 7 ?_;refine tk 8 ?_;refine tk 9 ?_;refine JD.take 10 rfl rfl (by kernel_rfl) rfl (qb rfl) (Qt.aI rfl rfl cL cM) rfl ?_;refine tk 11 ?_;refine JD.take 12 rfl rfl (by kernel_rfl) rfl (qb rfl) (Qt.aL rfl aN rfl) rfl ?_;refine tk 13 ?_;refine JD.bz 14 rfl rfl (by kernel_rfl) rfl (qb rfl) (Qt.aI rfl rfl cL cM) rfl ?_;refine tk 15 ?_;refine jt 16 rfl rfl (Ld.bL rfl rfl (by exact rfl) aN) (fun _=>?_);refine bR ?_;refine J.cH b g (fun x=>{ x with k:=(aa s g).aB.length }) (by exact rfl) ?_
 repeat (first | (refine K.store ?_;((refine JO.ld (Ld.bL rfl rfl (by exact rfl) aN) rfl (fun _=>?_)));refine JO.cH b g (fun x=>{ x with place:=p }) (by exact rfl) ?_) | (refine K.indexAddr ?_;refine jq rfl rfl rfl (Qt.aI rfl rfl cL cM) ?_) | refine gn ?_)
 (exact J.iV func147 rfl .nil () (by exact .refl) rfl)
theorem LH (b:Nat) (u:U) (s:ah) (g:Nat) (hg:g < s.gs.length) :
  an prog 153 [.c (.v (pt b)),.c (nI g)] (wd b u s) (fun _:Unit=>(.c (nI (if 0 < (aa s g).au.length then 17 else 18)),wd b u s)):=by
 haveI:Sx.bJ g s:=⟨hg⟩
 haveI:=Vx b u hg;refine an.intro func153 rfl rfl rfl (fun ok e=>?_)
 by_cases h:0 < (aa s g).au.length
 ·have c1:decide (((aF (aa s g).au).length:Int) > 0)=true:=decide_eq_true (by rw [c7];omega);rw [if_pos h]
  repeat (first | (refine K.load ?_;((refine jq rfl rfl rfl (Qt.aL rfl (aN) (by exact rfl)) ?_))) | (refine K.indexAddr ?_;refine jq rfl rfl rfl (Qt.aI rfl rfl cL cM) ?_) | refine gn ?_)
  (exact J.bN func153 rfl (.cons (.tmp rfl) .nil) () (by exact .refl) rfl)
 ·have c1:decide (((aF (aa s g).au).length:Int) > 0)=false:=decide_eq_false (by rw [c7];omega);rw [if_neg h]
  repeat (first | (refine K.load ?_;((refine jq rfl rfl rfl (Qt.aL rfl (aN) (by exact rfl)) ?_))) | (refine K.indexAddr ?_;refine jq rfl rfl rfl (Qt.aI rfl rfl cL cM) ?_) | refine gn ?_)
  (exact J.bN func153 rfl (.cons (.tmp rfl) .nil) () (by exact .refl) rfl)
theorem Vz {s:ah} {g:Nat} (e:(aa s g).place=27):Sx.dG s g=aK s g fun x=>{ x with dm:=ax (aa s g).order (aa s g).k }:=by
 unfold Sx.dG aK;dsimp only;rw [if_pos e]
theorem VA {s:ah} {g:Nat} (hg:g < s.gs.length) (e:(aa s g).place≠27):Sx.dG s g=s:=by
 unfold Sx.dG;dsimp only;rw [if_neg e];exact Bq hg
theorem FV (b:Nat) (u:U) (s:ah) (g:Nat) (hg:g < s.gs.length) (hk:(aa s g).place=27→0≤(aa s g).k∧(aa s g).k < (aa s g).order.length) :
  an prog 82 [.c (.v (pt b)),.c (nI g)] (wd b u s) (fun _:Unit=>(.bp [],wd b u (Sx.dG s g))):=by
 haveI:Sx.bJ g s:=⟨hg⟩
 refine an.intro func82 rfl rfl rfl (fun ok e=>?_)
 cases LI:((aa s g).place == 27) with
 | true =>
  have mE:(aa s g).place=27:=by simpa using LI
  have CH:=uP b u s g hg (hk mE).1 (hk mE).2;rw [Vz mE]
  repeat (first | (refine K.load ?_;((refine jq rfl rfl rfl (Qt.aL rfl (aN) (by exact rfl)) ?_))) | (refine K.indexAddr ?_;refine jq rfl rfl rfl (Qt.aI rfl rfl cL cM) ?_) | refine gn ?_)
  refine J.draw (by kernel_rfl) rfl ?_;refine JW.ya (some 10) ?_;refine tk 0 ?_;refine tk 1 ?_;refine tk 2 ?_;refine tk 4 ?_;refine tk 5 ?_;refine tk 6 ?_;refine JD.cU (i:=3) (j:=7) (by kernel_rfl) ?_ ?_
  (refine JS.q rfl rfl rfl (qb rfl) (Qt.hJ rfl (by exact rfl)) ?_)
  refine JD.gU (i:=7) (by kernel_rfl) ?_;refine JS.kA rfl rfl rfl (qb rfl) (Ld.aY CH (qb rfl) rfl (.cons .refl (.cons .refl .nil))) (iA.bu) (fun _=>?_);refine jk 8 rfl rfl rfl rfl (Qt.aI rfl rfl cL cM) ?_;refine jk 9 rfl rfl rfl rfl (Qt.fieldAddr rfl rfl) ?_;refine jt 10 rfl rfl (Ld.bL rfl rfl (by exact rfl) aN) (fun _=>?_);refine bR ?_
  rotate_left
  refine JS.kA rfl rfl rfl (qb rfl) (Ld.aY CH (qb rfl) rfl (.cons .refl (.cons .refl .nil))) (iA.bu) (fun _=>?_);refine jk 3 rfl rfl rfl rfl (Qt.hJ rfl (by exact rfl)) ?_;refine jk 8 rfl rfl rfl rfl (Qt.aI rfl rfl cL cM) ?_;refine jk 9 rfl rfl rfl rfl (Qt.fieldAddr rfl rfl) ?_;refine jt 10 rfl rfl (Ld.bL rfl rfl (by exact rfl) aN) (fun _=>?_);refine bR ?_
  rotate_left
  all_goals
   refine J.cH b g (fun x=>{ x with dm:=ax (aa s g).order (aa s g).k }) (by exact rfl) ?_
   repeat (fail)
   (exact J.iV func82 rfl .nil () (by exact .refl) rfl)
 | false =>
  rw [VA hg (by simpa using LI)]
  repeat (first | (refine K.load ?_;((refine jq rfl rfl rfl (Qt.aL rfl (aN) (by exact rfl)) ?_))) | (refine K.indexAddr ?_;refine jq rfl rfl rfl (Qt.aI rfl rfl cL cM) ?_) | refine gn ?_)
  (exact J.iV func82 rfl .nil () (by exact .refl) rfl)
theorem VB {s:ah} {g:Nat} {p:Int} (h:(cn s (ax (aa s g).aB (aa s g).k)).lock≠-1):Sx.lock s g p=s:=by
 unfold Sx.lock Sx.tryLock;simp only [h,if_false];rfl
theorem LJ (b:Nat) (u:U) (s:ah) (g kk:Nat) (p:Int) (hg:g < s.gs.length) (k0:0≤(aa s g).k) (k1:(aa s g).k < (aa s g).aB.length) (hl:(aa s g).aB.length≤1000) (hc:ax (aa s g).aB (aa s g).k=(kk:Int) + 1) (hk:kk < s.av.length) (h8:kk < 8) :
  an prog 79 [.c (.v (pt b)),.c (nI g),.c (nI p)] (wd b u s) (fun _:Unit=>(.bp [],wd b u (Sx.lock s g p))):=by
 haveI:Sx.bJ g s:=⟨hg⟩
 have HK:=at_atK k0 k1;have W:=J4 b u s kk g hk h8;have w1:IntKind.i64.wrap (ax (aa s g).aB (aa s g).k - 1)=(kk:Int) + 1 - 1:=by rw [hc];exact dJ (by omega) (by omega)
 have w2:IntKind.i64.wrap ((aa s g).k + 1)=(aa s g).k + 1:=dJ (by omega) (by omega);refine an.intro func79 rfl rfl rfl (fun ok e=>?_)
 by_cases lk:(cn s ((kk:Int) + 1)).lock=-1
 ·have e1:Sx.tryLock s g ((kk:Int) + 1)=(aE s ((kk:Int) + 1) { cn s ((kk:Int) + 1) with lock:=(g:Int) },true):=by unfold Sx.tryLock;rw [if_pos lk]
  rw [e1] at W;dsimp only at W;have er:Sx.lock s g p=if (aa s g).k + 1=(aa s g).aB.length then ai (aE s ((kk:Int) + 1) { cn s ((kk:Int) + 1) with lock:=(g:Int) }) g { aa s g with k:=0,place:=p } else ai (aE s ((kk:Int) + 1) { cn s ((kk:Int) + 1) with lock:=(g:Int) }) g { aa s g with k:=(aa s g).k + 1 }:=by
   unfold Sx.lock;dsimp only;rw [hc,e1,if_pos rfl]
  generalize hS:aE s ((kk:Int) + 1) { cn s ((kk:Int) + 1) with lock:=(g:Int) }=S at W er;have gS:aa S g=aa s g:=by rw [← hS];rfl
  have m8:g < S.gs.length:=by rw [← hS];exact hg
  haveI:Sx.bJ g S:=⟨m8⟩
  haveI:Sx.dB S g (aa s g):=⟨gS⟩
  rw [er]
  repeat (first | (refine K.indexAddr ?_;refine jq rfl rfl rfl (Qt.aI rfl rfl cL cM) ?_) | refine gn ?_)
  refine J.draw (by kernel_rfl) rfl ?_;refine JW.base (some 16) ?_;refine JD.bz 0 rfl rfl (by kernel_rfl) rfl (qb rfl) (Qt.move rfl) rfl ?_;refine JD.bz 1 rfl rfl (by kernel_rfl) rfl (qb rfl) (Qt.nilCheck rfl rfl) rfl ?_;refine JD.bz 2 rfl rfl (by kernel_rfl) rfl (qb rfl) (Qt.fieldAddr rfl rfl) rfl ?_;refine tk 3 ?_;refine JD.bz 4 rfl rfl (by kernel_rfl) rfl (qb rfl) (Qt.move rfl) rfl ?_;refine JD.bz 5 rfl rfl (by kernel_rfl) rfl (qb rfl) (Qt.nilCheck rfl rfl) rfl ?_;refine JD.bz 6 rfl rfl (by kernel_rfl) rfl (qb rfl) (Qt.fieldAddr rfl rfl) rfl ?_;refine JD.bz 7 rfl rfl (by kernel_rfl) rfl (qb rfl) (Qt.aL rfl aN rfl) rfl ?_;refine JD.bz 8 rfl rfl (by kernel_rfl) rfl (qb rfl) (Qt.move rfl) rfl ?_;refine JD.bz 9 rfl rfl (by kernel_rfl) rfl (qb rfl) (Qt.nilCheck rfl rfl) rfl ?_;refine JD.bz 10 rfl rfl (by kernel_rfl) rfl (qb rfl) (Qt.fieldAddr rfl rfl) rfl ?_;refine JD.bz 11 rfl rfl (by kernel_rfl) rfl (qb rfl) (Qt.aL rfl aN rfl) rfl ?_;refine JD.bz 12 rfl rfl (by kernel_rfl) rfl (qb rfl) (Qt.cI rfl rfl k0 HK) rfl ?_
  (refine JD.bz 13 rfl rfl (by kernel_rfl) rfl (qb rfl) (Qt.qM rfl .el rfl) rfl ?_)
  refine JD.take 14 rfl rfl (by kernel_rfl) rfl (qb rfl) (Qt.cJ rfl rfl rfl w1) rfl ?_;refine tk 15 ?_;refine jt 16 rfl rfl (Ld.aY W (qb rfl) rfl (.cons .refl (.cons .refl (.cons .refl .nil)))) (fun _=>?_);refine JW.base none ?_;refine jk 17 rfl rfl rfl rfl (Qt.not rfl) ?_;refine bE ?_
  repeat (first | (refine K.load ?_;refine jq rfl rfl rfl (Qt.aL rfl (aN) (by exact rfl)) ?_) | (refine K.store ?_;((refine JO.ld (Ld.bL rfl rfl (by exact rfl) aN) rfl (fun _=>?_)));refine JO.cH b g (fun x=>{ x with k:=(aa s g).k + 1 }) (by exact rfl) ?_) | (refine K.binOp ?_;refine jq rfl rfl rfl ((Qt.cJ rfl rfl rfl w2)) ?_) | refine gn ?_)
  by_cases c:(aa s g).k + 1=(aa s g).aB.length
  ·have c1:((aa s g).k + 1 == ((aa s g).aB.length:Int))=true:=by simp [c]
   rw [if_pos c];have e2:ai S g { aa s g with k:=0,place:=p }=aK (aK (aK S g fun x=>{ x with k:=(aa s g).k + 1 }) g fun x=>{ x with k:=0 }) g fun x=>{ x with place:=p }:=by
    rw [gR Sx.bJ.h,gR m8];unfold aK;rw [gS]
   rw [e2];refine J.draw (by kernel_rfl) rfl ?_;refine JW.base none ?_;refine tk 0 ?_;refine tk 1 ?_;refine tk 2 ?_;refine JD.take 3 rfl rfl (by kernel_rfl) rfl (qb rfl) (Qt.aL rfl aN rfl) rfl ?_;refine tk 4 ?_;refine tk 5 ?_;refine tk 6 ?_;refine JD.take 7 rfl rfl (by kernel_rfl) rfl (qb rfl) (Qt.aL rfl aN rfl) rfl ?_;refine tk 8 ?_;refine JD.take 9 rfl rfl (by kernel_rfl) rfl (qb rfl) (Qt.cmp rfl rfl (congrArg some c1)) rfl ?_;refine bE ?_
   repeat (first | (refine K.store ?_;first | ((refine JO.ld (Ld.bL rfl rfl (by exact rfl) aN) rfl (fun _=>?_)));refine JO.cH b g (fun x=>{ x with k:=0 }) (by exact rfl) ?_ | ((refine JO.ld (Ld.bL rfl rfl (by exact rfl) aN) rfl (fun _=>?_)));refine JO.cH b g (fun x=>{ x with place:=p }) (by exact rfl) ?_) | refine gn ?_)
   (exact J.iV func79 rfl .nil () (by exact .refl) rfl)
  ·have c1:((aa s g).k + 1 == ((aa s g).aB.length:Int))=false:=by simp [c]
   rw [if_neg c];have e2:ai S g { aa s g with k:=(aa s g).k + 1 }=aK S g fun x=>{ x with k:=(aa s g).k + 1 }:=by unfold aK;rw [gS]
   rw [e2];refine J.draw (by kernel_rfl) rfl ?_;refine JW.base none ?_;refine tk 0 ?_;refine tk 1 ?_;refine tk 2 ?_;refine JD.take 3 rfl rfl (by kernel_rfl) rfl (qb rfl) (Qt.aL rfl aN rfl) rfl ?_;refine tk 4 ?_;refine tk 5 ?_;refine tk 6 ?_;refine JD.take 7 rfl rfl (by kernel_rfl) rfl (qb rfl) (Qt.aL rfl aN rfl) rfl ?_;refine tk 8 ?_;refine JD.take 9 rfl rfl (by kernel_rfl) rfl (qb rfl) (Qt.cmp rfl rfl (congrArg some c1)) rfl ?_;refine bE ?_
   repeat (refine gn ?_)
   (exact J.iV func79 rfl .nil () (by exact .refl) rfl)
 ·have e1:Sx.tryLock s g ((kk:Int) + 1)=(s,false):=by unfold Sx.tryLock;rw [if_neg lk]
  rw [e1] at W;dsimp only at W;rw [VB (by rw [hc];exact lk)]
  repeat (first | (refine K.indexAddr ?_;refine jq rfl rfl rfl (Qt.aI rfl rfl cL cM) ?_) | refine gn ?_)
  refine J.draw (by kernel_rfl) rfl ?_;refine JW.base (some 16) ?_;refine JD.bz 0 rfl rfl (by kernel_rfl) rfl (qb rfl) (Qt.move rfl) rfl ?_;refine JD.bz 1 rfl rfl (by kernel_rfl) rfl (qb rfl) (Qt.nilCheck rfl rfl) rfl ?_;refine JD.bz 2 rfl rfl (by kernel_rfl) rfl (qb rfl) (Qt.fieldAddr rfl rfl) rfl ?_;refine tk 3 ?_;refine JD.bz 4 rfl rfl (by kernel_rfl) rfl (qb rfl) (Qt.move rfl) rfl ?_;refine JD.bz 5 rfl rfl (by kernel_rfl) rfl (qb rfl) (Qt.nilCheck rfl rfl) rfl ?_;refine JD.bz 6 rfl rfl (by kernel_rfl) rfl (qb rfl) (Qt.fieldAddr rfl rfl) rfl ?_;refine JD.bz 7 rfl rfl (by kernel_rfl) rfl (qb rfl) (Qt.aL rfl aN rfl) rfl ?_;refine JD.bz 8 rfl rfl (by kernel_rfl) rfl (qb rfl) (Qt.move rfl) rfl ?_;refine JD.bz 9 rfl rfl (by kernel_rfl) rfl (qb rfl) (Qt.nilCheck rfl rfl) rfl ?_;refine JD.bz 10 rfl rfl (by kernel_rfl) rfl (qb rfl) (Qt.fieldAddr rfl rfl) rfl ?_;refine JD.bz 11 rfl rfl (by kernel_rfl) rfl (qb rfl) (Qt.aL rfl aN rfl) rfl ?_;refine JD.bz 12 rfl rfl (by kernel_rfl) rfl (qb rfl) (Qt.cI rfl rfl k0 HK) rfl ?_
  (refine JD.bz 13 rfl rfl (by kernel_rfl) rfl (qb rfl) (Qt.qM rfl .el rfl) rfl ?_)
  refine JD.take 14 rfl rfl (by kernel_rfl) rfl (qb rfl) (Qt.cJ rfl rfl rfl w1) rfl ?_;refine tk 15 ?_;refine jt 16 rfl rfl (Ld.aY W (qb rfl) rfl (.cons .refl (.cons .refl (.cons .refl .nil)))) (fun _=>?_);refine JW.base none ?_;refine jk 17 rfl rfl rfl rfl (Qt.not rfl) ?_;refine bE ?_
  repeat ((refine J.gK rfl ?_))
  (exact J.bN func79 rfl .nil () (by exact .refl) rfl)
theorem LL (b:Nat) (u:U) (s:ah) (g kk:Nat) (hg:g < s.gs.length) (k0:1≤(aa s g).k) (k1:(aa s g).k≤(aa s g).aB.length) (hl:(aa s g).aB.length≤1000) (hc:ax (aa s g).aB ((aa s g).k - 1)=(kk:Int) + 1) (hk:kk < s.av.length) (h8:kk < 8) (ho:(cn s ((kk:Int) + 1)).lock=g) :
  an prog 89 [.c (.v (pt b)),.c (nI g)] (wd b u s) (fun _:Unit=>(.c (bI (decide ((aa s g).k - 1≤0))),wd b u (Sx.ck s g).1)):=by
 haveI:Sx.bJ g s:=⟨hg⟩
 have HK:=at_atK (l:=(aa s g).aB) (k:=(aa s g).k - 1) (by omega) (by omega);have kz:(0:Int)≤(aa s g).k - 1:=by omega
 have W:=E4 b u (aK s g fun x=>{ x with k:=(aa s g).k - 1 }) kk g hk h8 ho;have w1:IntKind.i64.wrap (ax (aa s g).aB ((aa s g).k - 1) - 1)=(kk:Int) + 1 - 1:=by rw [hc];exact dJ (by omega) (by omega)
 have w2:IntKind.i64.wrap ((aa s g).k - 1)=(aa s g).k - 1:=dJ (by omega) (by omega);have er:(Sx.ck s g).1=Sx.free (aK s g fun x=>{ x with k:=(aa s g).k - 1 }) ((kk:Int) + 1):=by
  unfold Sx.ck;dsimp only;rw [hc];rfl
 rw [er];obtain ⟨q,hq⟩:∃ q,decide ((aa s g).k - 1≤0)=q:=⟨_,rfl⟩
 rw [hq];refine an.intro func89 rfl rfl rfl (fun ok e=>?_)
 repeat (first | (refine K.load ?_;((refine jq rfl rfl rfl (Qt.aL rfl (aN) (by exact rfl)) ?_))) | (refine K.store ?_;((refine JO.ld (Ld.bL rfl rfl (by exact rfl) aN) rfl (fun _=>?_)));refine JO.cH b g (fun x=>{ x with k:=(aa s g).k - 1 }) (by exact rfl) ?_) | (refine K.indexAddr ?_;refine jq rfl rfl rfl (Qt.aI rfl rfl cL cM) ?_) | (refine K.binOp ?_;refine jq rfl rfl rfl ((Qt.cJ rfl rfl rfl w2)) ?_) | refine gn ?_)
 refine J.draw (by kernel_rfl) rfl ?_;refine JW.base (some 16) ?_;refine JD.bz 0 rfl rfl (by kernel_rfl) rfl (qb rfl) (Qt.move rfl) rfl ?_;refine JD.bz 1 rfl rfl (by kernel_rfl) rfl (qb rfl) (Qt.nilCheck rfl rfl) rfl ?_;refine JD.bz 2 rfl rfl (by kernel_rfl) rfl (qb rfl) (Qt.fieldAddr rfl rfl) rfl ?_;refine tk 3 ?_;refine JD.bz 4 rfl rfl (by kernel_rfl) rfl (qb rfl) (Qt.move rfl) rfl ?_;refine JD.bz 5 rfl rfl (by kernel_rfl) rfl (qb rfl) (Qt.nilCheck rfl rfl) rfl ?_;refine JD.bz 6 rfl rfl (by kernel_rfl) rfl (qb rfl) (Qt.fieldAddr rfl rfl) rfl ?_;refine JD.bz 7 rfl rfl (by kernel_rfl) rfl (qb rfl) (Qt.aL rfl aN rfl) rfl ?_;refine JD.bz 8 rfl rfl (by kernel_rfl) rfl (qb rfl) (Qt.move rfl) rfl ?_;refine JD.bz 9 rfl rfl (by kernel_rfl) rfl (qb rfl) (Qt.nilCheck rfl rfl) rfl ?_;refine JD.bz 10 rfl rfl (by kernel_rfl) rfl (qb rfl) (Qt.fieldAddr rfl rfl) rfl ?_;refine JD.bz 11 rfl rfl (by kernel_rfl) rfl (qb rfl) (Qt.aL rfl aN rfl) rfl ?_;refine JD.bz 12 rfl rfl (by kernel_rfl) rfl (qb rfl) (Qt.cI rfl rfl kz HK) rfl ?_
 (refine JD.bz 13 rfl rfl (by kernel_rfl) rfl (qb rfl) (Qt.qM rfl .el rfl) rfl ?_)
 refine JD.take 14 rfl rfl (by kernel_rfl) rfl (qb rfl) (Qt.cJ rfl rfl rfl w1) rfl ?_;refine tk 15 ?_;refine jt 16 rfl rfl (Ld.aY W (qb rfl) rfl (.cons .refl (.cons .refl (.cons .refl .nil)))) (fun _=>?_);refine bR ?_
 repeat (first | (refine K.load ?_;refine jq rfl rfl rfl (Qt.aL rfl (aN) (by exact rfl)) ?_) | refine gn ?_)
 (exact J.bN func89 rfl (.cons (.tmp rfl) .nil) () (by exact .refl) rfl)
end Fl
end Go.Proofs.YtdjhhbpedllnhaaGreat
