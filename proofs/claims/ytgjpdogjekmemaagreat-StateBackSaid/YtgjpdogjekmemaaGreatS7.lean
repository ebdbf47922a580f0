/-
  What the laws need, part S7.
  Conditions: none.
-/
import Derived.Test.YtgjpdogjekmemaaGreatS2
import Derived.IntWalk
set_option linter.unusedVariables false
set_option linter.unusedSimpArgs false
set_option linter.unnecessarySimpa false
set_option maxHeartbeats 2000000
namespace Go.Proofs.YtgjpdogjekmemaaGreat
open Go.RowKit
namespace Fl
open Sx Go.Proofs.Tryz
theorem at_nat {α:Type} {l:List α} {k:Nat} {a:α} (e:l[k]?=some a):l[((k:Int)).toNat]?=some a:=e
theorem gL {s:ah} {g:Nat} (hg:g < s.gs.length):(s.gs.map eG)[((g:Int)).toNat]?=some (eG (aa s g)) :=
 at_map (at_nat (by rw [List.getElem?_eq_getElem hg];simp [aa,hg]))
theorem Ee {s:ah} {ch:Int} (h:aM s ch=true):(s.ax.map eC)[(ch - 1).toNat]?=some (eC (cn s ch)):=by
 unfold aM at h;simp at h;have:(ch - 1).toNat < s.ax.length:=by omega
 exact at_map (by unfold cn;rw [List.getD_eq_getElem?_getD,List.getElem?_eq_getElem this];rfl)
theorem dM {s:ah} {ch:Int} (h:aM s ch=true):1≤ch∧ch≤s.ax.length:=by unfold aM at h;simpa using h
theorem fZ {s:ah} {i:Int} (h0:0≤i) (h:i < s.aD.length):(s.aD.map eS)[i.toNat]?=some (eS (su s i)):=by
 have:i.toNat < s.aD.length:=by omega
 exact at_map (by rw [List.getElem?_eq_getElem this];simp [su,this])
set_option maxRecDepth 100000
theorem cA (s:ah) (g:Nat) (x:Gr) (hg:g < s.gs.length) (hb:s.gs.length≤100000) :
  Pure prog 107 [.agg (az s),.c (nI g),.agg (eG x)] (.agg (az (ai s g x))):=by
 refine aq.intro func107 rfl rfl rfl (fun ok e=>?_)
 repeat (first | (refine K.store ?_;refine JO.ld (Ld.dV rfl rfl rfl (by exact rfl) (by (simp;omega))) rfl (fun _=>?_)) | (refine K.indexAddr ?_;refine jq rfl rfl rfl (Qt.cB rfl rfl (by (omega)) (by (simp;omega))) ?_) | (refine K.bi ?_;refine JO.ld (Ld.bH (qb rfl) rfl rfl .read (by (simp;omega))) rfl (fun _=>?_)) | refine av ?_ | intro _)
 refine J.rH 0 1 3 rfl rfl rfl ?_;refine J.ret func107 rfl (.cons (.cell 0 rfl rfl rfl) .nil) () (.of_eq ?_) [] .nil rfl rfl;have e1:([] ++ List.map eG s.gs).set ((g:Int)).toNat (eG x)=(s.gs.set g x).map eG:=by simp
 exact congrArg (fun l=>D.agg [nI s.cY,nI s.bM,nI s.step,.r 25 l,.r 6 (s.ax.map eC),.r 7 (s.aD.map eS),.r 1 (s.cache.map fun l=>[ints l]),ints s.middle,nI s.fresh,.r 1 (s.cD.map fun n=>[.v (.int .u16 n)]),nI s.drawn,.r 13 (s.done.map eM)]) e1
theorem kT (s:ah) (ch:Int) (x:Cn) (hm:aM s ch=true) (hb:s.ax.length≤100000) :
  Pure prog 115 [.agg (az s),.c (nI ch),.agg (eC x)] (.agg (az (aF s ch x))):=by
 have hl:=dM hm;refine aq.intro func115 rfl rfl rfl (fun ok e=>?_)
 repeat (first | (refine K.store ?_;refine JO.ld (Ld.dV rfl rfl rfl (by exact rfl) (by (simp;omega))) rfl (fun _=>?_)) | (refine K.indexAddr ?_;refine jq rfl rfl rfl (Qt.cB rfl rfl (by (omega)) (by (simp;omega))) ?_) | (refine K.bi ?_;refine JO.ld (Ld.bH (qb rfl) rfl rfl .read (by (simp;omega))) rfl (fun _=>?_)) | refine av ?_ | intro _)
 refine J.rH 0 1 4 rfl rfl rfl ?_;refine J.ret func115 rfl (.cons (.cell 0 rfl rfl rfl) .nil) () (.of_eq ?_) [] .nil rfl rfl;have e1:([] ++ List.map eC s.ax).set (ch - 1).toNat (eC x)=(s.ax.set (ch - 1).toNat x).map eC:=by simp
 exact congrArg (fun l=>D.agg [nI s.cY,nI s.bM,nI s.step,.r 25 (s.gs.map eG),.r 6 l,.r 7 (s.aD.map eS),.r 1 (s.cache.map fun l=>[ints l]),ints s.middle,nI s.fresh,.r 1 (s.cD.map fun n=>[.v (.int .u16 n)]),nI s.drawn,.r 13 (s.done.map eM)]) e1
theorem sH (s:ah) (i:Int) (x:Su) (h0:0≤i) (hi:i < s.aD.length) (hb:s.aD.length≤100000) :
  Pure prog 112 [.agg (az s),.c (nI i),.agg (eS x)] (.agg (az (bg s i x))):=by
 refine aq.intro func112 rfl rfl rfl (fun ok e=>?_)
 repeat (first | (refine K.store ?_;refine JO.ld (Ld.dV rfl rfl rfl (by exact rfl) (by (simp;omega))) rfl (fun _=>?_)) | (refine K.indexAddr ?_;refine jq rfl rfl rfl (Qt.cB rfl rfl (by (omega)) (by (simp;omega))) ?_) | (refine K.bi ?_;refine JO.ld (Ld.bH (qb rfl) rfl rfl .read (by (simp;omega))) rfl (fun _=>?_)) | refine av ?_ | intro _)
 refine J.rH 0 1 5 rfl rfl rfl ?_;refine J.ret func112 rfl (.cons (.cell 0 rfl rfl rfl) .nil) () (.of_eq ?_) [] .nil rfl rfl;have e1:([] ++ List.map eS s.aD).set i.toNat (eS x)=(s.aD.set i.toNat x).map eS:=by simp
 exact congrArg (fun l=>D.agg [nI s.cY,nI s.bM,nI s.step,.r 25 (s.gs.map eG),.r 6 (s.ax.map eC),.r 7 l,.r 1 (s.cache.map fun l=>[ints l]),ints s.middle,nI s.fresh,.r 1 (s.cD.map fun n=>[.v (.int .u16 n)]),nI s.drawn,.r 13 (s.done.map eM)]) e1
theorem ei (s:ah) (g:Nat) (p:Int) (hg:g < s.gs.length) (hb:s.gs.length≤100000) :
  Pure prog 105 [.agg (az s),.c (nI g),.c (nI p)] (.agg (az (aO s g p))):=by
 refine aq.intro func105 rfl rfl rfl (fun ok e=>?_)
 repeat (first | refine aI (cA s g { aa s g with place:=p } hg hb) ?_ | refine av ?_ | intro _)
 exact J.ret func105 rfl (.cons (.cell 1 rfl rfl rfl) .nil) () .refl [] .nil rfl rfl
theorem hJ (s:ah) (g:Nat) (r:Md.ak) (p:Int) (hg:g < s.gs.length) (hb:s.gs.length≤100000) :
  Pure prog 106 [.agg (az s),.c (nI g),.agg (rO r),.c (nI p)] (.agg (az (bG s g r p))):=by
 refine aq.intro func106 rfl rfl rfl (fun ok e=>?_)
 repeat (first | refine aI (cA s g { aa s g with cz:=s.step,res:=r,place:=p } hg hb) ?_ | refine av ?_ | intro _)
 exact J.ret func106 rfl (.cons (.cell 1 rfl rfl rfl) .nil) () .refl [] .nil rfl rfl
theorem dU (s:ah) (ch:Int) :
  Pure prog 103 [.agg (az s),.c (nI ch)] (.c (bI (aM s ch))):=by
 refine aq.intro func103 rfl rfl rfl (fun ok e=>?_)
 cases h1:(decide (ch ≥ 1)) with
 | true =>
  repeat (first | refine av ?_ | intro _)
  refine J.ret func103 rfl (.cons (.tmp rfl) .nil) () (.of_eq ?_) [] .nil rfl rfl
  show D.c (bI _)=_
  congr 2
  unfold aM;simp at h1 ⊢;omega
 | false =>
  repeat (first | refine av ?_ | intro _)
  refine J.ret func103 rfl (.cons (.tmp rfl) .nil) () (.of_eq ?_) [] .nil rfl rfl
  show D.c (bI false)=_
  congr 2
  unfold aM;simp at h1 ⊢;omega
end Fl
open Go.RowKit
namespace Fl
open Sx Go.Proofs.Tryz
set_option maxRecDepth 100000
theorem Ml {s:ah} {g:Nat} (h0:0≤(aa s g).at_) (h:(aa s g).at_ < (aa s g).ops.length):((aa s g).ops.map cC)[(aa s g).at_.toNat]?=some (cC (ag s g)):=by
 have:(aa s g).at_.toNat < (aa s g).ops.length:=by omega
 exact at_map (by unfold ag;rw [List.getD_eq_getElem?_getD,List.getElem?_eq_getElem this];rfl)
theorem Mm {s:ah} {g:Nat} (h0:0≤(aa s g).at_) (h:(aa s g).ops.length≤(aa s g).at_):ag s g=qp:=by
 unfold ag;rw [List.getD_eq_getElem?_getD,List.getElem?_eq_none (by omega)];rfl
theorem cU (s:ah) (g:Nat) (hg:g < s.gs.length) (h0:0≤(aa s g).at_) :
  Pure prog 101 [.agg (az s),.c (nI g)] (.agg (cC (ag s g))):=by
 refine aq.intro func101 rfl rfl rfl (fun ok e=>?_)
 repeat (first | refine av ?_ | intro _)
 refine J.draw (by kernel_rfl) rfl ?_;refine JW.base none ?_;refine tk 0 ?_;refine tk 1 ?_;refine tk 2 ?_;refine JD.take 3 rfl rfl (by kernel_rfl) rfl (qb rfl) (Qt.cE rfl rfl (by omega) (gL hg)) rfl ?_;refine tk 4 ?_;refine tk 5 ?_;refine tk 6 ?_;refine tk 7 ?_;refine tk 8 ?_;refine JD.take 9 rfl rfl (by kernel_rfl) rfl (qb rfl) (Qt.cE rfl rfl (by omega) (gL hg)) rfl ?_;refine tk 10 ?_;refine tk 11 ?_;refine tk 12 ?_;refine tk 13 ?_;refine bP ?_;refine J.cond rfl (fun h=>?_) (fun h=>?_)
 ·have h1:(aa s g).ops.length≤(aa s g).at_:=by simpa using h
  rw [Mm h0 h1]
  repeat (refine gn ?_)
  (exact J.ret func101 rfl (.cons (.cell 0 rfl rfl rfl) .nil) () (by (exact .agg (by repeat (first | exact .nil | refine .cons .refl ?_ | refine .cons .nil ?_)))) [] .nil rfl rfl)
 ·have h1:(aa s g).at_ < (aa s g).ops.length:=by simp at h;omega
  repeat (refine gn ?_)
  refine J.draw (by kernel_rfl) rfl ?_;refine JW.base (some 14) ?_;refine tk 0 ?_;refine tk 1 ?_;refine tk 2 ?_;refine JD.take 3 rfl rfl (by kernel_rfl) rfl (qb rfl) (Qt.cE rfl rfl (by omega) (gL hg)) rfl ?_;refine tk 4 ?_;refine tk 5 ?_;refine tk 6 ?_;refine tk 7 ?_;refine tk 8 ?_;refine JD.take 9 rfl rfl (by kernel_rfl) rfl (qb rfl) (Qt.cE rfl rfl (by omega) (gL hg)) rfl ?_;refine tk 10 ?_;refine tk 11 ?_;refine JD.take 12 rfl rfl (by kernel_rfl) rfl (qb rfl) (Qt.cE rfl rfl h0 (Ml h0 h1)) rfl ?_;refine tk 13 ?_;refine jt 14 rfl rfl (Ld.aT rfl rfl rfl (by exact rfl) (by exact rfl)) (fun _=>?_);refine bz ?_;exact aA func101
theorem Am (ops:List Pn.Op) (a:Int) :
  Pure prog 58 [.c (.r 6 (ops.map cC)),.c (nI a)] (.agg (eG (clean ops a))):=by
 refine aq.intro func58 rfl rfl rfl (fun ok e=>?_)
 repeat (first | refine av ?_ | intro _)
 (exact J.ret func58 rfl (.cons (.cell 0 rfl rfl rfl) .nil) () (by (exact .agg (by repeat (first | exact .nil | refine .cons .refl ?_ | refine .cons .nil ?_)))) [] .nil rfl rfl)
theorem EE (s:ah) (g:Nat) (hg:g < s.gs.length) (hb:s.gs.length≤100000) :
  Pure prog 142 [.agg (az s),.c (nI g)] (.agg (az (Sx.clear s g))):=by
 refine aq.intro func142 rfl rfl rfl (fun ok e=>?_)
 repeat (first | refine av ?_ | intro _)
 refine J.draw (by kernel_rfl) rfl ?_;refine JW.base (some 14) ?_;refine tk 0 ?_;refine tk 1 ?_;refine tk 2 ?_;refine JD.take 3 rfl rfl (by kernel_rfl) rfl (qb rfl) (Qt.cE rfl rfl (by omega) (gL hg)) rfl ?_;refine tk 4 ?_;refine tk 5 ?_;refine tk 6 ?_;refine tk 7 ?_;refine tk 8 ?_;refine JD.take 9 rfl rfl (by kernel_rfl) rfl (qb rfl) (Qt.cE rfl rfl (by omega) (gL hg)) rfl ?_;refine tk 10 ?_;refine tk 11 ?_;refine JD.cy (i:=12) (j:=13) (by kernel_rfl) ?_ ?_;refine JS.bt rfl rfl rfl (qb rfl) (Ld.pure (Am (aa s g).ops (aa s g).at_) (qb rfl) rfl lq) .none (fun _=>?_);refine jl 13 rfl rfl rfl rfl (Ld.alloc (qb rfl)) .none (fun _=>?_);refine jt 14 rfl rfl (Ld.aT rfl rfl rfl (by exact rfl) (by exact rfl)) (fun _=>?_);refine bz ?_
 rotate_left
 refine JS.bt rfl rfl rfl (qb rfl) (Ld.alloc (qb rfl)) .none (fun _=>?_);refine cI 12 (Am (aa s g).ops (aa s g).at_) ?_;refine jt 14 rfl rfl (Ld.aT rfl rfl rfl (by exact rfl) (by exact rfl)) (fun _=>?_);refine bz ?_
 rotate_left
 all_goals
  repeat (first | refine aI (cA s g (ja (aa s g)) hg hb) ?_ | refine gn ?_)
  exact aA func142
theorem EF (s:ah) (g:Nat) (ch:Int) (hm:aM s ch=true) (hb:s.ax.length≤100000) :
  Pure prog 145 [.agg (az s),.c (nI g),.c (nI ch)] (.aY [.agg (az (tryLock s g ch).1),.c (bI (tryLock s g ch).2)]):=by
 have hl:=dM hm;refine aq.intro func145 rfl rfl rfl (fun ok e=>?_)
 repeat (first | refine av ?_ | intro _)
 refine J.cond rfl (fun h=>?_) (fun h=>?_)
 ·have h1:tryLock s g ch=(s,false):=by unfold tryLock;rw [if_neg (by simpa using h)]
  rw [h1]
  repeat (refine gn ?_)
  exact aA func145
 ·have h1:tryLock s g ch=(aF s ch { cn s ch with lock:=g },true):=by unfold tryLock;rw [if_pos (by simpa using h)]
  rw [h1]
  repeat (first | refine aI (kT s ch { cn s ch with lock:=g } hm hb) ?_ | refine gn ?_)
  exact aA func145
theorem An (s:ah) (ch:Int) (hm:aM s ch=true) (hb:s.ax.length≤100000) :
  Pure prog 146 [.agg (az s),.c (nI ch)] (.agg (az (Sx.free s ch))):=by
 have hl:=dM hm;refine aq.intro func146 rfl rfl rfl (fun ok e=>?_)
 repeat (first | refine aI (kT s ch { cn s ch with lock:=-1 } hm hb) ?_ | refine av ?_ | intro _)
 exact aA func146
theorem EG (s:ah) (g:Nat) (hg:g < s.gs.length) (hb:s.gs.length≤100000) :
  Pure prog 147 [.agg (az s),.c (nI g)] (.agg (az (fT s g))):=by
 refine aq.intro func147 rfl rfl rfl (fun ok e=>?_)
 cases h1:((aa s g).status == 0) with
 | true =>
  cases h2:(aa s g).token with
  | true =>
   have h3:fT s g=ai s g { aa s g with token:=false }:=by unfold fT;rw [if_pos ⟨by simpa using h1,h2⟩]
   rw [h3]
   repeat (first | refine J.fI (congrArg (fun b=>some (D.c (bI b))) h2) ?_ | refine aI (cA s g { aa s g with token:=false } hg hb) ?_ | refine av ?_ | intro _)
   exact aA func147
  | false =>
   have h3:fT s g=ai s g { aa s g with status:=1 }:=by unfold fT;rw [if_neg (by simp [h2]),if_pos (by simpa using h1)]
   rw [h3]
   repeat (first | refine J.eW (congrArg (fun b=>some (D.c (bI b))) h2) ?_ | refine aI (cA s g { aa s g with status:=1 } hg hb) ?_ | refine av ?_ | intro _)
   exact aA func147
 | false =>
  have h3:fT s g=ai s g (aa s g):=by unfold fT;rw [if_neg (by simp at h1;simp [h1]),if_neg (by simpa using h1)]
  rw [h3]
  repeat (first | refine aI (cA s g (aa s g) hg hb) ?_ | refine av ?_ | intro _)
  exact aA func147
theorem Mn (s:ah) (g:Nat) (hg:g < s.gs.length) (hb:s.gs.length≤100000) :
  Pure prog 149 [.agg (az s),.c (nI g)] (.agg (az (Sx.ready s g))):=by
 refine aq.intro func149 rfl rfl rfl (fun ok e=>?_)
 repeat (first | refine av ?_ | intro _)
 refine J.cond rfl (fun h=>?_) (fun h=>?_)
 ·have h3:Sx.ready s g=ai s g { aa s g with status:=0 }:=by unfold Sx.ready;rw [if_pos (by simpa using h)]
  rw [h3]
  repeat (first | refine aI (cA s g { aa s g with status:=0 } hg hb) ?_ | refine gn ?_)
  exact aA func149
 ·repeat (refine gn ?_)
  refine J.cond rfl (fun h2=>?_) (fun h2=>?_)
  ·have h3:Sx.ready s g=ai s g { aa s g with token:=true }:=by unfold Sx.ready;rw [if_neg (by simpa using h),if_pos (by simpa using h2)]
   rw [h3]
   repeat (first | refine aI (cA s g { aa s g with token:=true } hg hb) ?_ | refine gn ?_)
   exact aA func149
  ·have h3:Sx.ready s g=ai s g (aa s g):=by unfold Sx.ready;rw [if_neg (by simpa using h),if_neg (by simpa using h2)]
   rw [h3]
   repeat (first | refine aI (cA s g (aa s g) hg hb) ?_ | refine gn ?_)
   exact aA func149
theorem u7 (s:ah) (g:Nat) (hg:g < s.gs.length) (hb:s.gs.length≤100000) :
  Pure prog 130 [.agg (az s),.c (nI g)] (.agg (az (an s g))):=by
 refine aq.intro func130 rfl rfl rfl (fun ok e=>?_)
 repeat (first | refine av ?_ | intro _)
 refine J.cond rfl (fun h=>?_) (fun h=>?_)
 ·have h3:an s g=aO s g 17:=by unfold an;rw [if_pos (by simpa using h)]
  rw [h3]
  repeat (first | refine aI (ei s g 17 hg hb) ?_ | refine gn ?_)
  exact aA func130
 ·have h3:an s g=aO s g 18:=by unfold an;rw [if_neg (by simpa using h)]
  rw [h3]
  repeat (first | refine aI (ei s g 18 hg hb) ?_ | refine gn ?_)
  exact aA func130
end Fl
end Go.Proofs.YtgjpdogjekmemaaGreat
