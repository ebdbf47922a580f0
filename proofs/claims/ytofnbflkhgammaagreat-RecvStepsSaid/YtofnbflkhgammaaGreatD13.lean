/-
  What the laws need, part D13.
  Conditions: none.
-/
import Derived.Test.YtofnbflkhgammaaGreatD7
import Derived.IntWalk
set_option linter.unusedVariables false
set_option linter.unusedSimpArgs false
set_option linter.unnecessarySimpa false
set_option maxHeartbeats 2000000
namespace Go.Proofs.YtofnbflkhgammaaGreat
open Go.RowKit
namespace Fl
open Sx Go.Proofs.Tryz
theorem at_nat {α:Type} {l:List α} {k:Nat} {a:α} (e:l[k]?=some a):l[((k:Int)).toNat]?=some a:=e
theorem iz {s:ah} {g:Nat} (hg:g < s.gs.length):(s.gs.map eG)[((g:Int)).toNat]?=some (eG (aa s g)) :=
 at_map (at_nat (by rw [List.getElem?_eq_getElem hg];simp [aa,hg]))
theorem BW {s:ah} {ch:Int} (h:aN s ch=true):(s.au.map eC)[(ch - 1).toNat]?=some (eC (cn s ch)):=by
 unfold aN at h;simp at h;have:(ch - 1).toNat < s.au.length:=by omega
 exact at_map (by unfold cn;rw [List.getD_eq_getElem?_getD,List.getElem?_eq_getElem this];rfl)
theorem eV {s:ah} {ch:Int} (h:aN s ch=true):1≤ch∧ch≤s.au.length:=by unfold aN at h;simpa using h
theorem iu {s:ah} {i:Int} (h0:0≤i) (h:i < s.aC.length):(s.aC.map eS)[i.toNat]?=some (eS (su s i)):=by
 have:i.toNat < s.aC.length:=by omega
 exact at_map (by rw [List.getElem?_eq_getElem this];simp [su,this])
set_option maxRecDepth 100000
theorem cP (s:ah) (g:Nat) (x:Gr) (hg:g < s.gs.length) (hb:s.gs.length≤100000) :
  Pure prog 76 [.agg (az s),.c (nI g),.agg (eG x)] (.agg (az (ai s g x))):=by
 refine ax.intro func76 rfl rfl rfl (fun ok e=>?_)
 repeat (first | (refine K.store ?_;refine JO.ld (Ld.fZ rfl rfl rfl (by exact rfl) (by (simp;omega))) rfl (fun _=>?_)) | (refine K.indexAddr ?_;refine jq rfl rfl rfl (Qt.bM rfl rfl (by (omega)) (by (simp;omega))) ?_) | (refine K.bi ?_;refine JO.ld (Ld.cA (qb rfl) rfl rfl .read (by (simp;omega))) rfl (fun _=>?_)) | refine av ?_ | intro _)
 refine J.wA 0 1 3 rfl rfl rfl ?_;refine J.ret func76 rfl (.cons (.cell 0 rfl rfl rfl) .nil) () (.of_eq ?_) [] .nil rfl rfl;have e1:([] ++ List.map eG s.gs).set ((g:Int)).toNat (eG x)=(s.gs.set g x).map eG:=by simp
 exact congrArg (fun l=>D.agg [nI s.cV,nI s.bN,nI s.step,.r 25 l,.r 6 (s.au.map eC),.r 7 (s.aC.map eS),.r 1 (s.cache.map fun l=>[ints l]),ints s.middle,nI s.fresh,.r 1 (s.cG.map fun n=>[.v (.int .u16 n)]),nI s.drawn,.r 13 (s.done.map eM)]) e1
theorem nA (s:ah) (ch:Int) (x:Cn) (hm:aN s ch=true) (hb:s.au.length≤100000) :
  Pure prog 136 [.agg (az s),.c (nI ch),.agg (eC x)] (.agg (az (aE s ch x))):=by
 have hl:=eV hm;refine ax.intro func136 rfl rfl rfl (fun ok e=>?_)
 repeat (first | (refine K.store ?_;refine JO.ld (Ld.fZ rfl rfl rfl (by exact rfl) (by (simp;omega))) rfl (fun _=>?_)) | (refine K.indexAddr ?_;refine jq rfl rfl rfl (Qt.bM rfl rfl (by (omega)) (by (simp;omega))) ?_) | (refine K.bi ?_;refine JO.ld (Ld.cA (qb rfl) rfl rfl .read (by (simp;omega))) rfl (fun _=>?_)) | refine av ?_ | intro _)
 refine J.wA 0 1 4 rfl rfl rfl ?_;refine J.ret func136 rfl (.cons (.cell 0 rfl rfl rfl) .nil) () (.of_eq ?_) [] .nil rfl rfl;have e1:([] ++ List.map eC s.au).set (ch - 1).toNat (eC x)=(s.au.set (ch - 1).toNat x).map eC:=by simp
 exact congrArg (fun l=>D.agg [nI s.cV,nI s.bN,nI s.step,.r 25 (s.gs.map eG),.r 6 l,.r 7 (s.aC.map eS),.r 1 (s.cache.map fun l=>[ints l]),ints s.middle,nI s.fresh,.r 1 (s.cG.map fun n=>[.v (.int .u16 n)]),nI s.drawn,.r 13 (s.done.map eM)]) e1
theorem w8 (s:ah) (i:Int) (x:Su) (h0:0≤i) (hi:i < s.aC.length) (hb:s.aC.length≤100000) :
  Pure prog 77 [.agg (az s),.c (nI i),.agg (eS x)] (.agg (az (aR s i x))):=by
 refine ax.intro func77 rfl rfl rfl (fun ok e=>?_)
 repeat (first | (refine K.store ?_;refine JO.ld (Ld.fZ rfl rfl rfl (by exact rfl) (by (simp;omega))) rfl (fun _=>?_)) | (refine K.indexAddr ?_;refine jq rfl rfl rfl (Qt.bM rfl rfl (by (omega)) (by (simp;omega))) ?_) | (refine K.bi ?_;refine JO.ld (Ld.cA (qb rfl) rfl rfl .read (by (simp;omega))) rfl (fun _=>?_)) | refine av ?_ | intro _)
 refine J.wA 0 1 5 rfl rfl rfl ?_;refine J.ret func77 rfl (.cons (.cell 0 rfl rfl rfl) .nil) () (.of_eq ?_) [] .nil rfl rfl;have e1:([] ++ List.map eS s.aC).set i.toNat (eS x)=(s.aC.set i.toNat x).map eS:=by simp
 exact congrArg (fun l=>D.agg [nI s.cV,nI s.bN,nI s.step,.r 25 (s.gs.map eG),.r 6 (s.au.map eC),.r 7 l,.r 1 (s.cache.map fun l=>[ints l]),ints s.middle,nI s.fresh,.r 1 (s.cG.map fun n=>[.v (.int .u16 n)]),nI s.drawn,.r 13 (s.done.map eM)]) e1
theorem fM (s:ah) (g:Nat) (p:Int) (hg:g < s.gs.length) (hb:s.gs.length≤100000) :
  Pure prog 85 [.agg (az s),.c (nI g),.c (nI p)] (.agg (az (Sx.aI s g p))):=by
 refine ax.intro func85 rfl rfl rfl (fun ok e=>?_)
 repeat (first | refine aO (cP s g { aa s g with place:=p } hg hb) ?_ | refine av ?_ | intro _)
 exact J.ret func85 rfl (.cons (.cell 1 rfl rfl rfl) .nil) () .refl [] .nil rfl rfl
theorem jv (s:ah) (g:Nat) (r:Md.ak) (p:Int) (hg:g < s.gs.length) (hb:s.gs.length≤100000) :
  Pure prog 141 [.agg (az s),.c (nI g),.agg (wD r),.c (nI p)] (.agg (az (bH s g r p))):=by
 refine ax.intro func141 rfl rfl rfl (fun ok e=>?_)
 repeat (first | refine aO (cP s g { aa s g with bQ:=s.step,res:=r,place:=p } hg hb) ?_ | refine av ?_ | intro _)
 exact J.ret func141 rfl (.cons (.cell 1 rfl rfl rfl) .nil) () .refl [] .nil rfl rfl
theorem fu (s:ah) (ch:Int) :
  Pure prog 20 [.agg (az s),.c (nI ch)] (.c (bI (aN s ch))):=by
 refine ax.intro func20 rfl rfl rfl (fun ok e=>?_)
 cases h1:(decide (ch ≥ 1)) with
 | true =>
  repeat (first | refine av ?_ | intro _)
  refine J.ret func20 rfl (.cons (.tmp rfl) .nil) () (.of_eq ?_) [] .nil rfl rfl
  show D.c (bI _)=_
  congr 2
  unfold aN;simp at h1 ⊢;omega
 | false =>
  repeat (first | refine av ?_ | intro _)
  refine J.ret func20 rfl (.cons (.tmp rfl) .nil) () (.of_eq ?_) [] .nil rfl rfl
  show D.c (bI false)=_
  congr 2
  unfold aN;simp at h1 ⊢;omega
end Fl
open Go.RowKit
namespace Fl
open Sx Go.Proofs.Tryz
set_option maxRecDepth 100000
theorem LJ {s:ah} {g:Nat} (h0:0≤(aa s g).at_) (h:(aa s g).at_ < (aa s g).ops.length):((aa s g).ops.map dH)[(aa s g).at_.toNat]?=some (dH (ag s g)):=by
 have:(aa s g).at_.toNat < (aa s g).ops.length:=by omega
 exact at_map (by unfold ag;rw [List.getD_eq_getElem?_getD,List.getElem?_eq_getElem this];rfl)
theorem LL {s:ah} {g:Nat} (h0:0≤(aa s g).at_) (h:(aa s g).ops.length≤(aa s g).at_):ag s g=wC:=by
 unfold ag;rw [List.getD_eq_getElem?_getD,List.getElem?_eq_none (by omega)];rfl
theorem dA (s:ah) (g:Nat) (hg:g < s.gs.length) (h0:0≤(aa s g).at_) :
  Pure prog 23 [.agg (az s),.c (nI g)] (.agg (dH (ag s g))):=by
 refine ax.intro func23 rfl rfl rfl (fun ok e=>?_)
 repeat (first | refine av ?_ | intro _)
 refine J.draw (by kernel_rfl) rfl ?_;refine JW.base none ?_;refine tk 0 ?_;refine tk 1 ?_;refine tk 2 ?_;refine JD.take 3 rfl rfl (by kernel_rfl) rfl (qb rfl) (Qt.bw rfl rfl (by omega) (iz hg)) rfl ?_;refine tk 4 ?_;refine tk 5 ?_;refine tk 6 ?_;refine tk 7 ?_;refine tk 8 ?_;refine JD.take 9 rfl rfl (by kernel_rfl) rfl (qb rfl) (Qt.bw rfl rfl (by omega) (iz hg)) rfl ?_;refine tk 10 ?_;refine tk 11 ?_;refine tk 12 ?_;refine tk 13 ?_;refine bt ?_;refine J.cond rfl (fun h=>?_) (fun h=>?_)
 ·have h1:(aa s g).ops.length≤(aa s g).at_:=by simpa using h
  rw [LL h0 h1]
  repeat (refine gn ?_)
  (exact J.ret func23 rfl (.cons (.cell 0 rfl rfl rfl) .nil) () (by (exact .agg (by repeat (first | exact .nil | refine .cons .refl ?_ | refine .cons .nil ?_)))) [] .nil rfl rfl)
 ·have h1:(aa s g).at_ < (aa s g).ops.length:=by simp at h;omega
  repeat (refine gn ?_)
  refine J.draw (by kernel_rfl) rfl ?_;refine JW.base (some 14) ?_;refine tk 0 ?_;refine tk 1 ?_;refine tk 2 ?_;refine JD.take 3 rfl rfl (by kernel_rfl) rfl (qb rfl) (Qt.bw rfl rfl (by omega) (iz hg)) rfl ?_;refine tk 4 ?_;refine tk 5 ?_;refine tk 6 ?_;refine tk 7 ?_;refine tk 8 ?_;refine JD.take 9 rfl rfl (by kernel_rfl) rfl (qb rfl) (Qt.bw rfl rfl (by omega) (iz hg)) rfl ?_;refine tk 10 ?_;refine tk 11 ?_;refine JD.take 12 rfl rfl (by kernel_rfl) rfl (qb rfl) (Qt.bw rfl rfl h0 (LJ h0 h1)) rfl ?_;refine tk 13 ?_;refine jt 14 rfl rfl (Ld.aX rfl rfl rfl (by exact rfl) (by exact rfl)) (fun _=>?_);refine bS ?_;exact aA func23
theorem FG (ops:List Pn.Op) (a:Int) :
  Pure prog 75 [.c (.r 6 (ops.map dH)),.c (nI a)] (.agg (eG (clean ops a))):=by
 refine ax.intro func75 rfl rfl rfl (fun ok e=>?_)
 repeat (first | refine av ?_ | intro _)
 (exact J.ret func75 rfl (.cons (.cell 0 rfl rfl rfl) .nil) () (by (exact .agg (by repeat (first | exact .nil | refine .cons .refl ?_ | refine .cons .nil ?_)))) [] .nil rfl rfl)
theorem LM (s:ah) (g:Nat) (hg:g < s.gs.length) (hb:s.gs.length≤100000) :
  Pure prog 25 [.agg (az s),.c (nI g)] (.agg (az (Sx.clear s g))):=by
 refine ax.intro func25 rfl rfl rfl (fun ok e=>?_)
 repeat (first | refine av ?_ | intro _)
 refine J.draw (by kernel_rfl) rfl ?_;refine JW.base (some 14) ?_;refine tk 0 ?_;refine tk 1 ?_;refine tk 2 ?_;refine JD.take 3 rfl rfl (by kernel_rfl) rfl (qb rfl) (Qt.bw rfl rfl (by omega) (iz hg)) rfl ?_;refine tk 4 ?_;refine tk 5 ?_;refine tk 6 ?_;refine tk 7 ?_;refine tk 8 ?_;refine JD.take 9 rfl rfl (by kernel_rfl) rfl (qb rfl) (Qt.bw rfl rfl (by omega) (iz hg)) rfl ?_;refine tk 10 ?_;refine tk 11 ?_;refine JD.cU (i:=12) (j:=13) (by kernel_rfl) ?_ ?_;refine JS.cz rfl rfl rfl (qb rfl) (Ld.pure (FG (aa s g).ops (aa s g).at_) (qb rfl) rfl lq) .none (fun _=>?_);refine jl 13 rfl rfl rfl rfl (Ld.alloc (qb rfl)) .none (fun _=>?_);refine jt 14 rfl rfl (Ld.aX rfl rfl rfl (by exact rfl) (by exact rfl)) (fun _=>?_);refine bS ?_
 rotate_left
 refine JS.cz rfl rfl rfl (qb rfl) (Ld.alloc (qb rfl)) .none (fun _=>?_);refine cW 12 (FG (aa s g).ops (aa s g).at_) ?_;refine jt 14 rfl rfl (Ld.aX rfl rfl rfl (by exact rfl) (by exact rfl)) (fun _=>?_);refine bS ?_
 rotate_left
 all_goals
  repeat (first | refine aO (cP s g (o9 (aa s g)) hg hb) ?_ | refine gn ?_)
  exact aA func25
theorem LN (s:ah) (g:Nat) (ch:Int) (hm:aN s ch=true) (hb:s.au.length≤100000) :
  Pure prog 84 [.agg (az s),.c (nI g),.c (nI ch)] (.aZ [.agg (az (Sx.tryLock s g ch).1),.c (bI (Sx.tryLock s g ch).2)]):=by
 have hl:=eV hm;refine ax.intro func84 rfl rfl rfl (fun ok e=>?_)
 repeat (first | refine av ?_ | intro _)
 refine J.cond rfl (fun h=>?_) (fun h=>?_)
 ·have h1:Sx.tryLock s g ch=(s,false):=by unfold Sx.tryLock;rw [if_neg (by simpa using h)]
  rw [h1]
  repeat (refine gn ?_)
  exact aA func84
 ·have h1:Sx.tryLock s g ch=(aE s ch { cn s ch with lock:=g },true):=by unfold Sx.tryLock;rw [if_pos (by simpa using h)]
  rw [h1]
  repeat (first | refine aO (nA s ch { cn s ch with lock:=g } hm hb) ?_ | refine gn ?_)
  exact aA func84
theorem FH (s:ah) (ch:Int) (hm:aN s ch=true) (hb:s.au.length≤100000) :
  Pure prog 86 [.agg (az s),.c (nI ch)] (.agg (az (Sx.free s ch))):=by
 have hl:=eV hm;refine ax.intro func86 rfl rfl rfl (fun ok e=>?_)
 repeat (first | refine aO (nA s ch { cn s ch with lock:=-1 } hm hb) ?_ | refine av ?_ | intro _)
 exact aA func86
theorem LP (s:ah) (g:Nat) (hg:g < s.gs.length) (hb:s.gs.length≤100000) :
  Pure prog 87 [.agg (az s),.c (nI g)] (.agg (az (Sx.fA s g))):=by
 refine ax.intro func87 rfl rfl rfl (fun ok e=>?_)
 cases h1:((aa s g).status == 0) with
 | true =>
  cases h2:(aa s g).token with
  | true =>
   have h3:Sx.fA s g=ai s g { aa s g with token:=false }:=by unfold Sx.fA;rw [if_pos ⟨by simpa using h1,h2⟩]
   rw [h3]
   repeat (first | refine J.gZ (congrArg (fun b=>some (D.c (bI b))) h2) ?_ | refine aO (cP s g { aa s g with token:=false } hg hb) ?_ | refine av ?_ | intro _)
   exact aA func87
  | false =>
   have h3:Sx.fA s g=ai s g { aa s g with status:=1 }:=by unfold Sx.fA;rw [if_neg (by simp [h2]),if_pos (by simpa using h1)]
   rw [h3]
   repeat (first | refine J.gw (congrArg (fun b=>some (D.c (bI b))) h2) ?_ | refine aO (cP s g { aa s g with status:=1 } hg hb) ?_ | refine av ?_ | intro _)
   exact aA func87
 | false =>
  have h3:Sx.fA s g=ai s g (aa s g):=by unfold Sx.fA;rw [if_neg (by simp at h1;simp [h1]),if_neg (by simpa using h1)]
  rw [h3]
  repeat (first | refine aO (cP s g (aa s g) hg hb) ?_ | refine av ?_ | intro _)
  exact aA func87
theorem UC (s:ah) (g:Nat) (hg:g < s.gs.length) (hb:s.gs.length≤100000) :
  Pure prog 90 [.agg (az s),.c (nI g)] (.agg (az (Sx.ready s g))):=by
 refine ax.intro func90 rfl rfl rfl (fun ok e=>?_)
 repeat (first | refine av ?_ | intro _)
 refine J.cond rfl (fun h=>?_) (fun h=>?_)
 ·have h3:Sx.ready s g=ai s g { aa s g with status:=0 }:=by unfold Sx.ready;rw [if_pos (by simpa using h)]
  rw [h3]
  repeat (first | refine aO (cP s g { aa s g with status:=0 } hg hb) ?_ | refine gn ?_)
  exact aA func90
 ·repeat (refine gn ?_)
  refine J.cond rfl (fun h2=>?_) (fun h2=>?_)
  ·have h3:Sx.ready s g=ai s g { aa s g with token:=true }:=by unfold Sx.ready;rw [if_neg (by simpa using h),if_pos (by simpa using h2)]
   rw [h3]
   repeat (first | refine aO (cP s g { aa s g with token:=true } hg hb) ?_ | refine gn ?_)
   exact aA func90
  ·have h3:Sx.ready s g=ai s g (aa s g):=by unfold Sx.ready;rw [if_neg (by simpa using h),if_neg (by simpa using h2)]
   rw [h3]
   repeat (first | refine aO (cP s g (aa s g) hg hb) ?_ | refine gn ?_)
   exact aA func90
theorem zA (s:ah) (g:Nat) (hg:g < s.gs.length) (hb:s.gs.length≤100000) :
  Pure prog 89 [.agg (az s),.c (nI g)] (.agg (az (Sx.an s g))):=by
 refine ax.intro func89 rfl rfl rfl (fun ok e=>?_)
 repeat (first | refine av ?_ | intro _)
 refine J.cond rfl (fun h=>?_) (fun h=>?_)
 ·have h3:Sx.an s g=Sx.aI s g 17:=by unfold Sx.an;rw [if_pos (by simpa using h)]
  rw [h3]
  repeat (first | refine aO (fM s g 17 hg hb) ?_ | refine gn ?_)
  exact aA func89
 ·have h3:Sx.an s g=Sx.aI s g 18:=by unfold Sx.an;rw [if_neg (by simpa using h)]
  rw [h3]
  repeat (first | refine aO (fM s g 18 hg hb) ?_ | refine gn ?_)
  exact aA func89
end Fl
end Go.Proofs.YtofnbflkhgammaaGreat
