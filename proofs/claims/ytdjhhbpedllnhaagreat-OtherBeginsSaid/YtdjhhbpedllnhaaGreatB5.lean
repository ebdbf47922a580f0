/-
  What the laws need, part B5.
  Conditions: none.
-/
import Derived.Test.YtdjhhbpedllnhaaGreatB2
import Derived.IntWalk
set_option linter.unusedVariables false
set_option linter.unusedSimpArgs false
set_option linter.unnecessarySimpa false
set_option maxHeartbeats 2000000
namespace Go.Proofs.YtdjhhbpedllnhaaGreat
open Go.RowKit
namespace Fl
open Sx Go.Proofs.Tryz
theorem at_nat {α:Type} {l:List α} {k:Nat} {a:α} (e:l[k]?=some a):l[((k:Int)).toNat]?=some a:=e
theorem iB {s:ah} {g:Nat} (hg:g < s.gs.length):(s.gs.map eG)[((g:Int)).toNat]?=some (eG (aa s g)) :=
 at_map (at_nat (by rw [List.getElem?_eq_getElem hg];simp [aa,hg]))
theorem IE {s:ah} {ch:Int} (h:aT s ch=true):(s.av.map eC)[(ch - 1).toNat]?=some (eC (cn s ch)):=by
 unfold aT at h;simp at h;have:(ch - 1).toNat < s.av.length:=by omega
 exact at_map (by unfold cn;rw [List.getD_eq_getElem?_getD,List.getElem?_eq_getElem this];rfl)
theorem fD {s:ah} {ch:Int} (h:aT s ch=true):1≤ch∧ch≤s.av.length:=by unfold aT at h;simpa using h
theorem iC {s:ah} {i:Int} (h0:0≤i) (h:i < s.aA.length):(s.aA.map eS)[i.toNat]?=some (eS (su s i)):=by
 have:i.toNat < s.aA.length:=by omega
 exact at_map (by rw [List.getElem?_eq_getElem this];simp [su,this])
set_option maxRecDepth 100000
theorem cV (s:ah) (g:Nat) (x:Gr) (hg:g < s.gs.length) (hb:s.gs.length≤100000) :
  Pure prog 201 [.agg (aC s),.c (nI g),.agg (eG x)] (.agg (aC (ai s g x))):=by
 refine an.intro func201 rfl rfl rfl (fun ok e=>?_)
 repeat (first | (refine K.store ?_;refine JO.ld (Ld.eK rfl rfl rfl (by exact rfl) (by (simp;omega))) rfl (fun _=>?_)) | (refine K.indexAddr ?_;refine jq rfl rfl rfl (Qt.aI rfl rfl (by (omega)) (by (simp;omega))) ?_) | (refine K.bi ?_;refine JO.ld (Ld.cy (qb rfl) rfl rfl .read (by (simp;omega))) rfl (fun _=>?_)) | refine ay ?_ | intro _)
 refine J.vn 0 1 3 rfl rfl rfl ?_;refine J.ret func201 rfl (.cons (.cell 0 rfl rfl rfl) .nil) () (.of_eq ?_) [] .nil rfl rfl;have e1:([] ++ List.map eG s.gs).set ((g:Int)).toNat (eG x)=(s.gs.set g x).map eG:=by simp
 exact congrArg (fun l=>D.agg [nI s.dx,nI s.bX,nI s.step,.r 25 l,.r 6 (s.av.map eC),.r 7 (s.aA.map eS),.r 1 (s.cache.map fun l=>[ints l]),ints s.middle,nI s.fresh,.r 1 (s.di.map fun n=>[.v (.int .u16 n)]),nI s.drawn,.r 13 (s.done.map eM)]) e1
theorem m9 (s:ah) (ch:Int) (x:Cn) (hm:aT s ch=true) (hb:s.av.length≤100000) :
  Pure prog 215 [.agg (aC s),.c (nI ch),.agg (eC x)] (.agg (aC (aE s ch x))):=by
 have hl:=fD hm;refine an.intro func215 rfl rfl rfl (fun ok e=>?_)
 repeat (first | (refine K.store ?_;refine JO.ld (Ld.eK rfl rfl rfl (by exact rfl) (by (simp;omega))) rfl (fun _=>?_)) | (refine K.indexAddr ?_;refine jq rfl rfl rfl (Qt.aI rfl rfl (by (omega)) (by (simp;omega))) ?_) | (refine K.bi ?_;refine JO.ld (Ld.cy (qb rfl) rfl rfl .read (by (simp;omega))) rfl (fun _=>?_)) | refine ay ?_ | intro _)
 refine J.vn 0 1 4 rfl rfl rfl ?_;refine J.ret func215 rfl (.cons (.cell 0 rfl rfl rfl) .nil) () (.of_eq ?_) [] .nil rfl rfl;have e1:([] ++ List.map eC s.av).set (ch - 1).toNat (eC x)=(s.av.set (ch - 1).toNat x).map eC:=by simp
 exact congrArg (fun l=>D.agg [nI s.dx,nI s.bX,nI s.step,.r 25 (s.gs.map eG),.r 6 l,.r 7 (s.aA.map eS),.r 1 (s.cache.map fun l=>[ints l]),ints s.middle,nI s.fresh,.r 1 (s.di.map fun n=>[.v (.int .u16 n)]),nI s.drawn,.r 13 (s.done.map eM)]) e1
theorem vY (s:ah) (i:Int) (x:Su) (h0:0≤i) (hi:i < s.aA.length) (hb:s.aA.length≤100000) :
  Pure prog 208 [.agg (aC s),.c (nI i),.agg (eS x)] (.agg (aC (aV s i x))):=by
 refine an.intro func208 rfl rfl rfl (fun ok e=>?_)
 repeat (first | (refine K.store ?_;refine JO.ld (Ld.eK rfl rfl rfl (by exact rfl) (by (simp;omega))) rfl (fun _=>?_)) | (refine K.indexAddr ?_;refine jq rfl rfl rfl (Qt.aI rfl rfl (by (omega)) (by (simp;omega))) ?_) | (refine K.bi ?_;refine JO.ld (Ld.cy (qb rfl) rfl rfl .read (by (simp;omega))) rfl (fun _=>?_)) | refine ay ?_ | intro _)
 refine J.vn 0 1 5 rfl rfl rfl ?_;refine J.ret func208 rfl (.cons (.cell 0 rfl rfl rfl) .nil) () (.of_eq ?_) [] .nil rfl rfl;have e1:([] ++ List.map eS s.aA).set i.toNat (eS x)=(s.aA.set i.toNat x).map eS:=by simp
 exact congrArg (fun l=>D.agg [nI s.dx,nI s.bX,nI s.step,.r 25 (s.gs.map eG),.r 6 (s.av.map eC),.r 7 l,.r 1 (s.cache.map fun l=>[ints l]),ints s.middle,nI s.fresh,.r 1 (s.di.map fun n=>[.v (.int .u16 n)]),nI s.drawn,.r 13 (s.done.map eM)]) e1
theorem fQ (s:ah) (g:Nat) (p:Int) (hg:g < s.gs.length) (hb:s.gs.length≤100000) :
  Pure prog 162 [.agg (aC s),.c (nI g),.c (nI p)] (.agg (aC (Sx.aS s g p))):=by
 refine an.intro func162 rfl rfl rfl (fun ok e=>?_)
 repeat (first | refine aX (cV s g { aa s g with place:=p } hg hb) ?_ | refine ay ?_ | intro _)
 exact J.ret func162 rfl (.cons (.cell 1 rfl rfl rfl) .nil) () .refl [] .nil rfl rfl
theorem jo (s:ah) (g:Nat) (r:Md.aj) (p:Int) (hg:g < s.gs.length) (hb:s.gs.length≤100000) :
  Pure prog 226 [.agg (aC s),.c (nI g),.agg (qZ r),.c (nI p)] (.agg (aC (cq s g r p))):=by
 refine an.intro func226 rfl rfl rfl (fun ok e=>?_)
 repeat (first | refine aX (cV s g { aa s g with bT:=s.step,res:=r,place:=p } hg hb) ?_ | refine ay ?_ | intro _)
 exact J.ret func226 rfl (.cons (.cell 1 rfl rfl rfl) .nil) () .refl [] .nil rfl rfl
theorem fH (s:ah) (ch:Int) :
  Pure prog 22 [.agg (aC s),.c (nI ch)] (.c (bI (aT s ch))):=by
 refine an.intro func22 rfl rfl rfl (fun ok e=>?_)
 cases h1:(decide (ch ≥ 1)) with
 | true =>
  repeat (first | refine ay ?_ | intro _)
  refine J.ret func22 rfl (.cons (.tmp rfl) .nil) () (.of_eq ?_) [] .nil rfl rfl
  show D.c (bI _)=_
  congr 2
  unfold aT;simp at h1 ⊢;omega
 | false =>
  repeat (first | refine ay ?_ | intro _)
  refine J.ret func22 rfl (.cons (.tmp rfl) .nil) () (.of_eq ?_) [] .nil rfl rfl
  show D.c (bI false)=_
  congr 2
  unfold aT;simp at h1 ⊢;omega
end Fl
open Go.RowKit
namespace Fl
open Sx Go.Proofs.Tryz
set_option maxRecDepth 100000
theorem IF {s:ah} {g:Nat} (h0:0≤(aa s g).at_) (h:(aa s g).at_ < (aa s g).ops.length):((aa s g).ops.map dH)[(aa s g).at_.toNat]?=some (dH (ag s g)):=by
 have:(aa s g).at_.toNat < (aa s g).ops.length:=by omega
 exact at_map (by unfold ag;rw [List.getD_eq_getElem?_getD,List.getElem?_eq_getElem this];rfl)
theorem IG {s:ah} {g:Nat} (h0:0≤(aa s g).at_) (h:(aa s g).ops.length≤(aa s g).at_):ag s g=xX:=by
 unfold ag;rw [List.getD_eq_getElem?_getD,List.getElem?_eq_none (by omega)];rfl
theorem dI (s:ah) (g:Nat) (hg:g < s.gs.length) (h0:0≤(aa s g).at_) :
  Pure prog 18 [.agg (aC s),.c (nI g)] (.agg (dH (ag s g))):=by
 refine an.intro func18 rfl rfl rfl (fun ok e=>?_)
 repeat (first | refine ay ?_ | intro _)
 refine J.draw (by kernel_rfl) rfl ?_;refine JW.base none ?_;refine tk 0 ?_;refine tk 1 ?_;refine tk 2 ?_;refine JD.take 3 rfl rfl (by kernel_rfl) rfl (qb rfl) (Qt.cI rfl rfl (by omega) (iB hg)) rfl ?_;refine tk 4 ?_;refine tk 5 ?_;refine tk 6 ?_;refine tk 7 ?_;refine tk 8 ?_;refine JD.take 9 rfl rfl (by kernel_rfl) rfl (qb rfl) (Qt.cI rfl rfl (by omega) (iB hg)) rfl ?_;refine tk 10 ?_;refine tk 11 ?_;refine tk 12 ?_;refine tk 13 ?_;refine bE ?_;refine J.cond rfl (fun h=>?_) (fun h=>?_)
 ·have h1:(aa s g).ops.length≤(aa s g).at_:=by simpa using h
  rw [IG h0 h1]
  repeat (refine gn ?_)
  (exact J.ret func18 rfl (.cons (.cell 0 rfl rfl rfl) .nil) () (by (exact .agg (by repeat (first | exact .nil | refine .cons .refl ?_ | refine .cons .nil ?_)))) [] .nil rfl rfl)
 ·have h1:(aa s g).at_ < (aa s g).ops.length:=by simp at h;omega
  repeat (refine gn ?_)
  refine J.draw (by kernel_rfl) rfl ?_;refine JW.base (some 14) ?_;refine tk 0 ?_;refine tk 1 ?_;refine tk 2 ?_;refine JD.take 3 rfl rfl (by kernel_rfl) rfl (qb rfl) (Qt.cI rfl rfl (by omega) (iB hg)) rfl ?_;refine tk 4 ?_;refine tk 5 ?_;refine tk 6 ?_;refine tk 7 ?_;refine tk 8 ?_;refine JD.take 9 rfl rfl (by kernel_rfl) rfl (qb rfl) (Qt.cI rfl rfl (by omega) (iB hg)) rfl ?_;refine tk 10 ?_;refine tk 11 ?_;refine JD.take 12 rfl rfl (by kernel_rfl) rfl (qb rfl) (Qt.cI rfl rfl h0 (IF h0 h1)) rfl ?_;refine tk 13 ?_;refine jt 14 rfl rfl (Ld.bq rfl rfl rfl (by exact rfl) (by exact rfl)) (fun _=>?_);refine bR ?_;exact aD func18
theorem El (ops:List Pn.Op) (a:Int) :
  Pure prog 94 [.c (.r 6 (ops.map dH)),.c (nI a)] (.agg (eG (clean ops a))):=by
 refine an.intro func94 rfl rfl rfl (fun ok e=>?_)
 repeat (first | refine ay ?_ | intro _)
 (exact J.ret func94 rfl (.cons (.cell 0 rfl rfl rfl) .nil) () (by (exact .agg (by repeat (first | exact .nil | refine .cons .refl ?_ | refine .cons .nil ?_)))) [] .nil rfl rfl)
theorem II (s:ah) (g:Nat) (hg:g < s.gs.length) (hb:s.gs.length≤100000) :
  Pure prog 251 [.agg (aC s),.c (nI g)] (.agg (aC (Sx.clear s g))):=by
 refine an.intro func251 rfl rfl rfl (fun ok e=>?_)
 repeat (first | refine ay ?_ | intro _)
 refine J.draw (by kernel_rfl) rfl ?_;refine JW.base (some 14) ?_;refine tk 0 ?_;refine tk 1 ?_;refine tk 2 ?_;refine JD.take 3 rfl rfl (by kernel_rfl) rfl (qb rfl) (Qt.cI rfl rfl (by omega) (iB hg)) rfl ?_;refine tk 4 ?_;refine tk 5 ?_;refine tk 6 ?_;refine tk 7 ?_;refine tk 8 ?_;refine JD.take 9 rfl rfl (by kernel_rfl) rfl (qb rfl) (Qt.cI rfl rfl (by omega) (iB hg)) rfl ?_;refine tk 10 ?_;refine tk 11 ?_;refine JD.cU (i:=12) (j:=13) (by kernel_rfl) ?_ ?_;refine JS.bZ rfl rfl rfl (qb rfl) (Ld.pure (El (aa s g).ops (aa s g).at_) (qb rfl) rfl lq) .none (fun _=>?_);refine jl 13 rfl rfl rfl rfl (Ld.alloc (qb rfl)) .none (fun _=>?_);refine jt 14 rfl rfl (Ld.bq rfl rfl rfl (by exact rfl) (by exact rfl)) (fun _=>?_);refine bR ?_
 rotate_left
 refine JS.bZ rfl rfl rfl (qb rfl) (Ld.alloc (qb rfl)) .none (fun _=>?_);refine dA 12 (El (aa s g).ops (aa s g).at_) ?_;refine jt 14 rfl rfl (Ld.bq rfl rfl rfl (by exact rfl) (by exact rfl)) (fun _=>?_);refine bR ?_
 rotate_left
 all_goals
  repeat (first | refine aX (cV s g (oG (aa s g)) hg hb) ?_ | refine gn ?_)
  exact aD func251
theorem IJ (s:ah) (g:Nat) (ch:Int) (hm:aT s ch=true) (hb:s.av.length≤100000) :
  Pure prog 200 [.agg (aC s),.c (nI g),.c (nI ch)] (.bp [.agg (aC (Sx.tryLock s g ch).1),.c (bI (Sx.tryLock s g ch).2)]):=by
 have hl:=fD hm;refine an.intro func200 rfl rfl rfl (fun ok e=>?_)
 repeat (first | refine ay ?_ | intro _)
 refine J.cond rfl (fun h=>?_) (fun h=>?_)
 ·have h1:Sx.tryLock s g ch=(s,false):=by unfold Sx.tryLock;rw [if_neg (by simpa using h)]
  rw [h1]
  repeat (refine gn ?_)
  exact aD func200
 ·have h1:Sx.tryLock s g ch=(aE s ch { cn s ch with lock:=g },true):=by unfold Sx.tryLock;rw [if_pos (by simpa using h)]
  rw [h1]
  repeat (first | refine aX (m9 s ch { cn s ch with lock:=g } hm hb) ?_ | refine gn ?_)
  exact aD func200
theorem Em (s:ah) (ch:Int) (hm:aT s ch=true) (hb:s.av.length≤100000) :
  Pure prog 216 [.agg (aC s),.c (nI ch)] (.agg (aC (Sx.free s ch))):=by
 have hl:=fD hm;refine an.intro func216 rfl rfl rfl (fun ok e=>?_)
 repeat (first | refine aX (m9 s ch { cn s ch with lock:=-1 } hm hb) ?_ | refine ay ?_ | intro _)
 exact aD func216
theorem IK (s:ah) (g:Nat) (hg:g < s.gs.length) (hb:s.gs.length≤100000) :
  Pure prog 218 [.agg (aC s),.c (nI g)] (.agg (aC (Sx.gi s g))):=by
 refine an.intro func218 rfl rfl rfl (fun ok e=>?_)
 cases h1:((aa s g).status == 0) with
 | true =>
  cases h2:(aa s g).token with
  | true =>
   have h3:Sx.gi s g=ai s g { aa s g with token:=false }:=by unfold Sx.gi;rw [if_pos ⟨by simpa using h1,h2⟩]
   rw [h3]
   repeat (first | refine J.gK (congrArg (fun b=>some (D.c (bI b))) h2) ?_ | refine aX (cV s g { aa s g with token:=false } hg hb) ?_ | refine ay ?_ | intro _)
   exact aD func218
  | false =>
   have h3:Sx.gi s g=ai s g { aa s g with status:=1 }:=by unfold Sx.gi;rw [if_neg (by simp [h2]),if_pos (by simpa using h1)]
   rw [h3]
   repeat (first | refine J.fT (congrArg (fun b=>some (D.c (bI b))) h2) ?_ | refine aX (cV s g { aa s g with status:=1 } hg hb) ?_ | refine ay ?_ | intro _)
   exact aD func218
 | false =>
  have h3:Sx.gi s g=ai s g (aa s g):=by unfold Sx.gi;rw [if_neg (by simp at h1;simp [h1]),if_neg (by simpa using h1)]
  rw [h3]
  repeat (first | refine aX (cV s g (aa s g) hg hb) ?_ | refine ay ?_ | intro _)
  exact aD func218
theorem Qc (s:ah) (g:Nat) (hg:g < s.gs.length) (hb:s.gs.length≤100000) :
  Pure prog 219 [.agg (aC s),.c (nI g)] (.agg (aC (Sx.ready s g))):=by
 refine an.intro func219 rfl rfl rfl (fun ok e=>?_)
 repeat (first | refine ay ?_ | intro _)
 refine J.cond rfl (fun h=>?_) (fun h=>?_)
 ·have h3:Sx.ready s g=ai s g { aa s g with status:=0 }:=by unfold Sx.ready;rw [if_pos (by simpa using h)]
  rw [h3]
  repeat (first | refine aX (cV s g { aa s g with status:=0 } hg hb) ?_ | refine gn ?_)
  exact aD func219
 ·repeat (refine gn ?_)
  refine J.cond rfl (fun h2=>?_) (fun h2=>?_)
  ·have h3:Sx.ready s g=ai s g { aa s g with token:=true }:=by unfold Sx.ready;rw [if_neg (by simpa using h),if_pos (by simpa using h2)]
   rw [h3]
   repeat (first | refine aX (cV s g { aa s g with token:=true } hg hb) ?_ | refine gn ?_)
   exact aD func219
  ·have h3:Sx.ready s g=ai s g (aa s g):=by unfold Sx.ready;rw [if_neg (by simpa using h),if_neg (by simpa using h2)]
   rw [h3]
   repeat (first | refine aX (cV s g (aa s g) hg hb) ?_ | refine gn ?_)
   exact aD func219
theorem yG (s:ah) (g:Nat) (hg:g < s.gs.length) (hb:s.gs.length≤100000) :
  Pure prog 164 [.agg (aC s),.c (nI g)] (.agg (aC (Sx.au s g))):=by
 refine an.intro func164 rfl rfl rfl (fun ok e=>?_)
 repeat (first | refine ay ?_ | intro _)
 refine J.cond rfl (fun h=>?_) (fun h=>?_)
 ·have h3:Sx.au s g=Sx.aS s g 17:=by unfold Sx.au;rw [if_pos (by simpa using h)]
  rw [h3]
  repeat (first | refine aX (fQ s g 17 hg hb) ?_ | refine gn ?_)
  exact aD func164
 ·have h3:Sx.au s g=Sx.aS s g 18:=by unfold Sx.au;rw [if_neg (by simpa using h)]
  rw [h3]
  repeat (first | refine aX (fQ s g 18 hg hb) ?_ | refine gn ?_)
  exact aD func164
end Fl
end Go.Proofs.YtdjhhbpedllnhaaGreat
