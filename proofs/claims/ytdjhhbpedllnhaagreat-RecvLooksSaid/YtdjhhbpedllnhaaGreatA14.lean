/-
  What the laws need, part A14.
  Conditions: none.
-/
import Derived.Test.YtdjhhbpedllnhaaGreatA7
import Derived.IntWalk
set_option linter.unusedVariables false
set_option linter.unusedSimpArgs false
set_option linter.unnecessarySimpa false
set_option maxHeartbeats 2000000
namespace Go.Proofs.YtdjhhbpedllnhaaGreat
open Go.RowKit
namespace Fl
open Sx Go.Proofs.Tryz
theorem at_nat {α:Type} {l:List α} {k:Nat} {a:α} (e:l[k]?=some a):l[((k:Int)).toNat]?=some a:=e
theorem gZ {s:ah} {g:Nat} (hg:g < s.gs.length):(s.gs.map eG)[((g:Int)).toNat]?=some (eG (aa s g)) :=
 at_map (at_nat (by rw [List.getElem?_eq_getElem hg];simp [aa,hg]))
theorem KU {s:ah} {ch:Int} (h:aL s ch=true):(s.au.map eC)[(ch - 1).toNat]?=some (eC (cn s ch)):=by
 unfold aL at h;simp at h;have:(ch - 1).toNat < s.au.length:=by omega
 exact at_map (by unfold cn;rw [List.getD_eq_getElem?_getD,List.getElem?_eq_getElem this];rfl)
theorem fh {s:ah} {ch:Int} (h:aL s ch=true):1≤ch∧ch≤s.au.length:=by unfold aL at h;simpa using h
theorem iB {s:ah} {i:Int} (h0:0≤i) (h:i < s.aB.length):(s.aB.map eS)[i.toNat]?=some (eS (su s i)):=by
 have:i.toNat < s.aB.length:=by omega
 exact at_map (by rw [List.getElem?_eq_getElem this];simp [su,this])
set_option maxRecDepth 100000
theorem cS (s:ah) (g:Nat) (x:Gr) (hg:g < s.gs.length) (hb:s.gs.length≤100000) :
  Pure prog 201 [.agg (aD s),.c (nI g),.agg (eG x)] (.agg (aD (ai s g x))):=by
 refine av.intro func201 rfl rfl rfl (fun ok e=>?_)
 repeat (first | (refine K.store ?_;refine JO.ld (Ld.gz rfl rfl rfl (by exact rfl) (by (simp;omega))) rfl (fun _=>?_)) | (refine K.indexAddr ?_;refine jq rfl rfl rfl (Qt.aV rfl rfl (by (omega)) (by (simp;omega))) ?_) | (refine K.bi ?_;refine JO.ld (Ld.cB (qb rfl) rfl rfl .read (by (simp;omega))) rfl (fun _=>?_)) | refine ay ?_ | intro _)
 refine J.wF 0 1 3 rfl rfl rfl ?_;refine J.ret func201 rfl (.cons (.cell 0 rfl rfl rfl) .nil) () (.of_eq ?_) [] .nil rfl rfl;have e1:([] ++ List.map eG s.gs).set ((g:Int)).toNat (eG x)=(s.gs.set g x).map eG:=by simp
 exact congrArg (fun l=>D.agg [nI s.dh,nI s.bP,nI s.step,.r 25 l,.r 6 (s.au.map eC),.r 7 (s.aB.map eS),.r 1 (s.cache.map fun l=>[ints l]),ints s.middle,nI s.fresh,.r 1 (s.dG.map fun n=>[.v (.int .u16 n)]),nI s.drawn,.r 13 (s.done.map eM)]) e1
theorem nL (s:ah) (ch:Int) (x:Cn) (hm:aL s ch=true) (hb:s.au.length≤100000) :
  Pure prog 215 [.agg (aD s),.c (nI ch),.agg (eC x)] (.agg (aD (aA s ch x))):=by
 have hl:=fh hm;refine av.intro func215 rfl rfl rfl (fun ok e=>?_)
 repeat (first | (refine K.store ?_;refine JO.ld (Ld.gz rfl rfl rfl (by exact rfl) (by (simp;omega))) rfl (fun _=>?_)) | (refine K.indexAddr ?_;refine jq rfl rfl rfl (Qt.aV rfl rfl (by (omega)) (by (simp;omega))) ?_) | (refine K.bi ?_;refine JO.ld (Ld.cB (qb rfl) rfl rfl .read (by (simp;omega))) rfl (fun _=>?_)) | refine ay ?_ | intro _)
 refine J.wF 0 1 4 rfl rfl rfl ?_;refine J.ret func215 rfl (.cons (.cell 0 rfl rfl rfl) .nil) () (.of_eq ?_) [] .nil rfl rfl;have e1:([] ++ List.map eC s.au).set (ch - 1).toNat (eC x)=(s.au.set (ch - 1).toNat x).map eC:=by simp
 exact congrArg (fun l=>D.agg [nI s.dh,nI s.bP,nI s.step,.r 25 (s.gs.map eG),.r 6 l,.r 7 (s.aB.map eS),.r 1 (s.cache.map fun l=>[ints l]),ints s.middle,nI s.fresh,.r 1 (s.dG.map fun n=>[.v (.int .u16 n)]),nI s.drawn,.r 13 (s.done.map eM)]) e1
theorem wY (s:ah) (i:Int) (x:Su) (h0:0≤i) (hi:i < s.aB.length) (hb:s.aB.length≤100000) :
  Pure prog 208 [.agg (aD s),.c (nI i),.agg (eS x)] (.agg (aD (aN s i x))):=by
 refine av.intro func208 rfl rfl rfl (fun ok e=>?_)
 repeat (first | (refine K.store ?_;refine JO.ld (Ld.gz rfl rfl rfl (by exact rfl) (by (simp;omega))) rfl (fun _=>?_)) | (refine K.indexAddr ?_;refine jq rfl rfl rfl (Qt.aV rfl rfl (by (omega)) (by (simp;omega))) ?_) | (refine K.bi ?_;refine JO.ld (Ld.cB (qb rfl) rfl rfl .read (by (simp;omega))) rfl (fun _=>?_)) | refine ay ?_ | intro _)
 refine J.wF 0 1 5 rfl rfl rfl ?_;refine J.ret func208 rfl (.cons (.cell 0 rfl rfl rfl) .nil) () (.of_eq ?_) [] .nil rfl rfl;have e1:([] ++ List.map eS s.aB).set i.toNat (eS x)=(s.aB.set i.toNat x).map eS:=by simp
 exact congrArg (fun l=>D.agg [nI s.dh,nI s.bP,nI s.step,.r 25 (s.gs.map eG),.r 6 (s.au.map eC),.r 7 l,.r 1 (s.cache.map fun l=>[ints l]),ints s.middle,nI s.fresh,.r 1 (s.dG.map fun n=>[.v (.int .u16 n)]),nI s.drawn,.r 13 (s.done.map eM)]) e1
theorem fU (s:ah) (g:Nat) (p:Int) (hg:g < s.gs.length) (hb:s.gs.length≤100000) :
  Pure prog 162 [.agg (aD s),.c (nI g),.c (nI p)] (.agg (aD (Sx.aG s g p))):=by
 refine av.intro func162 rfl rfl rfl (fun ok e=>?_)
 repeat (first | refine aR (cS s g { aa s g with place:=p } hg hb) ?_ | refine ay ?_ | intro _)
 exact J.ret func162 rfl (.cons (.cell 1 rfl rfl rfl) .nil) () .refl [] .nil rfl rfl
theorem jA (s:ah) (g:Nat) (r:Md.an) (p:Int) (hg:g < s.gs.length) (hb:s.gs.length≤100000) :
  Pure prog 226 [.agg (aD s),.c (nI g),.agg (wH r),.c (nI p)] (.agg (aD (br s g r p))):=by
 refine av.intro func226 rfl rfl rfl (fun ok e=>?_)
 repeat (first | refine aR (cS s g { aa s g with bE:=s.step,res:=r,place:=p } hg hb) ?_ | refine ay ?_ | intro _)
 exact J.ret func226 rfl (.cons (.cell 1 rfl rfl rfl) .nil) () .refl [] .nil rfl rfl
theorem fD (s:ah) (ch:Int) :
  Pure prog 22 [.agg (aD s),.c (nI ch)] (.c (bI (aL s ch))):=by
 refine av.intro func22 rfl rfl rfl (fun ok e=>?_)
 cases h1:(decide (ch ≥ 1)) with
 | true =>
  repeat (first | refine ay ?_ | intro _)
  refine J.ret func22 rfl (.cons (.tmp rfl) .nil) () (.of_eq ?_) [] .nil rfl rfl
  show D.c (bI _)=_
  congr 2
  unfold aL;simp at h1 ⊢;omega
 | false =>
  repeat (first | refine ay ?_ | intro _)
  refine J.ret func22 rfl (.cons (.tmp rfl) .nil) () (.of_eq ?_) [] .nil rfl rfl
  show D.c (bI false)=_
  congr 2
  unfold aL;simp at h1 ⊢;omega
end Fl
open Go.RowKit
namespace Fl
open Sx Go.Proofs.Tryz
set_option maxRecDepth 100000
theorem KV {s:ah} {g:Nat} (h0:0≤(aa s g).at_) (h:(aa s g).at_ < (aa s g).ops.length):((aa s g).ops.map eL)[(aa s g).at_.toNat]?=some (eL (ag s g)):=by
 have:(aa s g).at_.toNat < (aa s g).ops.length:=by omega
 exact at_map (by unfold ag;rw [List.getD_eq_getElem?_getD,List.getElem?_eq_getElem this];rfl)
theorem KW {s:ah} {g:Nat} (h0:0≤(aa s g).at_) (h:(aa s g).ops.length≤(aa s g).at_):ag s g=yG:=by
 unfold ag;rw [List.getD_eq_getElem?_getD,List.getElem?_eq_none (by omega)];rfl
theorem dH (s:ah) (g:Nat) (hg:g < s.gs.length) (h0:0≤(aa s g).at_) :
  Pure prog 18 [.agg (aD s),.c (nI g)] (.agg (eL (ag s g))):=by
 refine av.intro func18 rfl rfl rfl (fun ok e=>?_)
 repeat (first | refine ay ?_ | intro _)
 refine J.draw (by kernel_rfl) rfl ?_;refine JW.base none ?_;refine tk 0 ?_;refine tk 1 ?_;refine tk 2 ?_;refine JD.take 3 rfl rfl (by kernel_rfl) rfl (qb rfl) (Qt.dc rfl rfl (by omega) (gZ hg)) rfl ?_;refine tk 4 ?_;refine tk 5 ?_;refine tk 6 ?_;refine tk 7 ?_;refine tk 8 ?_;refine JD.take 9 rfl rfl (by kernel_rfl) rfl (qb rfl) (Qt.dc rfl rfl (by omega) (gZ hg)) rfl ?_;refine tk 10 ?_;refine tk 11 ?_;refine tk 12 ?_;refine tk 13 ?_;refine bX ?_;refine J.cond rfl (fun h=>?_) (fun h=>?_)
 ·have h1:(aa s g).ops.length≤(aa s g).at_:=by simpa using h
  rw [KW h0 h1]
  repeat (refine gn ?_)
  (exact J.ret func18 rfl (.cons (.cell 0 rfl rfl rfl) .nil) () (by (exact .agg (by repeat (first | exact .nil | refine .cons .refl ?_ | refine .cons .nil ?_)))) [] .nil rfl rfl)
 ·have h1:(aa s g).at_ < (aa s g).ops.length:=by simp at h;omega
  repeat (refine gn ?_)
  refine J.draw (by kernel_rfl) rfl ?_;refine JW.base (some 14) ?_;refine tk 0 ?_;refine tk 1 ?_;refine tk 2 ?_;refine JD.take 3 rfl rfl (by kernel_rfl) rfl (qb rfl) (Qt.dc rfl rfl (by omega) (gZ hg)) rfl ?_;refine tk 4 ?_;refine tk 5 ?_;refine tk 6 ?_;refine tk 7 ?_;refine tk 8 ?_;refine JD.take 9 rfl rfl (by kernel_rfl) rfl (qb rfl) (Qt.dc rfl rfl (by omega) (gZ hg)) rfl ?_;refine tk 10 ?_;refine tk 11 ?_;refine JD.take 12 rfl rfl (by kernel_rfl) rfl (qb rfl) (Qt.dc rfl rfl h0 (KV h0 h1)) rfl ?_;refine tk 13 ?_;refine jt 14 rfl rfl (Ld.bh rfl rfl rfl (by exact rfl) (by exact rfl)) (fun _=>?_);refine cu ?_;exact aC func18
theorem FE (ops:List Pn.Op) (a:Int) :
  Pure prog 94 [.c (.r 6 (ops.map eL)),.c (nI a)] (.agg (eG (clean ops a))):=by
 refine av.intro func94 rfl rfl rfl (fun ok e=>?_)
 repeat (first | refine ay ?_ | intro _)
 (exact J.ret func94 rfl (.cons (.cell 0 rfl rfl rfl) .nil) () (by (exact .agg (by repeat (first | exact .nil | refine .cons .refl ?_ | refine .cons .nil ?_)))) [] .nil rfl rfl)
theorem KX (s:ah) (g:Nat) (hg:g < s.gs.length) (hb:s.gs.length≤100000) :
  Pure prog 251 [.agg (aD s),.c (nI g)] (.agg (aD (Sx.clear s g))):=by
 refine av.intro func251 rfl rfl rfl (fun ok e=>?_)
 repeat (first | refine ay ?_ | intro _)
 refine J.draw (by kernel_rfl) rfl ?_;refine JW.base (some 14) ?_;refine tk 0 ?_;refine tk 1 ?_;refine tk 2 ?_;refine JD.take 3 rfl rfl (by kernel_rfl) rfl (qb rfl) (Qt.dc rfl rfl (by omega) (gZ hg)) rfl ?_;refine tk 4 ?_;refine tk 5 ?_;refine tk 6 ?_;refine tk 7 ?_;refine tk 8 ?_;refine JD.take 9 rfl rfl (by kernel_rfl) rfl (qb rfl) (Qt.dc rfl rfl (by omega) (gZ hg)) rfl ?_;refine tk 10 ?_;refine tk 11 ?_;refine JD.dA (i:=12) (j:=13) (by kernel_rfl) ?_ ?_;refine JS.cK rfl rfl rfl (qb rfl) (Ld.pure (FE (aa s g).ops (aa s g).at_) (qb rfl) rfl lq) .none (fun _=>?_);refine jl 13 rfl rfl rfl rfl (Ld.alloc (qb rfl)) .none (fun _=>?_);refine jt 14 rfl rfl (Ld.bh rfl rfl rfl (by exact rfl) (by exact rfl)) (fun _=>?_);refine cu ?_
 rotate_left
 refine JS.cK rfl rfl rfl (qb rfl) (Ld.alloc (qb rfl)) .none (fun _=>?_);refine c9 12 (FE (aa s g).ops (aa s g).at_) ?_;refine jt 14 rfl rfl (Ld.bh rfl rfl rfl (by exact rfl) (by exact rfl)) (fun _=>?_);refine cu ?_
 rotate_left
 all_goals
  repeat (first | refine aR (cS s g (oX (aa s g)) hg hb) ?_ | refine gn ?_)
  exact aC func251
theorem KY (s:ah) (g:Nat) (ch:Int) (hm:aL s ch=true) (hb:s.au.length≤100000) :
  Pure prog 200 [.agg (aD s),.c (nI g),.c (nI ch)] (.aZ [.agg (aD (Sx.tryLock s g ch).1),.c (bI (Sx.tryLock s g ch).2)]):=by
 have hl:=fh hm;refine av.intro func200 rfl rfl rfl (fun ok e=>?_)
 repeat (first | refine ay ?_ | intro _)
 refine J.cond rfl (fun h=>?_) (fun h=>?_)
 ·have h1:Sx.tryLock s g ch=(s,false):=by unfold Sx.tryLock;rw [if_neg (by simpa using h)]
  rw [h1]
  repeat (refine gn ?_)
  exact aC func200
 ·have h1:Sx.tryLock s g ch=(aA s ch { cn s ch with lock:=g },true):=by unfold Sx.tryLock;rw [if_pos (by simpa using h)]
  rw [h1]
  repeat (first | refine aR (nL s ch { cn s ch with lock:=g } hm hb) ?_ | refine gn ?_)
  exact aC func200
theorem FF (s:ah) (ch:Int) (hm:aL s ch=true) (hb:s.au.length≤100000) :
  Pure prog 216 [.agg (aD s),.c (nI ch)] (.agg (aD (Sx.free s ch))):=by
 have hl:=fh hm;refine av.intro func216 rfl rfl rfl (fun ok e=>?_)
 repeat (first | refine aR (nL s ch { cn s ch with lock:=-1 } hm hb) ?_ | refine ay ?_ | intro _)
 exact aC func216
theorem KZ (s:ah) (g:Nat) (hg:g < s.gs.length) (hb:s.gs.length≤100000) :
  Pure prog 218 [.agg (aD s),.c (nI g)] (.agg (aD (Sx.fF s g))):=by
 refine av.intro func218 rfl rfl rfl (fun ok e=>?_)
 cases h1:((aa s g).status == 0) with
 | true =>
  cases h2:(aa s g).token with
  | true =>
   have h3:Sx.fF s g=ai s g { aa s g with token:=false }:=by unfold Sx.fF;rw [if_pos ⟨by simpa using h1,h2⟩]
   rw [h3]
   repeat (first | refine J.iy (congrArg (fun b=>some (D.c (bI b))) h2) ?_ | refine aR (cS s g { aa s g with token:=false } hg hb) ?_ | refine ay ?_ | intro _)
   exact aC func218
  | false =>
   have h3:Sx.fF s g=ai s g { aa s g with status:=1 }:=by unfold Sx.fF;rw [if_neg (by simp [h2]),if_pos (by simpa using h1)]
   rw [h3]
   repeat (first | refine J.gK (congrArg (fun b=>some (D.c (bI b))) h2) ?_ | refine aR (cS s g { aa s g with status:=1 } hg hb) ?_ | refine ay ?_ | intro _)
   exact aC func218
 | false =>
  have h3:Sx.fF s g=ai s g (aa s g):=by unfold Sx.fF;rw [if_neg (by simp at h1;simp [h1]),if_neg (by simpa using h1)]
  rw [h3]
  repeat (first | refine aR (cS s g (aa s g) hg hb) ?_ | refine ay ?_ | intro _)
  exact aC func218
theorem Ux (s:ah) (g:Nat) (hg:g < s.gs.length) (hb:s.gs.length≤100000) :
  Pure prog 219 [.agg (aD s),.c (nI g)] (.agg (aD (Sx.ready s g))):=by
 refine av.intro func219 rfl rfl rfl (fun ok e=>?_)
 repeat (first | refine ay ?_ | intro _)
 refine J.cond rfl (fun h=>?_) (fun h=>?_)
 ·have h3:Sx.ready s g=ai s g { aa s g with status:=0 }:=by unfold Sx.ready;rw [if_pos (by simpa using h)]
  rw [h3]
  repeat (first | refine aR (cS s g { aa s g with status:=0 } hg hb) ?_ | refine gn ?_)
  exact aC func219
 ·repeat (refine gn ?_)
  refine J.cond rfl (fun h2=>?_) (fun h2=>?_)
  ·have h3:Sx.ready s g=ai s g { aa s g with token:=true }:=by unfold Sx.ready;rw [if_neg (by simpa using h),if_pos (by simpa using h2)]
   rw [h3]
   repeat (first | refine aR (cS s g { aa s g with token:=true } hg hb) ?_ | refine gn ?_)
   exact aC func219
  ·have h3:Sx.ready s g=ai s g (aa s g):=by unfold Sx.ready;rw [if_neg (by simpa using h),if_neg (by simpa using h2)]
   rw [h3]
   repeat (first | refine aR (cS s g (aa s g) hg hb) ?_ | refine gn ?_)
   exact aC func219
theorem zq (s:ah) (g:Nat) (hg:g < s.gs.length) (hb:s.gs.length≤100000) :
  Pure prog 164 [.agg (aD s),.c (nI g)] (.agg (aD (Sx.ak s g))):=by
 refine av.intro func164 rfl rfl rfl (fun ok e=>?_)
 repeat (first | refine ay ?_ | intro _)
 refine J.cond rfl (fun h=>?_) (fun h=>?_)
 ·have h3:Sx.ak s g=Sx.aG s g 17:=by unfold Sx.ak;rw [if_pos (by simpa using h)]
  rw [h3]
  repeat (first | refine aR (fU s g 17 hg hb) ?_ | refine gn ?_)
  exact aC func164
 ·have h3:Sx.ak s g=Sx.aG s g 18:=by unfold Sx.ak;rw [if_neg (by simpa using h)]
  rw [h3]
  repeat (first | refine aR (fU s g 18 hg hb) ?_ | refine gn ?_)
  exact aC func164
end Fl
end Go.Proofs.YtdjhhbpedllnhaaGreat
