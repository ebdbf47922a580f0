/-
  What the laws need, part A22.
  Conditions: none.
-/
import Derived.Test.YtofnbflkhgammaaGreatA7
import Derived.IntWalk
set_option linter.unusedVariables false
set_option linter.unusedSimpArgs false
set_option linter.unnecessarySimpa false
set_option maxHeartbeats 2000000
namespace Go.Proofs.YtofnbflkhgammaaGreat
open Go.RowKit
namespace Fl
open Sx
theorem at_nat {α:Type} {l:List α} {k:Nat} {a:α} (e:l[k]?=some a):l[((k:Int)).toNat]?=some a:=e
theorem iA {s:Sx.St} {g:Nat} (hg:g < s.gs.length):(s.gs.map eG)[((g:Int)).toNat]?=some (eG (Sx.gr s g)) :=
 at_map (at_nat (by rw [List.getElem?_eq_getElem hg];simp [Sx.gr,hg]))
theorem Ls {s:Sx.St} {ch:Int} (h:Sx.made s ch=true):(s.an.map eC)[(ch - 1).toNat]?=some (eC (cn s ch)):=by
 unfold Sx.made at h;simp at h;have:(ch - 1).toNat < s.an.length:=by omega
 exact at_map (by unfold cn;rw [List.getD_eq_getElem?_getD,List.getElem?_eq_getElem this];rfl)
theorem eD {s:Sx.St} {ch:Int} (h:Sx.made s ch=true):1≤ch∧ch≤s.an.length:=by unfold Sx.made at h;simpa using h
theorem ic {s:Sx.St} {i:Int} (h0:0≤i) (h:i < s.aB.length):(s.aB.map eS)[i.toNat]?=some (eS (su s i)):=by
 have:i.toNat < s.aB.length:=by omega
 exact at_map (by rw [List.getElem?_eq_getElem this];simp [su,this])
set_option maxRecDepth 100000
theorem cE (s:Sx.St) (g:Nat) (x:Gr) (hg:g < s.gs.length) (hb:s.gs.length≤100000) :
  Pure Tryz.prog 76 [.agg (ay s),.c (nI g),.agg (eG x)] (.agg (ay (Sx.aa s g x))):=by
 refine aq.intro Tryz.func76 rfl rfl rfl (fun ok e=>?_)
 repeat (first | (refine K.store ?_;refine JO.ld (Ld.fO rfl rfl rfl (by exact rfl) (by (simp;omega))) rfl (fun _=>?_)) | (refine K.indexAddr ?_;refine jq rfl rfl rfl (Qt.bF rfl rfl (by (omega)) (by (simp;omega))) ?_) | (refine K.bi ?_;refine JO.ld (Ld.bY (qb rfl) rfl rfl .read (by (simp;omega))) rfl (fun _=>?_)) | refine au ?_ | intro _)
 refine J.ve 0 1 3 rfl rfl rfl ?_;refine J.ret Tryz.func76 rfl (.cons (.cell 0 rfl rfl rfl) .nil) () (.of_eq ?_) [] .nil rfl rfl;have e1:([] ++ List.map eG s.gs).set ((g:Int)).toNat (eG x)=(s.gs.set g x).map eG:=by simp
 exact congrArg (fun l=>D.agg [nI s.dB,nI s.bN,nI s.step,.r 25 l,.r 6 (s.an.map eC),.r 7 (s.aB.map eS),.r 1 (s.cache.map fun l=>[ints l]),ints s.middle,nI s.fresh,.r 1 (s.cL.map fun n=>[.v (.int .u16 n)]),nI s.drawn,.r 13 (s.done.map eM)]) e1
theorem mX (s:Sx.St) (ch:Int) (x:Cn) (hm:Sx.made s ch=true) (hb:s.an.length≤100000) :
  Pure Tryz.prog 136 [.agg (ay s),.c (nI ch),.agg (eC x)] (.agg (ay (Sx.av s ch x))):=by
 have hl:=eD hm;refine aq.intro Tryz.func136 rfl rfl rfl (fun ok e=>?_)
 repeat (first | (refine K.store ?_;refine JO.ld (Ld.fO rfl rfl rfl (by exact rfl) (by (simp;omega))) rfl (fun _=>?_)) | (refine K.indexAddr ?_;refine jq rfl rfl rfl (Qt.bF rfl rfl (by (omega)) (by (simp;omega))) ?_) | (refine K.bi ?_;refine JO.ld (Ld.bY (qb rfl) rfl rfl .read (by (simp;omega))) rfl (fun _=>?_)) | refine au ?_ | intro _)
 refine J.ve 0 1 4 rfl rfl rfl ?_;refine J.ret Tryz.func136 rfl (.cons (.cell 0 rfl rfl rfl) .nil) () (.of_eq ?_) [] .nil rfl rfl;have e1:([] ++ List.map eC s.an).set (ch - 1).toNat (eC x)=(s.an.set (ch - 1).toNat x).map eC:=by simp
 exact congrArg (fun l=>D.agg [nI s.dB,nI s.bN,nI s.step,.r 25 (s.gs.map eG),.r 6 l,.r 7 (s.aB.map eS),.r 1 (s.cache.map fun l=>[ints l]),ints s.middle,nI s.fresh,.r 1 (s.cL.map fun n=>[.v (.int .u16 n)]),nI s.drawn,.r 13 (s.done.map eM)]) e1
theorem wu (s:Sx.St) (i:Int) (x:Su) (h0:0≤i) (hi:i < s.aB.length) (hb:s.aB.length≤100000) :
  Pure Tryz.prog 77 [.agg (ay s),.c (nI i),.agg (eS x)] (.agg (ay (Sx.aF s i x))):=by
 refine aq.intro Tryz.func77 rfl rfl rfl (fun ok e=>?_)
 repeat (first | (refine K.store ?_;refine JO.ld (Ld.fO rfl rfl rfl (by exact rfl) (by (simp;omega))) rfl (fun _=>?_)) | (refine K.indexAddr ?_;refine jq rfl rfl rfl (Qt.bF rfl rfl (by (omega)) (by (simp;omega))) ?_) | (refine K.bi ?_;refine JO.ld (Ld.bY (qb rfl) rfl rfl .read (by (simp;omega))) rfl (fun _=>?_)) | refine au ?_ | intro _)
 refine J.ve 0 1 5 rfl rfl rfl ?_;refine J.ret Tryz.func77 rfl (.cons (.cell 0 rfl rfl rfl) .nil) () (.of_eq ?_) [] .nil rfl rfl;have e1:([] ++ List.map eS s.aB).set i.toNat (eS x)=(s.aB.set i.toNat x).map eS:=by simp
 exact congrArg (fun l=>D.agg [nI s.dB,nI s.bN,nI s.step,.r 25 (s.gs.map eG),.r 6 (s.an.map eC),.r 7 l,.r 1 (s.cache.map fun l=>[ints l]),ints s.middle,nI s.fresh,.r 1 (s.cL.map fun n=>[.v (.int .u16 n)]),nI s.drawn,.r 13 (s.done.map eM)]) e1
theorem fG (s:Sx.St) (g:Nat) (p:Int) (hg:g < s.gs.length) (hb:s.gs.length≤100000) :
  Pure Tryz.prog 85 [.agg (ay s),.c (nI g),.c (nI p)] (.agg (ay (Sx.aE s g p))):=by
 refine aq.intro Tryz.func85 rfl rfl rfl (fun ok e=>?_)
 repeat (first | refine aJ (cE s g { Sx.gr s g with place:=p } hg hb) ?_ | refine au ?_ | intro _)
 exact J.ret Tryz.func85 rfl (.cons (.cell 1 rfl rfl rfl) .nil) () .refl [] .nil rfl rfl
theorem jh (s:Sx.St) (g:Nat) (r:Md.ai) (p:Int) (hg:g < s.gs.length) (hb:s.gs.length≤100000) :
  Pure Tryz.prog 141 [.agg (ay s),.c (nI g),.agg (vj r),.c (nI p)] (.agg (ay (bw s g r p))):=by
 refine aq.intro Tryz.func141 rfl rfl rfl (fun ok e=>?_)
 repeat (first | refine aJ (cE s g { Sx.gr s g with bG:=s.step,res:=r,place:=p } hg hb) ?_ | refine au ?_ | intro _)
 exact J.ret Tryz.func141 rfl (.cons (.cell 1 rfl rfl rfl) .nil) () .refl [] .nil rfl rfl
theorem eK (s:Sx.St) (ch:Int) :
  Pure Tryz.prog 20 [.agg (ay s),.c (nI ch)] (.c (bI (Sx.made s ch))):=by
 refine aq.intro Tryz.func20 rfl rfl rfl (fun ok e=>?_)
 cases h1:(decide (ch ≥ 1)) with
 | true =>
  repeat (first | refine au ?_ | intro _)
  refine J.ret Tryz.func20 rfl (.cons (.tmp rfl) .nil) () (.of_eq ?_) [] .nil rfl rfl
  show D.c (bI _)=_
  congr 2
  unfold Sx.made;simp at h1 ⊢;omega
 | false =>
  repeat (first | refine au ?_ | intro _)
  refine J.ret Tryz.func20 rfl (.cons (.tmp rfl) .nil) () (.of_eq ?_) [] .nil rfl rfl
  show D.c (bI false)=_
  congr 2
  unfold Sx.made;simp at h1 ⊢;omega
end Fl
open Go.RowKit
namespace Fl
open Sx
set_option maxRecDepth 100000
theorem Ma {s:Sx.St} {g:Nat} (h0:0≤(Sx.gr s g).at_) (h:(Sx.gr s g).at_ < (Sx.gr s g).ops.length):((Sx.gr s g).ops.map dO)[(Sx.gr s g).at_.toNat]?=some (dO (Sx.op s g)):=by
 have:(Sx.gr s g).at_.toNat < (Sx.gr s g).ops.length:=by omega
 exact at_map (by unfold Sx.op;rw [List.getD_eq_getElem?_getD,List.getElem?_eq_getElem this];rfl)
theorem Mb {s:Sx.St} {g:Nat} (h0:0≤(Sx.gr s g).at_) (h:(Sx.gr s g).ops.length≤(Sx.gr s g).at_):Sx.op s g=xE:=by
 unfold Sx.op;rw [List.getD_eq_getElem?_getD,List.getElem?_eq_none (by omega)];rfl
theorem dj (s:Sx.St) (g:Nat) (hg:g < s.gs.length) (h0:0≤(Sx.gr s g).at_) :
  Pure Tryz.prog 23 [.agg (ay s),.c (nI g)] (.agg (dO (Sx.op s g))):=by
 refine aq.intro Tryz.func23 rfl rfl rfl (fun ok e=>?_)
 repeat (first | refine au ?_ | intro _)
 refine J.draw (by kernel_rfl) rfl ?_;refine JW.base none ?_;refine tk 0 ?_;refine tk 1 ?_;refine tk 2 ?_;refine JD.take 3 rfl rfl (by kernel_rfl) rfl (qb rfl) (Qt.cq rfl rfl (by omega) (iA hg)) rfl ?_;refine tk 4 ?_;refine tk 5 ?_;refine tk 6 ?_;refine tk 7 ?_;refine tk 8 ?_;refine JD.take 9 rfl rfl (by kernel_rfl) rfl (qb rfl) (Qt.cq rfl rfl (by omega) (iA hg)) rfl ?_;refine tk 10 ?_;refine tk 11 ?_;refine tk 12 ?_;refine tk 13 ?_;refine bH ?_;refine J.cond rfl (fun h=>?_) (fun h=>?_)
 ·have h1:(Sx.gr s g).ops.length≤(Sx.gr s g).at_:=by simpa using h
  rw [Mb h0 h1]
  repeat (refine gn ?_)
  (exact J.ret Tryz.func23 rfl (.cons (.cell 0 rfl rfl rfl) .nil) () (by (exact .agg (by repeat (first | exact .nil | refine .cons .refl ?_ | refine .cons .nil ?_)))) [] .nil rfl rfl)
 ·have h1:(Sx.gr s g).at_ < (Sx.gr s g).ops.length:=by simp at h;omega
  repeat (refine gn ?_)
  refine J.draw (by kernel_rfl) rfl ?_;refine JW.base (some 14) ?_;refine tk 0 ?_;refine tk 1 ?_;refine tk 2 ?_;refine JD.take 3 rfl rfl (by kernel_rfl) rfl (qb rfl) (Qt.cq rfl rfl (by omega) (iA hg)) rfl ?_;refine tk 4 ?_;refine tk 5 ?_;refine tk 6 ?_;refine tk 7 ?_;refine tk 8 ?_;refine JD.take 9 rfl rfl (by kernel_rfl) rfl (qb rfl) (Qt.cq rfl rfl (by omega) (iA hg)) rfl ?_;refine tk 10 ?_;refine tk 11 ?_;refine JD.take 12 rfl rfl (by kernel_rfl) rfl (qb rfl) (Qt.cq rfl rfl h0 (Ma h0 h1)) rfl ?_;refine tk 13 ?_;refine jt 14 rfl rfl (Ld.aP rfl rfl rfl (by exact rfl) (by exact rfl)) (fun _=>?_);refine bJ ?_;exact az Tryz.func23
theorem FG (ops:List Pn.Op) (a:Int) :
  Pure Tryz.prog 75 [.c (.r 6 (ops.map dO)),.c (nI a)] (.agg (eG (clean ops a))):=by
 refine aq.intro Tryz.func75 rfl rfl rfl (fun ok e=>?_)
 repeat (first | refine au ?_ | intro _)
 (exact J.ret Tryz.func75 rfl (.cons (.cell 0 rfl rfl rfl) .nil) () (by (exact .agg (by repeat (first | exact .nil | refine .cons .refl ?_ | refine .cons .nil ?_)))) [] .nil rfl rfl)
theorem FH (s:Sx.St) (g:Nat) (hg:g < s.gs.length) (hb:s.gs.length≤100000) :
  Pure Tryz.prog 25 [.agg (ay s),.c (nI g)] (.agg (ay (Sx.clear s g))):=by
 refine aq.intro Tryz.func25 rfl rfl rfl (fun ok e=>?_)
 repeat (first | refine au ?_ | intro _)
 refine J.draw (by kernel_rfl) rfl ?_;refine JW.base (some 14) ?_;refine tk 0 ?_;refine tk 1 ?_;refine tk 2 ?_;refine JD.take 3 rfl rfl (by kernel_rfl) rfl (qb rfl) (Qt.cq rfl rfl (by omega) (iA hg)) rfl ?_;refine tk 4 ?_;refine tk 5 ?_;refine tk 6 ?_;refine tk 7 ?_;refine tk 8 ?_;refine JD.take 9 rfl rfl (by kernel_rfl) rfl (qb rfl) (Qt.cq rfl rfl (by omega) (iA hg)) rfl ?_;refine tk 10 ?_;refine tk 11 ?_;refine JD.cB (i:=12) (j:=13) (by kernel_rfl) ?_ ?_;refine JS.bp rfl rfl rfl (qb rfl) (Ld.pure (FG (Sx.gr s g).ops (Sx.gr s g).at_) (qb rfl) rfl lq) .none (fun _=>?_);refine jl 13 rfl rfl rfl rfl (Ld.alloc (qb rfl)) .none (fun _=>?_);refine jt 14 rfl rfl (Ld.aP rfl rfl rfl (by exact rfl) (by exact rfl)) (fun _=>?_);refine bJ ?_
 rotate_left
 refine JS.bp rfl rfl rfl (qb rfl) (Ld.alloc (qb rfl)) .none (fun _=>?_);refine cU 12 (FG (Sx.gr s g).ops (Sx.gr s g).at_) ?_;refine jt 14 rfl rfl (Ld.aP rfl rfl rfl (by exact rfl) (by exact rfl)) (fun _=>?_);refine bJ ?_
 rotate_left
 all_goals
  repeat (first | refine aJ (cE s g (gu (Sx.gr s g)) hg hb) ?_ | refine gn ?_)
  exact az Tryz.func25
theorem Mc (s:Sx.St) (g:Nat) (ch:Int) (hm:Sx.made s ch=true) (hb:s.an.length≤100000) :
  Pure Tryz.prog 84 [.agg (ay s),.c (nI g),.c (nI ch)] (.aV [.agg (ay (Sx.tryLock s g ch).1),.c (bI (Sx.tryLock s g ch).2)]):=by
 have hl:=eD hm;refine aq.intro Tryz.func84 rfl rfl rfl (fun ok e=>?_)
 repeat (first | refine au ?_ | intro _)
 refine J.cond rfl (fun h=>?_) (fun h=>?_)
 ·have h1:Sx.tryLock s g ch=(s,false):=by unfold Sx.tryLock;rw [if_neg (by simpa using h)]
  rw [h1]
  repeat (refine gn ?_)
  exact az Tryz.func84
 ·have h1:Sx.tryLock s g ch=(Sx.av s ch { cn s ch with lock:=g },true):=by unfold Sx.tryLock;rw [if_pos (by simpa using h)]
  rw [h1]
  repeat (first | refine aJ (mX s ch { cn s ch with lock:=g } hm hb) ?_ | refine gn ?_)
  exact az Tryz.func84
theorem FI (s:Sx.St) (ch:Int) (hm:Sx.made s ch=true) (hb:s.an.length≤100000) :
  Pure Tryz.prog 86 [.agg (ay s),.c (nI ch)] (.agg (ay (Sx.free s ch))):=by
 have hl:=eD hm;refine aq.intro Tryz.func86 rfl rfl rfl (fun ok e=>?_)
 repeat (first | refine aJ (mX s ch { cn s ch with lock:=-1 } hm hb) ?_ | refine au ?_ | intro _)
 exact az Tryz.func86
theorem Me (s:Sx.St) (g:Nat) (hg:g < s.gs.length) (hb:s.gs.length≤100000) :
  Pure Tryz.prog 87 [.agg (ay s),.c (nI g)] (.agg (ay (Sx.fh s g))):=by
 refine aq.intro Tryz.func87 rfl rfl rfl (fun ok e=>?_)
 cases h1:((Sx.gr s g).status == 0) with
 | true =>
  cases h2:(Sx.gr s g).token with
  | true =>
   have h3:Sx.fh s g=Sx.aa s g { Sx.gr s g with token:=false }:=by unfold Sx.fh;rw [if_pos ⟨by simpa using h1,h2⟩]
   rw [h3]
   repeat (first | refine J.eN (congrArg (fun b=>some (D.c (bI b))) h2) ?_ | refine aJ (cE s g { Sx.gr s g with token:=false } hg hb) ?_ | refine au ?_ | intro _)
   exact az Tryz.func87
  | false =>
   have h3:Sx.fh s g=Sx.aa s g { Sx.gr s g with status:=1 }:=by unfold Sx.fh;rw [if_neg (by simp [h2]),if_pos (by simpa using h1)]
   rw [h3]
   repeat (first | refine J.ez (congrArg (fun b=>some (D.c (bI b))) h2) ?_ | refine aJ (cE s g { Sx.gr s g with status:=1 } hg hb) ?_ | refine au ?_ | intro _)
   exact az Tryz.func87
 | false =>
  have h3:Sx.fh s g=Sx.aa s g (Sx.gr s g):=by unfold Sx.fh;rw [if_neg (by simp at h1;simp [h1]),if_neg (by simpa using h1)]
  rw [h3]
  repeat (first | refine aJ (cE s g (Sx.gr s g) hg hb) ?_ | refine au ?_ | intro _)
  exact az Tryz.func87
theorem Wf (s:Sx.St) (g:Nat) (hg:g < s.gs.length) (hb:s.gs.length≤100000) :
  Pure Tryz.prog 90 [.agg (ay s),.c (nI g)] (.agg (ay (Sx.ready s g))):=by
 refine aq.intro Tryz.func90 rfl rfl rfl (fun ok e=>?_)
 repeat (first | refine au ?_ | intro _)
 refine J.cond rfl (fun h=>?_) (fun h=>?_)
 ·have h3:Sx.ready s g=Sx.aa s g { Sx.gr s g with status:=0 }:=by unfold Sx.ready;rw [if_pos (by simpa using h)]
  rw [h3]
  repeat (first | refine aJ (cE s g { Sx.gr s g with status:=0 } hg hb) ?_ | refine gn ?_)
  exact az Tryz.func90
 ·repeat (refine gn ?_)
  refine J.cond rfl (fun h2=>?_) (fun h2=>?_)
  ·have h3:Sx.ready s g=Sx.aa s g { Sx.gr s g with token:=true }:=by unfold Sx.ready;rw [if_neg (by simpa using h),if_pos (by simpa using h2)]
   rw [h3]
   repeat (first | refine aJ (cE s g { Sx.gr s g with token:=true } hg hb) ?_ | refine gn ?_)
   exact az Tryz.func90
  ·have h3:Sx.ready s g=Sx.aa s g (Sx.gr s g):=by unfold Sx.ready;rw [if_neg (by simpa using h),if_neg (by simpa using h2)]
   rw [h3]
   repeat (first | refine aJ (cE s g (Sx.gr s g) hg hb) ?_ | refine gn ?_)
   exact az Tryz.func90
theorem y9 (s:Sx.St) (g:Nat) (hg:g < s.gs.length) (hb:s.gs.length≤100000) :
  Pure Tryz.prog 89 [.agg (ay s),.c (nI g)] (.agg (ay (Sx.ah s g))):=by
 refine aq.intro Tryz.func89 rfl rfl rfl (fun ok e=>?_)
 repeat (first | refine au ?_ | intro _)
 refine J.cond rfl (fun h=>?_) (fun h=>?_)
 ·have h3:Sx.ah s g=Sx.aE s g 17:=by unfold Sx.ah;rw [if_pos (by simpa using h)]
  rw [h3]
  repeat (first | refine aJ (fG s g 17 hg hb) ?_ | refine gn ?_)
  exact az Tryz.func89
 ·have h3:Sx.ah s g=Sx.aE s g 18:=by unfold Sx.ah;rw [if_neg (by simpa using h)]
  rw [h3]
  repeat (first | refine aJ (fG s g 18 hg hb) ?_ | refine gn ?_)
  exact az Tryz.func89
end Fl
end Go.Proofs.YtofnbflkhgammaaGreat
