/-
  What the laws need, part B4.
  Conditions: none.
-/
import Derived.Test.YtgjpdogjekmemaaGreatB2
import Derived.IntWalk
set_option linter.unusedVariables false
set_option linter.unusedSimpArgs false
set_option linter.unnecessarySimpa false
set_option maxHeartbeats 2000000
namespace Go.Proofs.YtgjpdogjekmemaaGreat
open Go.RowKit
namespace Fl
open Sx Go.Proofs.Tryz
theorem at_nat {α:Type} {l:List α} {k:Nat} {a:α} (e:l[k]?=some a):l[((k:Int)).toNat]?=some a:=e
theorem fM {s:ai} {g:Nat} (hg:g < s.gs.length):(s.gs.map eG)[((g:Int)).toNat]?=some (eG (aa s g)) :=
 at_map (at_nat (by rw [List.getElem?_eq_getElem hg];simp [aa,hg]))
theorem Mt {s:ai} {ch:Int} (h:aR s ch=true):(s.aK.map eC)[(ch - 1).toNat]?=some (eC (cn s ch)):=by
 unfold aR at h;simp at h;have:(ch - 1).toNat < s.aK.length:=by omega
 exact at_map (by unfold cn;rw [List.getD_eq_getElem?_getD,List.getElem?_eq_getElem this];rfl)
theorem dJ {s:ai} {ch:Int} (h:aR s ch=true):1≤ch∧ch≤s.aK.length:=by unfold aR at h;simpa using h
theorem fO {s:ai} {i:Int} (h0:0≤i) (h:i < s.aL.length):(s.aL.map eS)[i.toNat]?=some (eS (su s i)):=by
 have:i.toNat < s.aL.length:=by omega
 exact at_map (by rw [List.getElem?_eq_getElem this];simp [su,this])
set_option maxRecDepth 100000
theorem cj (s:ai) (g:Nat) (x:Gr) (hg:g < s.gs.length) (hb:s.gs.length≤100000) :
  Pure prog 107 [.agg (aC s),.c (nI g),.agg (eG x)] (.agg (aC (ah s g x))):=by
 refine aA.intro func107 rfl rfl rfl (fun ok e=>?_)
 repeat (first | (refine K.store ?_;refine JO.ld (Ld.bM rfl rfl rfl (by exact rfl) (by (simp;omega))) rfl (fun _=>?_)) | (refine K.indexAddr ?_;refine jq rfl rfl rfl (Qt.aN rfl rfl (by (omega)) (by (simp;omega))) ?_) | (refine K.bi ?_;refine JO.ld (Ld.bO (qb rfl) rfl rfl .read (by (simp;omega))) rfl (fun _=>?_)) | refine au ?_ | intro _)
 refine J.pY 0 1 3 rfl rfl rfl ?_;refine J.ret func107 rfl (.cons (.cell 0 rfl rfl rfl) .nil) () (.of_eq ?_) [] .nil rfl rfl;have e1:([] ++ List.map eG s.gs).set ((g:Int)).toNat (eG x)=(s.gs.set g x).map eG:=by simp
 exact congrArg (fun l=>D.agg [nI s.eV,nI s.cG,nI s.step,.r 25 l,.r 6 (s.aK.map eC),.r 7 (s.aL.map eS),.r 1 (s.cache.map fun l=>[ints l]),ints s.middle,nI s.fresh,.r 1 (s.cY.map fun n=>[.v (.int .u16 n)]),nI s.drawn,.r 13 (s.done.map eM)]) e1
theorem jR (s:ai) (ch:Int) (x:Cn) (hm:aR s ch=true) (hb:s.aK.length≤100000) :
  Pure prog 115 [.agg (aC s),.c (nI ch),.agg (eC x)] (.agg (aC (aH s ch x))):=by
 have hl:=dJ hm;refine aA.intro func115 rfl rfl rfl (fun ok e=>?_)
 repeat (first | (refine K.store ?_;refine JO.ld (Ld.bM rfl rfl rfl (by exact rfl) (by (simp;omega))) rfl (fun _=>?_)) | (refine K.indexAddr ?_;refine jq rfl rfl rfl (Qt.aN rfl rfl (by (omega)) (by (simp;omega))) ?_) | (refine K.bi ?_;refine JO.ld (Ld.bO (qb rfl) rfl rfl .read (by (simp;omega))) rfl (fun _=>?_)) | refine au ?_ | intro _)
 refine J.pY 0 1 4 rfl rfl rfl ?_;refine J.ret func115 rfl (.cons (.cell 0 rfl rfl rfl) .nil) () (.of_eq ?_) [] .nil rfl rfl;have e1:([] ++ List.map eC s.aK).set (ch - 1).toNat (eC x)=(s.aK.set (ch - 1).toNat x).map eC:=by simp
 exact congrArg (fun l=>D.agg [nI s.eV,nI s.cG,nI s.step,.r 25 (s.gs.map eG),.r 6 l,.r 7 (s.aL.map eS),.r 1 (s.cache.map fun l=>[ints l]),ints s.middle,nI s.fresh,.r 1 (s.cY.map fun n=>[.v (.int .u16 n)]),nI s.drawn,.r 13 (s.done.map eM)]) e1
theorem qv (s:ai) (i:Int) (x:Su) (h0:0≤i) (hi:i < s.aL.length) (hb:s.aL.length≤100000) :
  Pure prog 112 [.agg (aC s),.c (nI i),.agg (eS x)] (.agg (aC (bh s i x))):=by
 refine aA.intro func112 rfl rfl rfl (fun ok e=>?_)
 repeat (first | (refine K.store ?_;refine JO.ld (Ld.bM rfl rfl rfl (by exact rfl) (by (simp;omega))) rfl (fun _=>?_)) | (refine K.indexAddr ?_;refine jq rfl rfl rfl (Qt.aN rfl rfl (by (omega)) (by (simp;omega))) ?_) | (refine K.bi ?_;refine JO.ld (Ld.bO (qb rfl) rfl rfl .read (by (simp;omega))) rfl (fun _=>?_)) | refine au ?_ | intro _)
 refine J.pY 0 1 5 rfl rfl rfl ?_;refine J.ret func112 rfl (.cons (.cell 0 rfl rfl rfl) .nil) () (.of_eq ?_) [] .nil rfl rfl;have e1:([] ++ List.map eS s.aL).set i.toNat (eS x)=(s.aL.set i.toNat x).map eS:=by simp
 exact congrArg (fun l=>D.agg [nI s.eV,nI s.cG,nI s.step,.r 25 (s.gs.map eG),.r 6 (s.aK.map eC),.r 7 l,.r 1 (s.cache.map fun l=>[ints l]),ints s.middle,nI s.fresh,.r 1 (s.cY.map fun n=>[.v (.int .u16 n)]),nI s.drawn,.r 13 (s.done.map eM)]) e1
theorem dX (s:ai) (g:Nat) (p:Int) (hg:g < s.gs.length) (hb:s.gs.length≤100000) :
  Pure prog 105 [.agg (aC s),.c (nI g),.c (nI p)] (.agg (aC (aT s g p))):=by
 refine aA.intro func105 rfl rfl rfl (fun ok e=>?_)
 repeat (first | refine aO (cj s g { aa s g with place:=p } hg hb) ?_ | refine au ?_ | intro _)
 exact J.ret func105 rfl (.cons (.cell 1 rfl rfl rfl) .nil) () .refl [] .nil rfl rfl
theorem gE (s:ai) (g:Nat) (r:Md.ak) (p:Int) (hg:g < s.gs.length) (hb:s.gs.length≤100000) :
  Pure prog 106 [.agg (aC s),.c (nI g),.agg (qd r),.c (nI p)] (.agg (aC (bG s g r p))):=by
 refine aA.intro func106 rfl rfl rfl (fun ok e=>?_)
 repeat (first | refine aO (cj s g { aa s g with bS:=s.step,res:=r,place:=p } hg hb) ?_ | refine au ?_ | intro _)
 exact J.ret func106 rfl (.cons (.cell 1 rfl rfl rfl) .nil) () .refl [] .nil rfl rfl
theorem dN (s:ai) (ch:Int) :
  Pure prog 103 [.agg (aC s),.c (nI ch)] (.c (bI (aR s ch))):=by
 refine aA.intro func103 rfl rfl rfl (fun ok e=>?_)
 cases h1:(decide (ch ≥ 1)) with
 | true =>
  repeat (first | refine au ?_ | intro _)
  refine J.ret func103 rfl (.cons (.tmp rfl) .nil) () (.of_eq ?_) [] .nil rfl rfl
  show D.c (bI _)=_
  congr 2
  unfold aR;simp at h1 ⊢;omega
 | false =>
  repeat (first | refine au ?_ | intro _)
  refine J.ret func103 rfl (.cons (.tmp rfl) .nil) () (.of_eq ?_) [] .nil rfl rfl
  show D.c (bI false)=_
  congr 2
  unfold aR;simp at h1 ⊢;omega
end Fl
end Go.Proofs.YtgjpdogjekmemaaGreat
