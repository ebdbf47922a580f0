/-
  What the laws need, part B9.
  Conditions: none.
-/
import Derived.Test.YtdjhhbpedllnhaaGreatB5
set_option linter.unusedVariables false
set_option linter.unusedSimpArgs false
set_option linter.unnecessarySimpa false
set_option maxHeartbeats 2000000
namespace Go.Proofs.YtdjhhbpedllnhaaGreat
open Go.RowKit
namespace Fl
open Sx Go.Proofs.Tryz
set_option maxRecDepth 100000
def dK (s:ah) (i:Int):Prop:=0≤i∧i < s.aA.length∧0≤(su s i).g∧(su s i).g < s.gs.length
theorem dK.at_ {s:ah} {i:Int} (h:dK s i):(s.aA.map eS)[i.toNat]?=some (eS (su s i)):=iC h.1 h.2.1
theorem dK.gr {s:ah} {i:Int} (h:dK s i):(s.gs.map eG)[(su s i).g.toNat]?=some (eG (aa s (su s i).g.toNat)):=by
 have h1:=h.2.2;have:=iB (s:=s) (g:=(su s i).g.toNat) (by omega)
 rwa [Int.toNat_natCast] at this
theorem J6 {n:Int} (h:0≤n):nI n=nI (n.toNat:Nat):=by rw [Int.toNat_of_nonneg h]
def Few (s:ah):Prop:=s.gs.length≤100000∧s.av.length≤100000∧s.aA.length≤100000
theorem y9 (s:ah) (g:Int) (x:Gr) (h0:0≤g) (hg:g < s.gs.length) (hb:s.gs.length≤100000) :
  Pure prog 201 [.agg (aC s),.c (nI g),.agg (eG x)] (.agg (aC (ai s g.toNat x))):=by
 have:=cV s g.toNat x (by omega) hb
 rwa [← J6 h0] at this
theorem cD (s:ah) (g:Nat) (x:Gr):(ai s g x).gs.length=s.gs.length:=by simp [ai]
theorem J7 (s:ah) (g:Nat) (i:Int) (hg:g < s.gs.length) (hi:dK s i) (hb:Few s) :
  Pure prog 207 [.agg (aC s),.c (nI g),.c (nI i)] (.agg (aC (Sx.pair s g i))):=by
 obtain ⟨gz,eJ,dM,iY⟩:=id hi;refine an.intro func207 rfl rfl rfl (fun ok e=>?_)
 repeat (first | (refine K.indexAddr ?_;first | refine jx rfl rfl rfl rfl (by omega) (hi.at_) ?_ | refine jx rfl rfl rfl rfl (by omega) (hi.gr) ?_) | refine ay ?_ | intro _)
 refine J.draw (by kernel_rfl) rfl ?_;refine JW.base (some 7) ?_;refine tk 0 ?_;refine tk 1 ?_;refine tk 2 ?_;refine tk 4 ?_;refine tk 5 ?_;refine dA 3 (y9 s (su s i).g { aa s (su s i).g.toNat with bT:=(aa s g).t,wi:=g,dm:=(su s i).cs } dM iY hb.1) ?_;refine jl 6 rfl rfl rfl rfl (Ld.pure (cV (ai s (su s i).g.toNat { aa s (su s i).g.toNat with bT:=(aa s g).t,wi:=g,dm:=(su s i).cs }) g { aa s g with bT:=(aa s g).t,wi:=(su s i).g } (by rw [cD];exact hg) (by rw [cD];exact hb.1)) (qb rfl) rfl lq) .none (fun _=>?_);refine jt 7 rfl rfl (Ld.bq rfl rfl rfl (by exact rfl) (by exact rfl)) (fun _=>?_);refine bR ?_;exact aD func207
theorem kU (v:Int) (ok:Bool):Pure prog 210 [.c (.v (.int .i64 v)),.c (bI ok)] (.agg (qZ (eB v ok))):=by
 refine an.intro func210 rfl rfl rfl (fun ok e=>?_)
 repeat (first | refine ay ?_ | intro _)
 exact aD func210
theorem BD:Pure prog 228 [] (.agg (qZ oH)):=by
 refine an.intro func228 rfl rfl rfl (fun ok e=>?_)
 repeat (first | refine ay ?_ | intro _)
 exact aD func228
theorem za (r:Md.aj) (i:Int):Pure prog 212 [.agg (qZ r),.c (nI i)] (.agg (qZ { r with cs:=i })):=by
 refine an.intro func212 rfl rfl rfl (fun ok e=>?_)
 repeat (first | refine ay ?_ | intro _)
 exact aD func212
theorem So (c:Cn):Pure prog 225 [.agg (eC c)] (.c (bI (Sx.room c))):=by
 refine an.intro func225 rfl rfl rfl (fun ok e=>?_)
 repeat (first | refine ay ?_ | intro _)
 refine J.cond rfl (fun h=>?_) (fun h=>?_)
 ·repeat (refine gn ?_)
  refine J.ret func225 rfl (.cons (.tmp rfl) .nil) () (.of_eq ?_) [] .nil rfl rfl
  show D.c (bI _)=_;unfold Sx.room;rw [if_pos (by simpa using h)]
  try simp
 ·repeat (refine gn ?_)
  refine J.ret func225 rfl (.cons (.tmp rfl) .nil) () (.of_eq ?_) [] .nil rfl rfl
  show D.c (bI _)=_;unfold Sx.room;rw [if_neg (by simpa using h)]
  try simp
theorem J8 (c:Cn):Pure prog 231 [.agg (eC c)] (.c (bI (tY c))):=by
 refine an.intro func231 rfl rfl rfl (fun ok e=>?_)
 repeat (first | refine ay ?_ | intro _)
 refine J.cond rfl (fun h=>?_) (fun h=>?_)
 ·repeat (refine gn ?_)
  refine J.ret func231 rfl (.cons (.tmp rfl) .nil) () (.of_eq ?_) [] .nil rfl rfl
  show D.c (bI _)=_;unfold tY;rw [if_pos (by simpa using h)]
  try simp
 ·repeat (refine gn ?_)
  refine J.ret func231 rfl (.cons (.tmp rfl) .nil) () (.of_eq ?_) [] .nil rfl rfl
  show D.c (bI _)=_;unfold tY;rw [if_neg (by simpa using h)]
  try simp
end Fl
open Go.RowKit
namespace Fl
open Sx Go.Proofs.Tryz
set_option maxRecDepth 100000
theorem take_one {α:Type} {l:List α} {k:Nat} {a:α} (e:l[k]?=some a):l.take (k + 1)=l.take k ++ [a]:=by
 rw [List.take_add_one,e];rfl
theorem ints_at {l:List Int} {k:Nat} {a:Int} (e:l[k]?=some a):(l.map fun n=>[nI n])[((k:Int)).toNat]?=some [nI a]:=at_map (at_nat e)
theorem J9 (l:List Int) (x:Int) (hb:l.length≤100000) :
  Pure prog 245 [.c (ints l),.c (nI x)] (.c (ints (gO l x))):=by
 refine an.intro func245 rfl rfl rfl (fun ok e=>?_)
 repeat (first | refine ay ?_ | intro _)
 rename_i b;refine J.loop (ι:=Nat × Value) (fun p=>[(9,.c (ints l)),(10,.c (nI l.length)),(11,.c (nI p.1)),(5,.c (.v p.2)),(1,.c (nI x))]) (fun p=>[.row p.2 3 1 ((gO (l.take p.1) x).map fun n=>[nI n])]) (fun p=>l.length - p.1) (0,.slice (some ⟨b,0,none⟩) 0 0) (fun X h=>h.aW ⟨rfl,rfl,rfl,rfl,rfl,trivial⟩) (fun p ih=>?_);obtain ⟨k,v⟩:=p
 by_cases hk:k < l.length
 ·obtain ⟨y,hy⟩:∃ y,l[k]?=some y:=⟨_,List.getElem?_eq_getElem hk⟩
  have h1:(decide ((k:Int) < (l.length:Int)))=true:=by simpa using hk
  have hlen:(gO (l.take k) x).length≤100000:=Nat.le_trans (List.length_filter_le _ _) (by simp;omega)
  repeat (refine gn ?_)
  refine J.cond rfl (fun h=>?_) (fun h=>?_)
  ·have e1:gO (l.take (k + 1)) x=gO (l.take k) x ++ [y]:=by
    rw [take_one hy];unfold gO;rw [List.filter_append];simp at h;simp [h]
   repeat (first | (refine K.bi ?_;refine JO.ld (Ld.cy (qb rfl) rfl rfl .dj (by (simp;omega))) rfl (fun _=>?_)) | refine ay ?_ | intro _)
   rename_i b2 v2;refine J.drop 1 ?_;refine J.dN ?_ ((ih (k + 1,v2) (by simp;omega)).aW ⟨rfl,rfl,rfl,rfl,rfl,trivial⟩);simp only [e1,List.map_append,List.map_cons,List.map_nil];rfl
  ·have e1:gO (l.take (k + 1)) x=gO (l.take k) x:=by
    rw [take_one hy];unfold gO;rw [List.filter_append];simp at h;simp [h]
   repeat (refine gn ?_)
   refine J.dN ?_ ((ih (k + 1,v) (by simp;omega)).aW ⟨rfl,rfl,rfl,rfl,rfl,trivial⟩);simp only [e1]
 ·have h1:(decide ((k:Int) < (l.length:Int)))=false:=by simpa using hk
  repeat (refine gn ?_)
  refine J.ji 4 rfl ?_;refine J.ret func245 rfl (.cons (.tmp rfl) .nil) () (.of_eq ?_) [] .nil rfl rfl;rw [List.take_of_length_le (show l.length≤k by omega)];rfl
structure Fit (s:ah):Prop extends Few s where
 wk:∀ g:Nat,(aa s g).au.length≤50000
 rv:∀ ch,(cn s ch).recv.length≤50000
 sd:∀ ch,(cn s ch).send.length≤50000
 bf:∀ ch,(cn s ch).buf.length≤50000
 od:∀ g:Nat,(aa s g).order.length≤50000
 sg:∀ g:Nat,(aa s g).aq.length≤50000
 dn:s.done.length≤50000
 ca:s.cache.length≤50000
 cl:∀ g:Nat,(s.cache.getD g []).length≤50000
 md:s.middle.length≤50000
theorem Sp (s:ah) (ch:Int) (x:Cn):(aE s ch x).av.length=s.av.length:=by simp [aE]
theorem Ka (s:ah) (i:Int) (x:Su):(aV s i x).aA.length=s.aA.length:=by simp [aV]
theorem sW (s:ah) (i:Int) (h0:0≤i) (hi:i < s.aA.length) (hr:(cn s (su s i).ch).recv.length≤100000) (hs:(cn s (su s i).ch).send.length≤100000) (hb:s.av.length≤100000) :
  Pure prog 206 [.agg (aC s),.c (nI i)] (.agg (aC (aZ s i))):=by
 refine an.intro func206 rfl rfl rfl (fun ok e=>?_)
 repeat (first | (refine K.indexAddr ?_;refine jx rfl rfl rfl rfl (by omega) (iC h0 hi) ?_) | refine aX (fH s (su s i).ch) ?_ | refine ay ?_ | intro _)
 refine J.cond rfl (fun h=>?_) (fun h=>?_)
 ·have h1:aZ s i=s:=by unfold aZ;rw [if_neg (by simpa using h)]
  rw [h1]
  repeat (refine gn ?_)
  exact aD func206
 ·have h2:aT s (su s i).ch=true:=by simpa using h
  have h1:aZ s i=aE s (su s i).ch { cn s (su s i).ch with recv:=gO (cn s (su s i).ch).recv i,send:=gO (cn s (su s i).ch).send i }:=by unfold aZ;rw [if_pos h2]
  have hl:=fD h2;rw [h1]
  repeat (first | refine aX (J9 (cn s (su s i).ch).recv i hr) ?_ | refine aX (J9 (cn s (su s i).ch).send i hs) ?_ | refine aX (m9 s (su s i).ch { cn s (su s i).ch with recv:=gO (cn s (su s i).ch).recv i,send:=gO (cn s (su s i).ch).send i } h2 hb) ?_ | refine ay ?_ | intro _)
  exact aD func206
theorem zb (s:ah) (g:Nat) (i:Int) (d:Bool) (hg:g < s.gs.length) (hi:dK s i) (hb:Fit s) :
  Pure prog 211 [.agg (aC s),.c (nI g),.c (nI i),.c (bI d)] (.agg (aC (Sx.serve s g i d))):=by
 obtain ⟨gz,eJ,dM,iY⟩:=id hi;obtain ⟨s1,rV⟩:∃ s1,ai s (su s i).g.toNat { aa s (su s i).g.toNat with param:=i }=s1:=⟨_,rfl⟩
 obtain ⟨s2,iX⟩:∃ s2,aV s1 i { su s i with done:=d }=s2:=⟨_,rfl⟩
 have l1:s1.gs.length=s.gs.length:=by rw [← rV,cD]
 have l2:s2.gs.length=s.gs.length:=by rw [← iX,← l1];rfl
 have k1:s1.aA.length=s.aA.length:=by rw [← rV];rfl
 have hw:(aa s2 g).au.length≤50000:=by
  have h1:=hb.wk g;have h2:=hb.wk (su s i).g.toNat;have e2:aa s2 g=aa s1 g:=by rw [← iX];rfl
  rw [e2,← rV];unfold ai aa;simp only [List.getD_eq_getElem?_getD,List.getElem?_set]
  split
  ·split
   ·exact h2
   ·simp [clean]
  ·exact h1
 have e3:Sx.serve s g i d=ai s2 g { aa s2 g with au:=(aa s2 g).au ++ [(su s i).g],hold:=-1 }:=by rw [← iX,← rV];rfl
 have iE:g < s2.gs.length:=by rw [l2];exact hg
 rw [e3];have C1:=y9 s (su s i).g { aa s (su s i).g.toNat with param:=i } dM iY hb.1.1;have C2:=vY s1 i { su s i with done:=d } gz (by rw [k1];exact eJ) (by rw [k1];exact hb.1.2.2);rw [rV] at C1;rw [iX] at C2;have C3:=cV s2 g { aa s2 g with au:=(aa s2 g).au ++ [(su s i).g],hold:=-1 } iE (by rw [l2];exact hb.1.1);clear rV iX e3;refine an.intro func211 rfl rfl rfl (fun ok e=>?_)
 repeat (first | (refine K.indexAddr ?_;first | refine jx rfl rfl rfl rfl (by omega) (hi.at_) ?_ | refine jx rfl rfl rfl rfl (by omega) (hi.gr) ?_) | refine ay ?_ | intro _)
 refine J.draw (by kernel_rfl) rfl ?_;refine JW.base (some 8) ?_;refine tk 0 ?_;refine tk 1 ?_;refine tk 2 ?_;refine tk 3 ?_;refine tk 5 ?_;refine tk 6 ?_;refine dA 4 (C1) ?_;refine dA 7 (C2) ?_;refine jt 8 rfl rfl (Ld.bq rfl rfl rfl (by exact rfl) (by exact rfl)) (fun _=>?_);refine bR ?_
 repeat (first | refine ay ?_ | intro _)
 refine J.draw (by kernel_rfl) rfl ?_;refine JW.base (some 9) ?_;refine tk 1 ?_;refine tk 2 ?_;refine tk 4 ?_;refine tk 5 ?_;refine JD.cU (i:=0) (j:=6) (by kernel_rfl) ?_ ?_;refine JS.bZ rfl rfl rfl (qb rfl) (Ld.gJ (qb rfl)) .none (fun _=>?_);refine JD.cU (i:=3) (j:=6) (by kernel_rfl) ?_ ?_;refine JS.bZ rfl rfl rfl (qb rfl) (Ld.cy (qb rfl) rfl rfl .read (by (simp;omega))) (by (exact .row (by repeat ((exact .refl))))) (fun _=>?_);refine jl 6 rfl rfl rfl rfl (Ld.fM (qb rfl) rfl rfl rfl rfl rfl) .none (fun _=>?_);refine jl 7 rfl rfl rfl rfl (Ld.fO (qb rfl) rfl rfl .dj (by (simp;omega))) (by (exact .row (by repeat (first | exact .refl | refine .cons ?_)))) (fun _=>?_);refine jk 8 rfl rfl rfl rfl (Qt.fieldAddr rfl rfl) ?_;refine jt 9 rfl rfl (Ld.cY rfl rfl (by exact rfl)) (fun _=>?_);refine bR ?_
 rotate_left
 refine JS.bZ rfl rfl rfl (qb rfl) (Ld.fM (qb rfl) rfl rfl rfl rfl rfl) .none (fun _=>?_);refine jl 3 rfl rfl rfl rfl (Ld.cy (qb rfl) rfl rfl .read (by (simp;omega))) (by (exact .row (by repeat (first | exact .refl | refine .cons ?_)))) (fun _=>?_);refine jl 7 rfl rfl rfl rfl (Ld.fO (qb rfl) rfl rfl .dj (by (simp;omega))) (by (exact .row (by repeat (first | exact .refl | refine .cons ?_)))) (fun _=>?_);refine jk 8 rfl rfl rfl rfl (Qt.fieldAddr rfl rfl) ?_;refine jt 9 rfl rfl (Ld.cY rfl rfl (by exact rfl)) (fun _=>?_);refine bR ?_
 rotate_left
 refine JS.bZ rfl rfl rfl (qb rfl) (Ld.fM (qb rfl) rfl rfl rfl rfl rfl) .none (fun _=>?_);refine jl 0 rfl rfl rfl rfl (Ld.gJ (qb rfl)) .none (fun _=>?_);refine jl 3 rfl rfl rfl rfl (Ld.cy (qb rfl) rfl rfl .read (by (simp;omega))) (by (exact .row (by repeat (first | exact .refl | refine .cons ?_)))) (fun _=>?_);refine jl 7 rfl rfl rfl rfl (Ld.fO (qb rfl) rfl rfl .dj (by (simp;omega))) (by (exact .row (by repeat (first | exact .refl | refine .cons ?_)))) (fun _=>?_);refine jk 8 rfl rfl rfl rfl (Qt.fieldAddr rfl rfl) ?_;refine jt 9 rfl rfl (Ld.cY rfl rfl (by exact rfl)) (fun _=>?_);refine bR ?_
 rotate_left
 all_goals
  repeat (first | (refine K.call ?_;refine JO.pure (C3) rfl (qb rfl) rfl ?_ ?_;focus ((repeat (first | exact aJ.nil | refine aJ.cons (dU.agg (by repeat (first | exact .nil | refine .cons .refl ?_ | refine .cons .snoc ?_))) ?_ | refine aJ.cons dU.refl ?_));done)) | refine gn ?_)
  exact aD func211
end Fl
end Go.Proofs.YtdjhhbpedllnhaaGreat
