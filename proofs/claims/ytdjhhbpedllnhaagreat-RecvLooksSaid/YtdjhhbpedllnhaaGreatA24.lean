/-
  What the laws need, part A24.
  Conditions: none.
-/
import Derived.Test.YtdjhhbpedllnhaaGreatA14
set_option linter.unusedVariables false
set_option linter.unusedSimpArgs false
set_option linter.unnecessarySimpa false
set_option maxHeartbeats 2000000
namespace Go.Proofs.YtdjhhbpedllnhaaGreat
open Go.RowKit
namespace Fl
open Sx Go.Proofs.Tryz
set_option maxRecDepth 100000
def dL (s:ah) (i:Int):Prop:=0≤i∧i < s.aB.length∧0≤(su s i).g∧(su s i).g < s.gs.length
theorem dL.at_ {s:ah} {i:Int} (h:dL s i):(s.aB.map eS)[i.toNat]?=some (eS (su s i)):=iB h.1 h.2.1
theorem dL.gr {s:ah} {i:Int} (h:dL s i):(s.gs.map eG)[(su s i).g.toNat]?=some (eG (aa s (su s i).g.toNat)):=by
 have h1:=h.2.2;have:=gZ (s:=s) (g:=(su s i).g.toNat) (by omega)
 rwa [Int.toNat_natCast] at this
theorem M7 {n:Int} (h:0≤n):nI n=nI (n.toNat:Nat):=by rw [Int.toNat_of_nonneg h]
def Few (s:ah):Prop:=s.gs.length≤100000∧s.au.length≤100000∧s.aB.length≤100000
theorem Al (s:ah) (g:Int) (x:Gr) (h0:0≤g) (hg:g < s.gs.length) (hb:s.gs.length≤100000) :
  Pure prog 201 [.agg (aD s),.c (nI g),.agg (eG x)] (.agg (aD (ai s g.toNat x))):=by
 have:=cS s g.toNat x (by omega) hb
 rwa [← M7 h0] at this
theorem cz (s:ah) (g:Nat) (x:Gr):(ai s g x).gs.length=s.gs.length:=by simp [ai]
theorem M8 (s:ah) (g:Nat) (i:Int) (hg:g < s.gs.length) (hi:dL s i) (hb:Few s) :
  Pure prog 207 [.agg (aD s),.c (nI g),.c (nI i)] (.agg (aD (Sx.pair s g i))):=by
 obtain ⟨gG,dY,fo,iD⟩:=id hi;refine av.intro func207 rfl rfl rfl (fun ok e=>?_)
 repeat (first | (refine K.indexAddr ?_;first | refine jx rfl rfl rfl rfl (by omega) (hi.at_) ?_ | refine jx rfl rfl rfl rfl (by omega) (hi.gr) ?_) | refine ay ?_ | intro _)
 refine J.draw (by kernel_rfl) rfl ?_;refine JW.base (some 7) ?_;refine tk 0 ?_;refine tk 1 ?_;refine tk 2 ?_;refine tk 4 ?_;refine tk 5 ?_;refine c9 3 (Al s (su s i).g { aa s (su s i).g.toNat with bE:=(aa s g).t,wi:=g,dJ:=(su s i).cs } fo iD hb.1) ?_;refine jl 6 rfl rfl rfl rfl (Ld.pure (cS (ai s (su s i).g.toNat { aa s (su s i).g.toNat with bE:=(aa s g).t,wi:=g,dJ:=(su s i).cs }) g { aa s g with bE:=(aa s g).t,wi:=(su s i).g } (by rw [cz];exact hg) (by rw [cz];exact hb.1)) (qb rfl) rfl lq) .none (fun _=>?_);refine jt 7 rfl rfl (Ld.bh rfl rfl rfl (by exact rfl) (by exact rfl)) (fun _=>?_);refine cu ?_;exact aC func207
theorem lR (v:Int) (ok:Bool):Pure prog 210 [.c (.v (.int .i64 v)),.c (bI ok)] (.agg (wH (cZ v ok))):=by
 refine av.intro func210 rfl rfl rfl (fun ok e=>?_)
 repeat (first | refine ay ?_ | intro _)
 exact aC func210
theorem CV:Pure prog 228 [] (.agg (wH gj)):=by
 refine av.intro func228 rfl rfl rfl (fun ok e=>?_)
 repeat (first | refine ay ?_ | intro _)
 exact aC func228
theorem Am (r:Md.an) (i:Int):Pure prog 212 [.agg (wH r),.c (nI i)] (.agg (wH { r with cs:=i })):=by
 refine av.intro func212 rfl rfl rfl (fun ok e=>?_)
 repeat (first | refine ay ?_ | intro _)
 exact aC func212
theorem W3 (c:Cn):Pure prog 225 [.agg (eC c)] (.c (bI (Sx.room c))):=by
 refine av.intro func225 rfl rfl rfl (fun ok e=>?_)
 repeat (first | refine ay ?_ | intro _)
 refine J.cond rfl (fun h=>?_) (fun h=>?_)
 ·repeat (refine gn ?_)
  refine J.ret func225 rfl (.cons (.tmp rfl) .nil) () (.of_eq ?_) [] .nil rfl rfl
  show D.c (bI _)=_;unfold Sx.room;rw [if_pos (by simpa using h)]
  try simp
 ·repeat (refine gn ?_)
  refine J.ret func225 rfl (.cons (.tmp rfl) .nil) () (.of_eq ?_) [] .nil rfl rfl
  show D.c (bI _)=_;unfold Sx.room;rw [if_neg (by simpa using h)]
  try simp
theorem M9 (c:Cn):Pure prog 231 [.agg (eC c)] (.c (bI (ke c))):=by
 refine av.intro func231 rfl rfl rfl (fun ok e=>?_)
 repeat (first | refine ay ?_ | intro _)
 refine J.cond rfl (fun h=>?_) (fun h=>?_)
 ·repeat (refine gn ?_)
  refine J.ret func231 rfl (.cons (.tmp rfl) .nil) () (.of_eq ?_) [] .nil rfl rfl
  show D.c (bI _)=_;unfold ke;rw [if_pos (by simpa using h)]
  try simp
 ·repeat (refine gn ?_)
  refine J.ret func231 rfl (.cons (.tmp rfl) .nil) () (.of_eq ?_) [] .nil rfl rfl
  show D.c (bI _)=_;unfold ke;rw [if_neg (by simpa using h)]
  try simp
end Fl
open Go.RowKit
namespace Fl
open Sx Go.Proofs.Tryz
set_option maxRecDepth 100000
theorem take_one {α:Type} {l:List α} {k:Nat} {a:α} (e:l[k]?=some a):l.take (k + 1)=l.take k ++ [a]:=by
 rw [List.take_add_one,e];rfl
theorem ints_at {l:List Int} {k:Nat} {a:Int} (e:l[k]?=some a):(l.map fun n=>[nI n])[((k:Int)).toNat]?=some [nI a]:=at_map (at_nat e)
theorem Na (l:List Int) (x:Int) (hb:l.length≤100000) :
  Pure prog 245 [.c (ints l),.c (nI x)] (.c (ints (eZ l x))):=by
 refine av.intro func245 rfl rfl rfl (fun ok e=>?_)
 repeat (first | refine ay ?_ | intro _)
 rename_i b;refine J.loop (ι:=Nat × Value) (fun p=>[(9,.c (ints l)),(10,.c (nI l.length)),(11,.c (nI p.1)),(5,.c (.v p.2)),(1,.c (nI x))]) (fun p=>[.row p.2 3 1 ((eZ (l.take p.1) x).map fun n=>[nI n])]) (fun p=>l.length - p.1) (0,.slice (some ⟨b,0,none⟩) 0 0) (fun X h=>h.bO ⟨rfl,rfl,rfl,rfl,rfl,trivial⟩) (fun p ih=>?_);obtain ⟨k,v⟩:=p
 by_cases hk:k < l.length
 ·obtain ⟨y,hy⟩:∃ y,l[k]?=some y:=⟨_,List.getElem?_eq_getElem hk⟩
  have h1:(decide ((k:Int) < (l.length:Int)))=true:=by simpa using hk
  have hlen:(eZ (l.take k) x).length≤100000:=Nat.le_trans (List.length_filter_le _ _) (by simp;omega)
  repeat (refine gn ?_)
  refine J.cond rfl (fun h=>?_) (fun h=>?_)
  ·have e1:eZ (l.take (k + 1)) x=eZ (l.take k) x ++ [y]:=by
    rw [take_one hy];unfold eZ;rw [List.filter_append];simp at h;simp [h]
   repeat (first | (refine K.bi ?_;refine JO.ld (Ld.cB (qb rfl) rfl rfl .de (by (simp;omega))) rfl (fun _=>?_)) | refine ay ?_ | intro _)
   rename_i b2 v2;refine J.drop 1 ?_;refine J.fQ ?_ ((ih (k + 1,v2) (by simp;omega)).bO ⟨rfl,rfl,rfl,rfl,rfl,trivial⟩);simp only [e1,List.map_append,List.map_cons,List.map_nil];rfl
  ·have e1:eZ (l.take (k + 1)) x=eZ (l.take k) x:=by
    rw [take_one hy];unfold eZ;rw [List.filter_append];simp at h;simp [h]
   repeat (refine gn ?_)
   refine J.fQ ?_ ((ih (k + 1,v) (by simp;omega)).bO ⟨rfl,rfl,rfl,rfl,rfl,trivial⟩);simp only [e1]
 ·have h1:(decide ((k:Int) < (l.length:Int)))=false:=by simpa using hk
  repeat (refine gn ?_)
  refine J.j9 4 rfl ?_;refine J.ret func245 rfl (.cons (.tmp rfl) .nil) () (.of_eq ?_) [] .nil rfl rfl;rw [List.take_of_length_le (show l.length≤k by omega)];rfl
structure Fit (s:ah):Prop extends Few s where
 wk:∀ g:Nat,(aa s g).ak.length≤50000
 rv:∀ ch,(cn s ch).recv.length≤50000
 sd:∀ ch,(cn s ch).send.length≤50000
 bf:∀ ch,(cn s ch).buf.length≤50000
 od:∀ g:Nat,(aa s g).order.length≤50000
 sg:∀ g:Nat,(aa s g).ax.length≤50000
 dn:s.done.length≤50000
 ca:s.cache.length≤50000
 cl:∀ g:Nat,(s.cache.getD g []).length≤50000
 md:s.middle.length≤50000
theorem W4 (s:ah) (ch:Int) (x:Cn):(aA s ch x).au.length=s.au.length:=by simp [aA]
theorem Nb (s:ah) (i:Int) (x:Su):(aN s i x).aB.length=s.aB.length:=by simp [aN]
theorem ue (s:ah) (i:Int) (h0:0≤i) (hi:i < s.aB.length) (hr:(cn s (su s i).ch).recv.length≤100000) (hs:(cn s (su s i).ch).send.length≤100000) (hb:s.au.length≤100000) :
  Pure prog 206 [.agg (aD s),.c (nI i)] (.agg (aD (aT s i))):=by
 refine av.intro func206 rfl rfl rfl (fun ok e=>?_)
 repeat (first | (refine K.indexAddr ?_;refine jx rfl rfl rfl rfl (by omega) (iB h0 hi) ?_) | refine aR (fD s (su s i).ch) ?_ | refine ay ?_ | intro _)
 refine J.cond rfl (fun h=>?_) (fun h=>?_)
 ·have h1:aT s i=s:=by unfold aT;rw [if_neg (by simpa using h)]
  rw [h1]
  repeat (refine gn ?_)
  exact aC func206
 ·have h2:aL s (su s i).ch=true:=by simpa using h
  have h1:aT s i=aA s (su s i).ch { cn s (su s i).ch with recv:=eZ (cn s (su s i).ch).recv i,send:=eZ (cn s (su s i).ch).send i }:=by unfold aT;rw [if_pos h2]
  have hl:=fh h2;rw [h1]
  repeat (first | refine aR (Na (cn s (su s i).ch).recv i hr) ?_ | refine aR (Na (cn s (su s i).ch).send i hs) ?_ | refine aR (nL s (su s i).ch { cn s (su s i).ch with recv:=eZ (cn s (su s i).ch).recv i,send:=eZ (cn s (su s i).ch).send i } h2 hb) ?_ | refine ay ?_ | intro _)
  exact aC func206
theorem An (s:ah) (g:Nat) (i:Int) (d:Bool) (hg:g < s.gs.length) (hi:dL s i) (hb:Fit s) :
  Pure prog 211 [.agg (aD s),.c (nI g),.c (nI i),.c (bI d)] (.agg (aD (Sx.serve s g i d))):=by
 obtain ⟨gG,dY,fo,iD⟩:=id hi;obtain ⟨s1,o8⟩:∃ s1,ai s (su s i).g.toNat { aa s (su s i).g.toNat with param:=i }=s1:=⟨_,rfl⟩
 obtain ⟨s2,jf⟩:∃ s2,aN s1 i { su s i with done:=d }=s2:=⟨_,rfl⟩
 have l1:s1.gs.length=s.gs.length:=by rw [← o8,cz]
 have l2:s2.gs.length=s.gs.length:=by rw [← jf,← l1];rfl
 have k1:s1.aB.length=s.aB.length:=by rw [← o8];rfl
 have hw:(aa s2 g).ak.length≤50000:=by
  have h1:=hb.wk g;have h2:=hb.wk (su s i).g.toNat;have e2:aa s2 g=aa s1 g:=by rw [← jf];rfl
  rw [e2,← o8];unfold ai aa;simp only [List.getD_eq_getElem?_getD,List.getElem?_set]
  split
  ·split
   ·exact h2
   ·simp [clean]
  ·exact h1
 have e3:Sx.serve s g i d=ai s2 g { aa s2 g with ak:=(aa s2 g).ak ++ [(su s i).g],hold:=-1 }:=by rw [← jf,← o8];rfl
 have fY:g < s2.gs.length:=by rw [l2];exact hg
 rw [e3];have C1:=Al s (su s i).g { aa s (su s i).g.toNat with param:=i } fo iD hb.1.1;have C2:=wY s1 i { su s i with done:=d } gG (by rw [k1];exact dY) (by rw [k1];exact hb.1.2.2);rw [o8] at C1;rw [jf] at C2;have C3:=cS s2 g { aa s2 g with ak:=(aa s2 g).ak ++ [(su s i).g],hold:=-1 } fY (by rw [l2];exact hb.1.1);clear o8 jf e3;refine av.intro func211 rfl rfl rfl (fun ok e=>?_)
 repeat (first | (refine K.indexAddr ?_;first | refine jx rfl rfl rfl rfl (by omega) (hi.at_) ?_ | refine jx rfl rfl rfl rfl (by omega) (hi.gr) ?_) | refine ay ?_ | intro _)
 refine J.draw (by kernel_rfl) rfl ?_;refine JW.base (some 8) ?_;refine tk 0 ?_;refine tk 1 ?_;refine tk 2 ?_;refine tk 3 ?_;refine tk 5 ?_;refine tk 6 ?_;refine c9 4 (C1) ?_;refine c9 7 (C2) ?_;refine jt 8 rfl rfl (Ld.bh rfl rfl rfl (by exact rfl) (by exact rfl)) (fun _=>?_);refine cu ?_
 repeat (first | refine ay ?_ | intro _)
 refine J.draw (by kernel_rfl) rfl ?_;refine JW.base (some 9) ?_;refine tk 1 ?_;refine tk 2 ?_;refine tk 4 ?_;refine tk 5 ?_;refine JD.dA (i:=0) (j:=6) (by kernel_rfl) ?_ ?_;refine JS.cK rfl rfl rfl (qb rfl) (Ld.gR (qb rfl)) .none (fun _=>?_);refine JD.dA (i:=3) (j:=6) (by kernel_rfl) ?_ ?_;refine JS.cK rfl rfl rfl (qb rfl) (Ld.cB (qb rfl) rfl rfl .read (by (simp;omega))) (by (exact .row (by repeat ((exact .refl))))) (fun _=>?_);refine jl 6 rfl rfl rfl rfl (Ld.fO (qb rfl) rfl rfl rfl rfl rfl) .none (fun _=>?_);refine jl 7 rfl rfl rfl rfl (Ld.fP (qb rfl) rfl rfl .de (by (simp;omega))) (by (exact .row (by repeat (first | exact .refl | refine .cons ?_)))) (fun _=>?_);refine jk 8 rfl rfl rfl rfl (Qt.fieldAddr rfl rfl) ?_;refine jt 9 rfl rfl (Ld.di rfl rfl (by exact rfl)) (fun _=>?_);refine cu ?_
 rotate_left
 refine JS.cK rfl rfl rfl (qb rfl) (Ld.fO (qb rfl) rfl rfl rfl rfl rfl) .none (fun _=>?_);refine jl 3 rfl rfl rfl rfl (Ld.cB (qb rfl) rfl rfl .read (by (simp;omega))) (by (exact .row (by repeat (first | exact .refl | refine .cons ?_)))) (fun _=>?_);refine jl 7 rfl rfl rfl rfl (Ld.fP (qb rfl) rfl rfl .de (by (simp;omega))) (by (exact .row (by repeat (first | exact .refl | refine .cons ?_)))) (fun _=>?_);refine jk 8 rfl rfl rfl rfl (Qt.fieldAddr rfl rfl) ?_;refine jt 9 rfl rfl (Ld.di rfl rfl (by exact rfl)) (fun _=>?_);refine cu ?_
 rotate_left
 refine JS.cK rfl rfl rfl (qb rfl) (Ld.fO (qb rfl) rfl rfl rfl rfl rfl) .none (fun _=>?_);refine jl 0 rfl rfl rfl rfl (Ld.gR (qb rfl)) .none (fun _=>?_);refine jl 3 rfl rfl rfl rfl (Ld.cB (qb rfl) rfl rfl .read (by (simp;omega))) (by (exact .row (by repeat (first | exact .refl | refine .cons ?_)))) (fun _=>?_);refine jl 7 rfl rfl rfl rfl (Ld.fP (qb rfl) rfl rfl .de (by (simp;omega))) (by (exact .row (by repeat (first | exact .refl | refine .cons ?_)))) (fun _=>?_);refine jk 8 rfl rfl rfl rfl (Qt.fieldAddr rfl rfl) ?_;refine jt 9 rfl rfl (Ld.di rfl rfl (by exact rfl)) (fun _=>?_);refine cu ?_
 rotate_left
 all_goals
  repeat (first | (refine K.call ?_;refine JO.pure (C3) rfl (qb rfl) rfl ?_ ?_;focus ((repeat (first | exact aW.nil | refine aW.cons (eU.agg (by repeat (first | exact .nil | refine .cons .refl ?_ | refine .cons .snoc ?_))) ?_ | refine aW.cons eU.refl ?_));done)) | refine gn ?_)
  exact aC func211
end Fl
end Go.Proofs.YtdjhhbpedllnhaaGreat
