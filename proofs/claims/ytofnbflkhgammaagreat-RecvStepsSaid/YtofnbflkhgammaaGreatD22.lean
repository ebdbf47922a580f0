/-
  What the laws need, part D22.
  Conditions: none.
-/
import Derived.Test.YtofnbflkhgammaaGreatD13
set_option linter.unusedVariables false
set_option linter.unusedSimpArgs false
set_option linter.unnecessarySimpa false
set_option maxHeartbeats 2000000
namespace Go.Proofs.YtofnbflkhgammaaGreat
open Go.RowKit
namespace Fl
open Sx Go.Proofs.Tryz
set_option maxRecDepth 100000
def dz (s:ah) (i:Int):Prop:=0≤i∧i < s.aC.length∧0≤(su s i).g∧(su s i).g < s.gs.length
theorem dz.at_ {s:ah} {i:Int} (h:dz s i):(s.aC.map eS)[i.toNat]?=some (eS (su s i)):=iu h.1 h.2.1
theorem dz.gr {s:ah} {i:Int} (h:dz s i):(s.gs.map eG)[(su s i).g.toNat]?=some (eG (aa s (su s i).g.toNat)):=by
 have h1:=h.2.2;have:=iz (s:=s) (g:=(su s i).g.toNat) (by omega)
 rwa [Int.toNat_natCast] at this
theorem NA {n:Int} (h:0≤n):nI n=nI (n.toNat:Nat):=by rw [Int.toNat_of_nonneg h]
def Few (s:ah):Prop:=s.gs.length≤100000∧s.au.length≤100000∧s.aC.length≤100000
theorem An (s:ah) (g:Int) (x:Gr) (h0:0≤g) (hg:g < s.gs.length) (hb:s.gs.length≤100000) :
  Pure prog 76 [.agg (az s),.c (nI g),.agg (eG x)] (.agg (az (ai s g.toNat x))):=by
 have:=cP s g.toNat x (by omega) hb
 rwa [← NA h0] at this
theorem cr (s:ah) (g:Nat) (x:Gr):(ai s g x).gs.length=s.gs.length:=by simp [ai]
theorem NB (s:ah) (g:Nat) (i:Int) (hg:g < s.gs.length) (hi:dz s i) (hb:Few s) :
  Pure prog 27 [.agg (az s),.c (nI g),.c (nI i)] (.agg (az (Sx.pair s g i))):=by
 obtain ⟨gq,dR,dx,iw⟩:=id hi;refine ax.intro func27 rfl rfl rfl (fun ok e=>?_)
 repeat (first | (refine K.indexAddr ?_;first | refine jx rfl rfl rfl rfl (by omega) (hi.at_) ?_ | refine jx rfl rfl rfl rfl (by omega) (hi.gr) ?_) | refine av ?_ | intro _)
 refine J.draw (by kernel_rfl) rfl ?_;refine JW.base (some 7) ?_;refine tk 0 ?_;refine tk 1 ?_;refine tk 2 ?_;refine tk 4 ?_;refine tk 5 ?_;refine cW 3 (An s (su s i).g { aa s (su s i).g.toNat with bQ:=(aa s g).t,wi:=g,dL:=(su s i).cs } dx iw hb.1) ?_;refine jl 6 rfl rfl rfl rfl (Ld.pure (cP (ai s (su s i).g.toNat { aa s (su s i).g.toNat with bQ:=(aa s g).t,wi:=g,dL:=(su s i).cs }) g { aa s g with bQ:=(aa s g).t,wi:=(su s i).g } (by rw [cr];exact hg) (by rw [cr];exact hb.1)) (qb rfl) rfl lq) .none (fun _=>?_);refine jt 7 rfl rfl (Ld.aX rfl rfl rfl (by exact rfl) (by exact rfl)) (fun _=>?_);refine bS ?_;exact aA func27
theorem lG (v:Int) (ok:Bool):Pure prog 170 [.c (.v (.int .i64 v)),.c (bI ok)] (.agg (wD (eJ v ok))):=by
 refine ax.intro func170 rfl rfl rfl (fun ok e=>?_)
 repeat (first | refine av ?_ | intro _)
 exact aA func170
theorem CX:Pure prog 159 [] (.agg (wD jG)):=by
 refine ax.intro func159 rfl rfl rfl (fun ok e=>?_)
 repeat (first | refine av ?_ | intro _)
 exact aA func159
theorem Ao (r:Md.ak) (i:Int):Pure prog 224 [.agg (wD r),.c (nI i)] (.agg (wD { r with cs:=i })):=by
 refine ax.intro func224 rfl rfl rfl (fun ok e=>?_)
 repeat (first | refine av ?_ | intro _)
 exact aA func224
theorem W6 (c:Cn):Pure prog 157 [.agg (eC c)] (.c (bI (Sx.room c))):=by
 refine ax.intro func157 rfl rfl rfl (fun ok e=>?_)
 repeat (first | refine av ?_ | intro _)
 refine J.cond rfl (fun h=>?_) (fun h=>?_)
 ·repeat (refine gn ?_)
  refine J.ret func157 rfl (.cons (.tmp rfl) .nil) () (.of_eq ?_) [] .nil rfl rfl
  show D.c (bI _)=_;unfold Sx.room;rw [if_pos (by simpa using h)]
  try simp
 ·repeat (refine gn ?_)
  refine J.ret func157 rfl (.cons (.tmp rfl) .nil) () (.of_eq ?_) [] .nil rfl rfl
  show D.c (bI _)=_;unfold Sx.room;rw [if_neg (by simpa using h)]
  try simp
theorem NC (c:Cn):Pure prog 169 [.agg (eC c)] (.c (bI (uM c))):=by
 refine ax.intro func169 rfl rfl rfl (fun ok e=>?_)
 repeat (first | refine av ?_ | intro _)
 refine J.cond rfl (fun h=>?_) (fun h=>?_)
 ·repeat (refine gn ?_)
  refine J.ret func169 rfl (.cons (.tmp rfl) .nil) () (.of_eq ?_) [] .nil rfl rfl
  show D.c (bI _)=_;unfold uM;rw [if_pos (by simpa using h)]
  try simp
 ·repeat (refine gn ?_)
  refine J.ret func169 rfl (.cons (.tmp rfl) .nil) () (.of_eq ?_) [] .nil rfl rfl
  show D.c (bI _)=_;unfold uM;rw [if_neg (by simpa using h)]
  try simp
end Fl
open Go.RowKit
namespace Fl
open Sx Go.Proofs.Tryz
set_option maxRecDepth 100000
theorem take_one {α:Type} {l:List α} {k:Nat} {a:α} (e:l[k]?=some a):l.take (k + 1)=l.take k ++ [a]:=by
 rw [List.take_add_one,e];rfl
theorem ints_at {l:List Int} {k:Nat} {a:Int} (e:l[k]?=some a):(l.map fun n=>[nI n])[((k:Int)).toNat]?=some [nI a]:=at_map (at_nat e)
theorem ND (l:List Int) (x:Int) (hb:l.length≤100000) :
  Pure prog 182 [.c (ints l),.c (nI x)] (.c (ints (ig l x))):=by
 refine ax.intro func182 rfl rfl rfl (fun ok e=>?_)
 repeat (first | refine av ?_ | intro _)
 rename_i b;refine J.loop (ι:=Nat × Value) (fun p=>[(9,.c (ints l)),(10,.c (nI l.length)),(11,.c (nI p.1)),(5,.c (.v p.2)),(1,.c (nI x))]) (fun p=>[.row p.2 3 1 ((ig (l.take p.1) x).map fun n=>[nI n])]) (fun p=>l.length - p.1) (0,.slice (some ⟨b,0,none⟩) 0 0) (fun X h=>h.aW ⟨rfl,rfl,rfl,rfl,rfl,trivial⟩) (fun p ih=>?_);obtain ⟨k,v⟩:=p
 by_cases hk:k < l.length
 ·obtain ⟨y,hy⟩:∃ y,l[k]?=some y:=⟨_,List.getElem?_eq_getElem hk⟩
  have h1:(decide ((k:Int) < (l.length:Int)))=true:=by simpa using hk
  have hlen:(ig (l.take k) x).length≤100000:=Nat.le_trans (List.length_filter_le _ _) (by simp;omega)
  repeat (refine gn ?_)
  refine J.cond rfl (fun h=>?_) (fun h=>?_)
  ·have e1:ig (l.take (k + 1)) x=ig (l.take k) x ++ [y]:=by
    rw [take_one hy];unfold ig;rw [List.filter_append];simp at h;simp [h]
   repeat (first | (refine K.bi ?_;refine JO.ld (Ld.cA (qb rfl) rfl rfl .cY (by (simp;omega))) rfl (fun _=>?_)) | refine av ?_ | intro _)
   rename_i b2 v2;refine J.drop 1 ?_;refine J.fK ?_ ((ih (k + 1,v2) (by simp;omega)).aW ⟨rfl,rfl,rfl,rfl,rfl,trivial⟩);simp only [e1,List.map_append,List.map_cons,List.map_nil];rfl
  ·have e1:ig (l.take (k + 1)) x=ig (l.take k) x:=by
    rw [take_one hy];unfold ig;rw [List.filter_append];simp at h;simp [h]
   repeat (refine gn ?_)
   refine J.fK ?_ ((ih (k + 1,v) (by simp;omega)).aW ⟨rfl,rfl,rfl,rfl,rfl,trivial⟩);simp only [e1]
 ·have h1:(decide ((k:Int) < (l.length:Int)))=false:=by simpa using hk
  repeat (refine gn ?_)
  refine J.jY 4 rfl ?_;refine J.ret func182 rfl (.cons (.tmp rfl) .nil) () (.of_eq ?_) [] .nil rfl rfl;rw [List.take_of_length_le (show l.length≤k by omega)];rfl
structure Fit (s:ah):Prop extends Few s where
 wk:∀ g:Nat,(aa s g).an.length≤50000
 rv:∀ ch,(cn s ch).recv.length≤50000
 sd:∀ ch,(cn s ch).send.length≤50000
 bf:∀ ch,(cn s ch).buf.length≤50000
 od:∀ g:Nat,(aa s g).order.length≤50000
 sg:∀ g:Nat,(aa s g).ay.length≤50000
 dn:s.done.length≤50000
 ca:s.cache.length≤50000
 cl:∀ g:Nat,(s.cache.getD g []).length≤50000
 md:s.middle.length≤50000
theorem W7 (s:ah) (ch:Int) (x:Cn):(aE s ch x).au.length=s.au.length:=by simp [aE]
theorem NF (s:ah) (i:Int) (x:Su):(aR s i x).aC.length=s.aC.length:=by simp [aR]
theorem ue (s:ah) (i:Int) (h0:0≤i) (hi:i < s.aC.length) (hr:(cn s (su s i).ch).recv.length≤100000) (hs:(cn s (su s i).ch).send.length≤100000) (hb:s.au.length≤100000) :
  Pure prog 143 [.agg (az s),.c (nI i)] (.agg (az (bq s i))):=by
 refine ax.intro func143 rfl rfl rfl (fun ok e=>?_)
 repeat (first | (refine K.indexAddr ?_;refine jx rfl rfl rfl rfl (by omega) (iu h0 hi) ?_) | refine aO (fu s (su s i).ch) ?_ | refine av ?_ | intro _)
 refine J.cond rfl (fun h=>?_) (fun h=>?_)
 ·have h1:bq s i=s:=by unfold bq;rw [if_neg (by simpa using h)]
  rw [h1]
  repeat (refine gn ?_)
  exact aA func143
 ·have h2:aN s (su s i).ch=true:=by simpa using h
  have h1:bq s i=aE s (su s i).ch { cn s (su s i).ch with recv:=ig (cn s (su s i).ch).recv i,send:=ig (cn s (su s i).ch).send i }:=by unfold bq;rw [if_pos h2]
  have hl:=eV h2;rw [h1]
  repeat (first | refine aO (ND (cn s (su s i).ch).recv i hr) ?_ | refine aO (ND (cn s (su s i).ch).send i hs) ?_ | refine aO (nA s (su s i).ch { cn s (su s i).ch with recv:=ig (cn s (su s i).ch).recv i,send:=ig (cn s (su s i).ch).send i } h2 hb) ?_ | refine av ?_ | intro _)
  exact aA func143
theorem Ap (s:ah) (g:Nat) (i:Int) (d:Bool) (hg:g < s.gs.length) (hi:dz s i) (hb:Fit s) :
  Pure prog 29 [.agg (az s),.c (nI g),.c (nI i),.c (bI d)] (.agg (az (Sx.serve s g i d))):=by
 obtain ⟨gq,dR,dx,iw⟩:=id hi;obtain ⟨s1,pE⟩:∃ s1,ai s (su s i).g.toNat { aa s (su s i).g.toNat with param:=i }=s1:=⟨_,rfl⟩
 obtain ⟨s2,jO⟩:∃ s2,aR s1 i { su s i with done:=d }=s2:=⟨_,rfl⟩
 have l1:s1.gs.length=s.gs.length:=by rw [← pE,cr]
 have l2:s2.gs.length=s.gs.length:=by rw [← jO,← l1];rfl
 have k1:s1.aC.length=s.aC.length:=by rw [← pE];rfl
 have hw:(aa s2 g).an.length≤50000:=by
  have h1:=hb.wk g;have h2:=hb.wk (su s i).g.toNat;have e2:aa s2 g=aa s1 g:=by rw [← jO];rfl
  rw [e2,← pE];unfold ai aa;simp only [List.getD_eq_getElem?_getD,List.getElem?_set]
  split
  ·split
   ·exact h2
   ·simp [clean]
  ·exact h1
 have e3:Sx.serve s g i d=ai s2 g { aa s2 g with an:=(aa s2 g).an ++ [(su s i).g],hold:=-1 }:=by rw [← jO,← pE];rfl
 have gP:g < s2.gs.length:=by rw [l2];exact hg
 rw [e3];have C1:=An s (su s i).g { aa s (su s i).g.toNat with param:=i } dx iw hb.1.1;have C2:=w8 s1 i { su s i with done:=d } gq (by rw [k1];exact dR) (by rw [k1];exact hb.1.2.2);rw [pE] at C1;rw [jO] at C2;have C3:=cP s2 g { aa s2 g with an:=(aa s2 g).an ++ [(su s i).g],hold:=-1 } gP (by rw [l2];exact hb.1.1);clear pE jO e3;refine ax.intro func29 rfl rfl rfl (fun ok e=>?_)
 repeat (first | (refine K.indexAddr ?_;first | refine jx rfl rfl rfl rfl (by omega) (hi.at_) ?_ | refine jx rfl rfl rfl rfl (by omega) (hi.gr) ?_) | refine av ?_ | intro _)
 refine J.draw (by kernel_rfl) rfl ?_;refine JW.base (some 8) ?_;refine tk 0 ?_;refine tk 1 ?_;refine tk 2 ?_;refine tk 3 ?_;refine tk 5 ?_;refine tk 6 ?_;refine cW 4 (C1) ?_;refine cW 7 (C2) ?_;refine jt 8 rfl rfl (Ld.aX rfl rfl rfl (by exact rfl) (by exact rfl)) (fun _=>?_);refine bS ?_
 repeat (first | refine av ?_ | intro _)
 refine J.draw (by kernel_rfl) rfl ?_;refine JW.base (some 9) ?_;refine tk 1 ?_;refine tk 2 ?_;refine tk 4 ?_;refine tk 5 ?_;refine JD.cU (i:=0) (j:=6) (by kernel_rfl) ?_ ?_;refine JS.cz rfl rfl rfl (qb rfl) (Ld.ia (qb rfl)) .none (fun _=>?_);refine JD.cU (i:=3) (j:=6) (by kernel_rfl) ?_ ?_;refine JS.cz rfl rfl rfl (qb rfl) (Ld.cA (qb rfl) rfl rfl .read (by (simp;omega))) (by (exact .row (by repeat ((exact .refl))))) (fun _=>?_);refine jl 6 rfl rfl rfl rfl (Ld.fJ (qb rfl) rfl rfl rfl rfl rfl) .none (fun _=>?_);refine jl 7 rfl rfl rfl rfl (Ld.fz (qb rfl) rfl rfl .cY (by (simp;omega))) (by (exact .row (by repeat (first | exact .refl | refine .cons ?_)))) (fun _=>?_);refine jk 8 rfl rfl rfl rfl (Qt.fieldAddr rfl rfl) ?_;refine jt 9 rfl rfl (Ld.cZ rfl rfl (by exact rfl)) (fun _=>?_);refine bS ?_
 rotate_left
 refine JS.cz rfl rfl rfl (qb rfl) (Ld.fJ (qb rfl) rfl rfl rfl rfl rfl) .none (fun _=>?_);refine jl 3 rfl rfl rfl rfl (Ld.cA (qb rfl) rfl rfl .read (by (simp;omega))) (by (exact .row (by repeat (first | exact .refl | refine .cons ?_)))) (fun _=>?_);refine jl 7 rfl rfl rfl rfl (Ld.fz (qb rfl) rfl rfl .cY (by (simp;omega))) (by (exact .row (by repeat (first | exact .refl | refine .cons ?_)))) (fun _=>?_);refine jk 8 rfl rfl rfl rfl (Qt.fieldAddr rfl rfl) ?_;refine jt 9 rfl rfl (Ld.cZ rfl rfl (by exact rfl)) (fun _=>?_);refine bS ?_
 rotate_left
 refine JS.cz rfl rfl rfl (qb rfl) (Ld.fJ (qb rfl) rfl rfl rfl rfl rfl) .none (fun _=>?_);refine jl 0 rfl rfl rfl rfl (Ld.ia (qb rfl)) .none (fun _=>?_);refine jl 3 rfl rfl rfl rfl (Ld.cA (qb rfl) rfl rfl .read (by (simp;omega))) (by (exact .row (by repeat (first | exact .refl | refine .cons ?_)))) (fun _=>?_);refine jl 7 rfl rfl rfl rfl (Ld.fz (qb rfl) rfl rfl .cY (by (simp;omega))) (by (exact .row (by repeat (first | exact .refl | refine .cons ?_)))) (fun _=>?_);refine jk 8 rfl rfl rfl rfl (Qt.fieldAddr rfl rfl) ?_;refine jt 9 rfl rfl (Ld.cZ rfl rfl (by exact rfl)) (fun _=>?_);refine bS ?_
 rotate_left
 all_goals
  repeat (first | (refine K.call ?_;refine JO.pure (C3) rfl (qb rfl) rfl ?_ ?_;focus ((repeat (first | exact aK.nil | refine aK.cons (dB.agg (by repeat (first | exact .nil | refine .cons .refl ?_ | refine .cons .snoc ?_))) ?_ | refine aK.cons dB.refl ?_));done)) | refine gn ?_)
  exact aA func29
end Fl
end Go.Proofs.YtofnbflkhgammaaGreat
