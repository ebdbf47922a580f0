/-
  What the laws need, part S9.
  Conditions: none.
-/
import Derived.Test.YtgjpdogjekmemaaGreatS7
set_option linter.unusedVariables false
set_option linter.unusedSimpArgs false
set_option linter.unnecessarySimpa false
set_option maxHeartbeats 2000000
namespace Go.Proofs.YtgjpdogjekmemaaGreat
open Go.RowKit
namespace Fl
open Sx Go.Proofs.Tryz
set_option maxRecDepth 100000
def cV (s:ah) (i:Int):Prop:=0≤i∧i < s.aD.length∧0≤(su s i).g∧(su s i).g < s.gs.length
theorem cV.at_ {s:ah} {i:Int} (h:cV s i):(s.aD.map eS)[i.toNat]?=some (eS (su s i)):=fZ h.1 h.2.1
theorem cV.gr {s:ah} {i:Int} (h:cV s i):(s.gs.map eG)[(su s i).g.toNat]?=some (eG (aa s (su s i).g.toNat)):=by
 have h1:=h.2.2;have:=gL (s:=s) (g:=(su s i).g.toNat) (by omega)
 rwa [Int.toNat_natCast] at this
theorem EO {n:Int} (h:0≤n):nI n=nI (n.toNat:Nat):=by rw [Int.toNat_of_nonneg h]
def Few (s:ah):Prop:=s.gs.length≤100000∧s.ax.length≤100000∧s.aD.length≤100000
theorem ve (s:ah) (g:Int) (x:Gr) (h0:0≤g) (hg:g < s.gs.length) (hb:s.gs.length≤100000) :
  Pure prog 107 [.agg (az s),.c (nI g),.agg (eG x)] (.agg (az (ai s g.toNat x))):=by
 have:=cA s g.toNat x (by omega) hb
 rwa [← EO h0] at this
theorem bQ (s:ah) (g:Nat) (x:Gr):(ai s g x).gs.length=s.gs.length:=by simp [ai]
theorem EP (s:ah) (g:Nat) (i:Int) (hg:g < s.gs.length) (hi:cV s i) (hb:Few s) :
  Pure prog 150 [.agg (az s),.c (nI g),.c (nI i)] (.agg (az (Sx.pair s g i))):=by
 obtain ⟨eP,dz,de,gN⟩:=id hi;refine aq.intro func150 rfl rfl rfl (fun ok e=>?_)
 repeat (first | (refine K.indexAddr ?_;first | refine jx rfl rfl rfl rfl (by omega) (hi.at_) ?_ | refine jx rfl rfl rfl rfl (by omega) (hi.gr) ?_) | refine av ?_ | intro _)
 refine J.draw (by kernel_rfl) rfl ?_;refine JW.base (some 7) ?_;refine tk 0 ?_;refine tk 1 ?_;refine tk 2 ?_;refine tk 4 ?_;refine tk 5 ?_;refine cI 3 (ve s (su s i).g { aa s (su s i).g.toNat with cz:=(aa s g).t,wi:=g,dc:=(su s i).cs } de gN hb.1) ?_;refine jl 6 rfl rfl rfl rfl (Ld.pure (cA (ai s (su s i).g.toNat { aa s (su s i).g.toNat with cz:=(aa s g).t,wi:=g,dc:=(su s i).cs }) g { aa s g with cz:=(aa s g).t,wi:=(su s i).g } (by rw [bQ];exact hg) (by rw [bQ];exact hb.1)) (qb rfl) rfl lq) .none (fun _=>?_);refine jt 7 rfl rfl (Ld.aT rfl rfl rfl (by exact rfl) (by exact rfl)) (fun _=>?_);refine bz ?_;exact aA func150
theorem jE (v:Int) (ok:Bool):Pure prog 118 [.c (.v (.int .i64 v)),.c (bI ok)] (.agg (rO (dI v ok))):=by
 refine aq.intro func118 rfl rfl rfl (fun ok e=>?_)
 repeat (first | refine av ?_ | intro _)
 exact aA func118
theorem xl:Pure prog 113 [] (.agg (rO me)):=by
 refine aq.intro func113 rfl rfl rfl (fun ok e=>?_)
 repeat (first | refine av ?_ | intro _)
 exact aA func113
theorem vf (r:Md.ak) (i:Int):Pure prog 158 [.agg (rO r),.c (nI i)] (.agg (rO { r with cs:=i })):=by
 refine aq.intro func158 rfl rfl rfl (fun ok e=>?_)
 repeat (first | refine av ?_ | intro _)
 exact aA func158
theorem MM (c:Cn):Pure prog 104 [.agg (eC c)] (.c (bI (Sx.room c))):=by
 refine aq.intro func104 rfl rfl rfl (fun ok e=>?_)
 repeat (first | refine av ?_ | intro _)
 refine J.cond rfl (fun h=>?_) (fun h=>?_)
 ·repeat (refine gn ?_)
  refine J.ret func104 rfl (.cons (.tmp rfl) .nil) () (.of_eq ?_) [] .nil rfl rfl
  show D.c (bI _)=_;unfold Sx.room;rw [if_pos (by simpa using h)]
  try simp
 ·repeat (refine gn ?_)
  refine J.ret func104 rfl (.cons (.tmp rfl) .nil) () (.of_eq ?_) [] .nil rfl rfl
  show D.c (bI _)=_;unfold Sx.room;rw [if_neg (by simpa using h)]
  try simp
theorem ER (c:Cn):Pure prog 117 [.agg (eC c)] (.c (bI (qt c))):=by
 refine aq.intro func117 rfl rfl rfl (fun ok e=>?_)
 repeat (first | refine av ?_ | intro _)
 refine J.cond rfl (fun h=>?_) (fun h=>?_)
 ·repeat (refine gn ?_)
  refine J.ret func117 rfl (.cons (.tmp rfl) .nil) () (.of_eq ?_) [] .nil rfl rfl
  show D.c (bI _)=_;unfold qt;rw [if_pos (by simpa using h)]
  try simp
 ·repeat (refine gn ?_)
  refine J.ret func117 rfl (.cons (.tmp rfl) .nil) () (.of_eq ?_) [] .nil rfl rfl
  show D.c (bI _)=_;unfold qt;rw [if_neg (by simpa using h)]
  try simp
end Fl
open Go.RowKit
namespace Fl
open Sx Go.Proofs.Tryz
set_option maxRecDepth 100000
theorem take_one {α:Type} {l:List α} {k:Nat} {a:α} (e:l[k]?=some a):l.take (k + 1)=l.take k ++ [a]:=by
 rw [List.take_add_one,e];rfl
theorem ints_at {l:List Int} {k:Nat} {a:Int} (e:l[k]?=some a):(l.map fun n=>[nI n])[((k:Int)).toNat]?=some [nI a]:=at_map (at_nat e)
theorem ET (l:List Int) (x:Int) (hb:l.length≤100000) :
  Pure prog 151 [.c (ints l),.c (nI x)] (.c (ints (fU l x))):=by
 refine aq.intro func151 rfl rfl rfl (fun ok e=>?_)
 repeat (first | refine av ?_ | intro _)
 rename_i b;refine J.loop (ι:=Nat × Value) (fun p=>[(9,.c (ints l)),(10,.c (nI l.length)),(11,.c (nI p.1)),(5,.c (.v p.2)),(1,.c (nI x))]) (fun p=>[.row p.2 3 1 ((fU (l.take p.1) x).map fun n=>[nI n])]) (fun p=>l.length - p.1) (0,.slice (some ⟨b,0,none⟩) 0 0) (fun X h=>h.aQ ⟨rfl,rfl,rfl,rfl,rfl,trivial⟩) (fun p ih=>?_);obtain ⟨k,v⟩:=p
 by_cases hk:k < l.length
 ·obtain ⟨y,hy⟩:∃ y,l[k]?=some y:=⟨_,List.getElem?_eq_getElem hk⟩
  have h1:(decide ((k:Int) < (l.length:Int)))=true:=by simpa using hk
  have hlen:(fU (l.take k) x).length≤100000:=Nat.le_trans (List.length_filter_le _ _) (by simp;omega)
  repeat (refine gn ?_)
  refine J.cond rfl (fun h=>?_) (fun h=>?_)
  ·have e1:fU (l.take (k + 1)) x=fU (l.take k) x ++ [y]:=by
    rw [take_one hy];unfold fU;rw [List.filter_append];simp at h;simp [h]
   repeat (first | (refine K.bi ?_;refine JO.ld (Ld.bH (qb rfl) rfl rfl .bV (by (simp;omega))) rfl (fun _=>?_)) | refine av ?_ | intro _)
   rename_i b2 v2;refine J.drop 1 ?_;refine J.dj ?_ ((ih (k + 1,v2) (by simp;omega)).aQ ⟨rfl,rfl,rfl,rfl,rfl,trivial⟩);simp only [e1,List.map_append,List.map_cons,List.map_nil];rfl
  ·have e1:fU (l.take (k + 1)) x=fU (l.take k) x:=by
    rw [take_one hy];unfold fU;rw [List.filter_append];simp at h;simp [h]
   repeat (refine gn ?_)
   refine J.dj ?_ ((ih (k + 1,v) (by simp;omega)).aQ ⟨rfl,rfl,rfl,rfl,rfl,trivial⟩);simp only [e1]
 ·have h1:(decide ((k:Int) < (l.length:Int)))=false:=by simpa using hk
  repeat (refine gn ?_)
  refine J.gG 4 rfl ?_;refine J.ret func151 rfl (.cons (.tmp rfl) .nil) () (.of_eq ?_) [] .nil rfl rfl;rw [List.take_of_length_le (show l.length≤k by omega)];rfl
structure Fit (s:ah):Prop extends Few s where
 wk:∀ g:Nat,(aa s g).an.length≤50000
 rv:∀ ch,(cn s ch).recv.length≤50000
 sd:∀ ch,(cn s ch).send.length≤50000
 bf:∀ ch,(cn s ch).buf.length≤50000
 od:∀ g:Nat,(aa s g).order.length≤50000
 sg:∀ g:Nat,(aa s g).au.length≤50000
 dn:s.done.length≤50000
 ca:s.cache.length≤50000
 cl:∀ g:Nat,(s.cache.getD g []).length≤50000
 md:s.middle.length≤50000
theorem MN (s:ah) (ch:Int) (x:Cn):(aF s ch x).ax.length=s.ax.length:=by simp [aF]
theorem EU (s:ah) (i:Int) (x:Su):(bg s i x).aD.length=s.aD.length:=by simp [bg]
theorem pW (s:ah) (i:Int) (h0:0≤i) (hi:i < s.aD.length) (hr:(cn s (su s i).ch).recv.length≤100000) (hs:(cn s (su s i).ch).send.length≤100000) (hb:s.ax.length≤100000) :
  Pure prog 110 [.agg (az s),.c (nI i)] (.agg (az (bE s i))):=by
 refine aq.intro func110 rfl rfl rfl (fun ok e=>?_)
 repeat (first | (refine K.indexAddr ?_;refine jx rfl rfl rfl rfl (by omega) (fZ h0 hi) ?_) | refine aI (dU s (su s i).ch) ?_ | refine av ?_ | intro _)
 refine J.cond rfl (fun h=>?_) (fun h=>?_)
 ·have h1:bE s i=s:=by unfold bE;rw [if_neg (by simpa using h)]
  rw [h1]
  repeat (refine gn ?_)
  exact aA func110
 ·have h2:aM s (su s i).ch=true:=by simpa using h
  have h1:bE s i=aF s (su s i).ch { cn s (su s i).ch with recv:=fU (cn s (su s i).ch).recv i,send:=fU (cn s (su s i).ch).send i }:=by unfold bE;rw [if_pos h2]
  have hl:=dM h2;rw [h1]
  repeat (first | refine aI (ET (cn s (su s i).ch).recv i hr) ?_ | refine aI (ET (cn s (su s i).ch).send i hs) ?_ | refine aI (kT s (su s i).ch { cn s (su s i).ch with recv:=fU (cn s (su s i).ch).recv i,send:=fU (cn s (su s i).ch).send i } h2 hb) ?_ | refine av ?_ | intro _)
  exact aA func110
theorem vi (s:ah) (g:Nat) (i:Int) (d:Bool) (hg:g < s.gs.length) (hi:cV s i) (hb:Fit s) :
  Pure prog 111 [.agg (az s),.c (nI g),.c (nI i),.c (bI d)] (.agg (az (Sx.serve s g i d))):=by
 obtain ⟨eP,dz,de,gN⟩:=id hi;obtain ⟨s1,oN⟩:∃ s1,ai s (su s i).g.toNat { aa s (su s i).g.toNat with param:=i }=s1:=⟨_,rfl⟩
 obtain ⟨s2,iB⟩:∃ s2,bg s1 i { su s i with done:=d }=s2:=⟨_,rfl⟩
 have l1:s1.gs.length=s.gs.length:=by rw [← oN,bQ]
 have l2:s2.gs.length=s.gs.length:=by rw [← iB,← l1];rfl
 have k1:s1.aD.length=s.aD.length:=by rw [← oN];rfl
 have hw:(aa s2 g).an.length≤50000:=by
  have h1:=hb.wk g;have h2:=hb.wk (su s i).g.toNat;have e2:aa s2 g=aa s1 g:=by rw [← iB];rfl
  rw [e2,← oN];unfold ai aa;simp only [List.getD_eq_getElem?_getD,List.getElem?_set]
  split
  ·split
   ·exact h2
   ·simp [clean]
  ·exact h1
 have e3:Sx.serve s g i d=ai s2 g { aa s2 g with an:=(aa s2 g).an ++ [(su s i).g],hold:=-1 }:=by rw [← iB,← oN];rfl
 have gC:g < s2.gs.length:=by rw [l2];exact hg
 rw [e3];have C1:=ve s (su s i).g { aa s (su s i).g.toNat with param:=i } de gN hb.1.1;have C2:=sH s1 i { su s i with done:=d } eP (by rw [k1];exact dz) (by rw [k1];exact hb.1.2.2);rw [oN] at C1;rw [iB] at C2;have C3:=cA s2 g { aa s2 g with an:=(aa s2 g).an ++ [(su s i).g],hold:=-1 } gC (by rw [l2];exact hb.1.1);clear oN iB e3;refine aq.intro func111 rfl rfl rfl (fun ok e=>?_)
 repeat (first | (refine K.indexAddr ?_;first | refine jx rfl rfl rfl rfl (by omega) (hi.at_) ?_ | refine jx rfl rfl rfl rfl (by omega) (hi.gr) ?_) | refine av ?_ | intro _)
 refine J.draw (by kernel_rfl) rfl ?_;refine JW.base (some 8) ?_;refine tk 0 ?_;refine tk 1 ?_;refine tk 2 ?_;refine tk 3 ?_;refine tk 5 ?_;refine tk 6 ?_;refine cI 4 (C1) ?_;refine cI 7 (C2) ?_;refine jt 8 rfl rfl (Ld.aT rfl rfl rfl (by exact rfl) (by exact rfl)) (fun _=>?_);refine bz ?_
 repeat (first | refine av ?_ | intro _)
 refine J.draw (by kernel_rfl) rfl ?_;refine JW.base (some 9) ?_;refine tk 1 ?_;refine tk 2 ?_;refine tk 4 ?_;refine tk 5 ?_;refine JD.cy (i:=0) (j:=6) (by kernel_rfl) ?_ ?_;refine JS.bt rfl rfl rfl (qb rfl) (Ld.fD (qb rfl)) .none (fun _=>?_);refine JD.cy (i:=3) (j:=6) (by kernel_rfl) ?_ ?_;refine JS.bt rfl rfl rfl (qb rfl) (Ld.bH (qb rfl) rfl rfl .read (by (simp;omega))) (by (exact .row (by repeat ((exact .refl))))) (fun _=>?_);refine jl 6 rfl rfl rfl rfl (Ld.dZ (qb rfl) rfl rfl rfl rfl rfl) .none (fun _=>?_);refine jl 7 rfl rfl rfl rfl (Ld.eB (qb rfl) rfl rfl .bV (by (simp;omega))) (by (exact .row (by repeat (first | exact .refl | refine .cons ?_)))) (fun _=>?_);refine jk 8 rfl rfl rfl rfl (Qt.fieldAddr rfl rfl) ?_;refine jt 9 rfl rfl (Ld.cr rfl rfl (by exact rfl)) (fun _=>?_);refine bz ?_
 rotate_left
 refine JS.bt rfl rfl rfl (qb rfl) (Ld.dZ (qb rfl) rfl rfl rfl rfl rfl) .none (fun _=>?_);refine jl 3 rfl rfl rfl rfl (Ld.bH (qb rfl) rfl rfl .read (by (simp;omega))) (by (exact .row (by repeat (first | exact .refl | refine .cons ?_)))) (fun _=>?_);refine jl 7 rfl rfl rfl rfl (Ld.eB (qb rfl) rfl rfl .bV (by (simp;omega))) (by (exact .row (by repeat (first | exact .refl | refine .cons ?_)))) (fun _=>?_);refine jk 8 rfl rfl rfl rfl (Qt.fieldAddr rfl rfl) ?_;refine jt 9 rfl rfl (Ld.cr rfl rfl (by exact rfl)) (fun _=>?_);refine bz ?_
 rotate_left
 refine JS.bt rfl rfl rfl (qb rfl) (Ld.dZ (qb rfl) rfl rfl rfl rfl rfl) .none (fun _=>?_);refine jl 0 rfl rfl rfl rfl (Ld.fD (qb rfl)) .none (fun _=>?_);refine jl 3 rfl rfl rfl rfl (Ld.bH (qb rfl) rfl rfl .read (by (simp;omega))) (by (exact .row (by repeat (first | exact .refl | refine .cons ?_)))) (fun _=>?_);refine jl 7 rfl rfl rfl rfl (Ld.eB (qb rfl) rfl rfl .bV (by (simp;omega))) (by (exact .row (by repeat (first | exact .refl | refine .cons ?_)))) (fun _=>?_);refine jk 8 rfl rfl rfl rfl (Qt.fieldAddr rfl rfl) ?_;refine jt 9 rfl rfl (Ld.cr rfl rfl (by exact rfl)) (fun _=>?_);refine bz ?_
 rotate_left
 all_goals
  repeat (first | (refine K.call ?_;refine JO.pure (C3) rfl (qb rfl) rfl ?_ ?_;focus ((repeat (first | exact br.nil | refine br.cons (c9.agg (by repeat (first | exact .nil | refine .cons .refl ?_ | refine .cons .snoc ?_))) ?_ | refine br.cons c9.refl ?_));done)) | refine gn ?_)
  exact aA func111
end Fl
end Go.Proofs.YtgjpdogjekmemaaGreat
