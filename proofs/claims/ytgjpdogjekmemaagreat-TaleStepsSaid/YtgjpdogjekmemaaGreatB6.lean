/-
  What the laws need, part B6.
  Conditions: none.
-/
import Derived.Test.YtgjpdogjekmemaaGreatB4
set_option linter.unusedVariables false
set_option linter.unusedSimpArgs false
set_option linter.unnecessarySimpa false
set_option maxHeartbeats 2000000
namespace Go.Proofs.YtgjpdogjekmemaaGreat
open Go.RowKit
namespace Fl
open Sx Go.Proofs.Tryz
set_option maxRecDepth 100000
theorem FT {s:ai} {g:Nat} (h0:0≤(aa s g).at_) (h:(aa s g).at_ < (aa s g).ops.length):((aa s g).ops.map gR)[(aa s g).at_.toNat]?=some (gR (ag s g)):=by
 have:(aa s g).at_.toNat < (aa s g).ops.length:=by omega
 exact at_map (by unfold ag;rw [List.getD_eq_getElem?_getD,List.getElem?_eq_getElem this];rfl)
theorem FU {s:ai} {g:Nat} (h0:0≤(aa s g).at_) (h:(aa s g).ops.length≤(aa s g).at_):ag s g=uE:=by
 unfold ag;rw [List.getD_eq_getElem?_getD,List.getElem?_eq_none (by omega)];rfl
theorem cO (s:ai) (g:Nat) (hg:g < s.gs.length) (h0:0≤(aa s g).at_) :
  Pure prog 101 [.agg (aC s),.c (nI g)] (.agg (gR (ag s g))):=by
 refine aA.intro func101 rfl rfl rfl (fun ok e=>?_)
 repeat (first | refine au ?_ | intro _)
 refine J.draw (by kernel_rfl) rfl ?_;refine JW.base none ?_;refine tk 0 ?_;refine tk 1 ?_;refine tk 2 ?_;refine JD.take 3 rfl rfl (by kernel_rfl) rfl (qb rfl) (Qt.dj rfl rfl (by omega) (fM hg)) rfl ?_;refine tk 4 ?_;refine tk 5 ?_;refine tk 6 ?_;refine tk 7 ?_;refine tk 8 ?_;refine JD.take 9 rfl rfl (by kernel_rfl) rfl (qb rfl) (Qt.dj rfl rfl (by omega) (fM hg)) rfl ?_;refine tk 10 ?_;refine tk 11 ?_;refine tk 12 ?_;refine tk 13 ?_;refine aX ?_;refine J.cond rfl (fun h=>?_) (fun h=>?_)
 ·have h1:(aa s g).ops.length≤(aa s g).at_:=by simpa using h
  rw [FU h0 h1]
  repeat (refine gn ?_)
  (exact J.ret func101 rfl (.cons (.cell 0 rfl rfl rfl) .nil) () (by (exact .agg (by repeat (first | exact .nil | refine .cons .refl ?_ | refine .cons .nil ?_)))) [] .nil rfl rfl)
 ·have h1:(aa s g).at_ < (aa s g).ops.length:=by simp at h;omega
  repeat (refine gn ?_)
  refine J.draw (by kernel_rfl) rfl ?_;refine JW.base (some 14) ?_;refine tk 0 ?_;refine tk 1 ?_;refine tk 2 ?_;refine JD.take 3 rfl rfl (by kernel_rfl) rfl (qb rfl) (Qt.dj rfl rfl (by omega) (fM hg)) rfl ?_;refine tk 4 ?_;refine tk 5 ?_;refine tk 6 ?_;refine tk 7 ?_;refine tk 8 ?_;refine JD.take 9 rfl rfl (by kernel_rfl) rfl (qb rfl) (Qt.dj rfl rfl (by omega) (fM hg)) rfl ?_;refine tk 10 ?_;refine tk 11 ?_;refine JD.take 12 rfl rfl (by kernel_rfl) rfl (qb rfl) (Qt.dj rfl rfl h0 (FT h0 h1)) rfl ?_;refine tk 13 ?_;refine jt 14 rfl rfl (Ld.bu rfl rfl rfl (by exact rfl) (by exact rfl)) (fun _=>?_);refine cH ?_;exact az func101
theorem xO (ops:List Pn.Op) (a:Int) :
  Pure prog 58 [.c (.r 6 (ops.map gR)),.c (nI a)] (.agg (eG (clean ops a))):=by
 refine aA.intro func58 rfl rfl rfl (fun ok e=>?_)
 repeat (first | refine au ?_ | intro _)
 (exact J.ret func58 rfl (.cons (.cell 0 rfl rfl rfl) .nil) () (by (exact .agg (by repeat (first | exact .nil | refine .cons .refl ?_ | refine .cons .nil ?_)))) [] .nil rfl rfl)
theorem Az (s:ai) (g:Nat) (hg:g < s.gs.length) (hb:s.gs.length≤100000) :
  Pure prog 142 [.agg (aC s),.c (nI g)] (.agg (aC (Sx.clear s g))):=by
 refine aA.intro func142 rfl rfl rfl (fun ok e=>?_)
 repeat (first | refine au ?_ | intro _)
 refine J.draw (by kernel_rfl) rfl ?_;refine JW.base (some 14) ?_;refine tk 0 ?_;refine tk 1 ?_;refine tk 2 ?_;refine JD.take 3 rfl rfl (by kernel_rfl) rfl (qb rfl) (Qt.dj rfl rfl (by omega) (fM hg)) rfl ?_;refine tk 4 ?_;refine tk 5 ?_;refine tk 6 ?_;refine tk 7 ?_;refine tk 8 ?_;refine JD.take 9 rfl rfl (by kernel_rfl) rfl (qb rfl) (Qt.dj rfl rfl (by omega) (fM hg)) rfl ?_;refine tk 10 ?_;refine tk 11 ?_;refine JD.cF (i:=12) (j:=13) (by kernel_rfl) ?_ ?_;refine JS.cC rfl rfl rfl (qb rfl) (Ld.pure (xO (aa s g).ops (aa s g).at_) (qb rfl) rfl lq) .none (fun _=>?_);refine jl 13 rfl rfl rfl rfl (Ld.alloc (qb rfl)) .none (fun _=>?_);refine jt 14 rfl rfl (Ld.bu rfl rfl rfl (by exact rfl) (by exact rfl)) (fun _=>?_);refine cH ?_
 rotate_left
 refine JS.cC rfl rfl rfl (qb rfl) (Ld.alloc (qb rfl)) .none (fun _=>?_);refine cz 12 (xO (aa s g).ops (aa s g).at_) ?_;refine jt 14 rfl rfl (Ld.bu rfl rfl rfl (by exact rfl) (by exact rfl)) (fun _=>?_);refine cH ?_
 rotate_left
 all_goals
  repeat (first | refine aO (cj s g (kO (aa s g)) hg hb) ?_ | refine gn ?_)
  exact az func142
theorem AA (s:ai) (g:Nat) (ch:Int) (hm:aR s ch=true) (hb:s.aK.length≤100000) :
  Pure prog 145 [.agg (aC s),.c (nI g),.c (nI ch)] (.aU [.agg (aC (tryLock s g ch).1),.c (bI (tryLock s g ch).2)]):=by
 have hl:=dJ hm;refine aA.intro func145 rfl rfl rfl (fun ok e=>?_)
 repeat (first | refine au ?_ | intro _)
 refine J.cond rfl (fun h=>?_) (fun h=>?_)
 ·have h1:tryLock s g ch=(s,false):=by unfold tryLock;rw [if_neg (by simpa using h)]
  rw [h1]
  repeat (refine gn ?_)
  exact az func145
 ·have h1:tryLock s g ch=(aH s ch { cn s ch with lock:=g },true):=by unfold tryLock;rw [if_pos (by simpa using h)]
  rw [h1]
  repeat (first | refine aO (jR s ch { cn s ch with lock:=g } hm hb) ?_ | refine gn ?_)
  exact az func145
theorem xP (s:ai) (ch:Int) (hm:aR s ch=true) (hb:s.aK.length≤100000) :
  Pure prog 146 [.agg (aC s),.c (nI ch)] (.agg (aC (Sx.free s ch))):=by
 have hl:=dJ hm;refine aA.intro func146 rfl rfl rfl (fun ok e=>?_)
 repeat (first | refine aO (jR s ch { cn s ch with lock:=-1 } hm hb) ?_ | refine au ?_ | intro _)
 exact az func146
theorem AB (s:ai) (g:Nat) (hg:g < s.gs.length) (hb:s.gs.length≤100000) :
  Pure prog 147 [.agg (aC s),.c (nI g)] (.agg (aC (fH s g))):=by
 refine aA.intro func147 rfl rfl rfl (fun ok e=>?_)
 cases h1:((aa s g).status == 0) with
 | true =>
  cases h2:(aa s g).token with
  | true =>
   have h3:fH s g=ah s g { aa s g with token:=false }:=by unfold fH;rw [if_pos ⟨by simpa using h1,h2⟩]
   rw [h3]
   repeat (first | refine J.eZ (congrArg (fun b=>some (D.c (bI b))) h2) ?_ | refine aO (cj s g { aa s g with token:=false } hg hb) ?_ | refine au ?_ | intro _)
   exact az func147
  | false =>
   have h3:fH s g=ah s g { aa s g with status:=1 }:=by unfold fH;rw [if_neg (by simp [h2]),if_pos (by simpa using h1)]
   rw [h3]
   repeat (first | refine J.eK (congrArg (fun b=>some (D.c (bI b))) h2) ?_ | refine aO (cj s g { aa s g with status:=1 } hg hb) ?_ | refine au ?_ | intro _)
   exact az func147
 | false =>
  have h3:fH s g=ah s g (aa s g):=by unfold fH;rw [if_neg (by simp at h1;simp [h1]),if_neg (by simpa using h1)]
  rw [h3]
  repeat (first | refine aO (cj s g (aa s g) hg hb) ?_ | refine au ?_ | intro _)
  exact az func147
theorem FV (s:ai) (g:Nat) (hg:g < s.gs.length) (hb:s.gs.length≤100000) :
  Pure prog 149 [.agg (aC s),.c (nI g)] (.agg (aC (Sx.ready s g))):=by
 refine aA.intro func149 rfl rfl rfl (fun ok e=>?_)
 repeat (first | refine au ?_ | intro _)
 refine J.cond rfl (fun h=>?_) (fun h=>?_)
 ·have h3:Sx.ready s g=ah s g { aa s g with status:=0 }:=by unfold Sx.ready;rw [if_pos (by simpa using h)]
  rw [h3]
  repeat (first | refine aO (cj s g { aa s g with status:=0 } hg hb) ?_ | refine gn ?_)
  exact az func149
 ·repeat (refine gn ?_)
  refine J.cond rfl (fun h2=>?_) (fun h2=>?_)
  ·have h3:Sx.ready s g=ah s g { aa s g with token:=true }:=by unfold Sx.ready;rw [if_neg (by simpa using h),if_pos (by simpa using h2)]
   rw [h3]
   repeat (first | refine aO (cj s g { aa s g with token:=true } hg hb) ?_ | refine gn ?_)
   exact az func149
  ·have h3:Sx.ready s g=ah s g (aa s g):=by unfold Sx.ready;rw [if_neg (by simpa using h),if_neg (by simpa using h2)]
   rw [h3]
   repeat (first | refine aO (cj s g (aa s g) hg hb) ?_ | refine gn ?_)
   exact az func149
theorem sG (s:ai) (g:Nat) (hg:g < s.gs.length) (hb:s.gs.length≤100000) :
  Pure prog 130 [.agg (aC s),.c (nI g)] (.agg (aC (Sx.an s g))):=by
 refine aA.intro func130 rfl rfl rfl (fun ok e=>?_)
 repeat (first | refine au ?_ | intro _)
 refine J.cond rfl (fun h=>?_) (fun h=>?_)
 ·have h3:Sx.an s g=aT s g 17:=by unfold Sx.an;rw [if_pos (by simpa using h)]
  rw [h3]
  repeat (first | refine aO (dX s g 17 hg hb) ?_ | refine gn ?_)
  exact az func130
 ·have h3:Sx.an s g=aT s g 18:=by unfold Sx.an;rw [if_neg (by simpa using h)]
  rw [h3]
  repeat (first | refine aO (dX s g 18 hg hb) ?_ | refine gn ?_)
  exact az func130
end Fl
open Go.RowKit
namespace Fl
open Sx Go.Proofs.Tryz
set_option maxRecDepth 100000
def cP (s:ai) (i:Int):Prop:=0≤i∧i < s.aL.length∧0≤(su s i).g∧(su s i).g < s.gs.length
theorem cP.at_ {s:ai} {i:Int} (h:cP s i):(s.aL.map eS)[i.toNat]?=some (eS (su s i)):=fO h.1 h.2.1
theorem cP.gr {s:ai} {i:Int} (h:cP s i):(s.gs.map eG)[(su s i).g.toNat]?=some (eG (aa s (su s i).g.toNat)):=by
 have h1:=h.2.2;have:=fM (s:=s) (g:=(su s i).g.toNat) (by omega)
 rwa [Int.toNat_natCast] at this
theorem AD {n:Int} (h:0≤n):nI n=nI (n.toNat:Nat):=by rw [Int.toNat_of_nonneg h]
def Few (s:ai):Prop:=s.gs.length≤100000∧s.aK.length≤100000∧s.aL.length≤100000
theorem sH (s:ai) (g:Int) (x:Gr) (h0:0≤g) (hg:g < s.gs.length) (hb:s.gs.length≤100000) :
  Pure prog 107 [.agg (aC s),.c (nI g),.agg (eG x)] (.agg (aC (ah s g.toNat x))):=by
 have:=cj s g.toNat x (by omega) hb
 rwa [← AD h0] at this
theorem bP (s:ai) (g:Nat) (x:Gr):(ah s g x).gs.length=s.gs.length:=by simp [ah]
theorem AE (s:ai) (g:Nat) (i:Int) (hg:g < s.gs.length) (hi:cP s i) (hb:Few s) :
  Pure prog 150 [.agg (aC s),.c (nI g),.c (nI i)] (.agg (aC (Sx.pair s g i))):=by
 obtain ⟨eH,ee,gi,ji⟩:=id hi;refine aA.intro func150 rfl rfl rfl (fun ok e=>?_)
 repeat (first | (refine K.indexAddr ?_;first | refine jx rfl rfl rfl rfl (by omega) (hi.at_) ?_ | refine jx rfl rfl rfl rfl (by omega) (hi.gr) ?_) | refine au ?_ | intro _)
 refine J.draw (by kernel_rfl) rfl ?_;refine JW.base (some 7) ?_;refine tk 0 ?_;refine tk 1 ?_;refine tk 2 ?_;refine tk 4 ?_;refine tk 5 ?_;refine cz 3 (sH s (su s i).g { aa s (su s i).g.toNat with bS:=(aa s g).t,wi:=g,c7:=(su s i).cs } gi ji hb.1) ?_;refine jl 6 rfl rfl rfl rfl (Ld.pure (cj (ah s (su s i).g.toNat { aa s (su s i).g.toNat with bS:=(aa s g).t,wi:=g,c7:=(su s i).cs }) g { aa s g with bS:=(aa s g).t,wi:=(su s i).g } (by rw [bP];exact hg) (by rw [bP];exact hb.1)) (qb rfl) rfl lq) .none (fun _=>?_);refine jt 7 rfl rfl (Ld.bu rfl rfl rfl (by exact rfl) (by exact rfl)) (fun _=>?_);refine cH ?_;exact az func150
theorem iQ (v:Int) (ok:Bool):Pure prog 118 [.c (.v (.int .i64 v)),.c (bI ok)] (.agg (qd (dA v ok))):=by
 refine aA.intro func118 rfl rfl rfl (fun ok e=>?_)
 repeat (first | refine au ?_ | intro _)
 exact az func118
theorem uQ:Pure prog 113 [] (.agg (qd kP)):=by
 refine aA.intro func113 rfl rfl rfl (fun ok e=>?_)
 repeat (first | refine au ?_ | intro _)
 exact az func113
theorem sI (r:Md.ak) (i:Int):Pure prog 158 [.agg (qd r),.c (nI i)] (.agg (qd { r with cs:=i })):=by
 refine aA.intro func158 rfl rfl rfl (fun ok e=>?_)
 repeat (first | refine au ?_ | intro _)
 exact az func158
theorem FW (c:Cn):Pure prog 104 [.agg (eC c)] (.c (bI (Sx.room c))):=by
 refine aA.intro func104 rfl rfl rfl (fun ok e=>?_)
 repeat (first | refine au ?_ | intro _)
 refine J.cond rfl (fun h=>?_) (fun h=>?_)
 ·repeat (refine gn ?_)
  refine J.ret func104 rfl (.cons (.tmp rfl) .nil) () (.of_eq ?_) [] .nil rfl rfl
  show D.c (bI _)=_;unfold Sx.room;rw [if_pos (by simpa using h)]
  try simp
 ·repeat (refine gn ?_)
  refine J.ret func104 rfl (.cons (.tmp rfl) .nil) () (.of_eq ?_) [] .nil rfl rfl
  show D.c (bI _)=_;unfold Sx.room;rw [if_neg (by simpa using h)]
  try simp
theorem AF (c:Cn):Pure prog 117 [.agg (eC c)] (.c (bI (oP c))):=by
 refine aA.intro func117 rfl rfl rfl (fun ok e=>?_)
 repeat (first | refine au ?_ | intro _)
 refine J.cond rfl (fun h=>?_) (fun h=>?_)
 ·repeat (refine gn ?_)
  refine J.ret func117 rfl (.cons (.tmp rfl) .nil) () (.of_eq ?_) [] .nil rfl rfl
  show D.c (bI _)=_;unfold oP;rw [if_pos (by simpa using h)]
  try simp
 ·repeat (refine gn ?_)
  refine J.ret func117 rfl (.cons (.tmp rfl) .nil) () (.of_eq ?_) [] .nil rfl rfl
  show D.c (bI _)=_;unfold oP;rw [if_neg (by simpa using h)]
  try simp
end Fl
open Go.RowKit
namespace Fl
open Sx Go.Proofs.Tryz
set_option maxRecDepth 100000
theorem take_one {α:Type} {l:List α} {k:Nat} {a:α} (e:l[k]?=some a):l.take (k + 1)=l.take k ++ [a]:=by
 rw [List.take_add_one,e];rfl
theorem ints_at {l:List Int} {k:Nat} {a:Int} (e:l[k]?=some a):(l.map fun n=>[nI n])[((k:Int)).toNat]?=some [nI a]:=at_map (at_nat e)
theorem AG (l:List Int) (x:Int) (hb:l.length≤100000) :
  Pure prog 151 [.c (ints l),.c (nI x)] (.c (ints (fI l x))):=by
 refine aA.intro func151 rfl rfl rfl (fun ok e=>?_)
 repeat (first | refine au ?_ | intro _)
 rename_i b;refine J.loop (ι:=Nat × Value) (fun p=>[(9,.c (ints l)),(10,.c (nI l.length)),(11,.c (nI p.1)),(5,.c (.v p.2)),(1,.c (nI x))]) (fun p=>[.row p.2 3 1 ((fI (l.take p.1) x).map fun n=>[nI n])]) (fun p=>l.length - p.1) (0,.slice (some ⟨b,0,none⟩) 0 0) (fun X h=>h.aF ⟨rfl,rfl,rfl,rfl,rfl,trivial⟩) (fun p ih=>?_);obtain ⟨k,v⟩:=p
 by_cases hk:k < l.length
 ·obtain ⟨y,hy⟩:∃ y,l[k]?=some y:=⟨_,List.getElem?_eq_getElem hk⟩
  have h1:(decide ((k:Int) < (l.length:Int)))=true:=by simpa using hk
  have hlen:(fI (l.take k) x).length≤100000:=Nat.le_trans (List.length_filter_le _ _) (by simp;omega)
  repeat (refine gn ?_)
  refine J.cond rfl (fun h=>?_) (fun h=>?_)
  ·have e1:fI (l.take (k + 1)) x=fI (l.take k) x ++ [y]:=by
    rw [take_one hy];unfold fI;rw [List.filter_append];simp at h;simp [h]
   repeat (first | (refine K.bi ?_;refine JO.ld (Ld.bO (qb rfl) rfl rfl .cX (by (simp;omega))) rfl (fun _=>?_)) | refine au ?_ | intro _)
   rename_i b2 v2;refine J.drop 1 ?_;refine J.bq ?_ ((ih (k + 1,v2) (by simp;omega)).aF ⟨rfl,rfl,rfl,rfl,rfl,trivial⟩);simp only [e1,List.map_append,List.map_cons,List.map_nil];rfl
  ·have e1:fI (l.take (k + 1)) x=fI (l.take k) x:=by
    rw [take_one hy];unfold fI;rw [List.filter_append];simp at h;simp [h]
   repeat (refine gn ?_)
   refine J.bq ?_ ((ih (k + 1,v) (by simp;omega)).aF ⟨rfl,rfl,rfl,rfl,rfl,trivial⟩);simp only [e1]
 ·have h1:(decide ((k:Int) < (l.length:Int)))=false:=by simpa using hk
  repeat (refine gn ?_)
  refine J.gy 4 rfl ?_;refine J.ret func151 rfl (.cons (.tmp rfl) .nil) () (.of_eq ?_) [] .nil rfl rfl;rw [List.take_of_length_le (show l.length≤k by omega)];rfl
structure Fit (s:ai):Prop extends Few s where
 wk:∀ g:Nat,(aa s g).an.length≤50000
 rv:∀ ch,(cn s ch).recv.length≤50000
 sd:∀ ch,(cn s ch).send.length≤50000
 bf:∀ ch,(cn s ch).buf.length≤50000
 od:∀ g:Nat,(aa s g).order.length≤50000
 sg:∀ g:Nat,(aa s g).aq.length≤50000
 dn:s.done.length≤50000
 ca:s.cache.length≤50000
 cl:∀ g:Nat,(s.cache.getD g []).length≤50000
 md:s.middle.length≤50000
theorem FX (s:ai) (ch:Int) (x:Cn):(aH s ch x).aK.length=s.aK.length:=by simp [aH]
theorem AH (s:ai) (i:Int) (x:Su):(bh s i x).aL.length=s.aL.length:=by simp [bh]
theorem nY (s:ai) (i:Int) (h0:0≤i) (hi:i < s.aL.length) (hr:(cn s (su s i).ch).recv.length≤100000) (hs:(cn s (su s i).ch).send.length≤100000) (hb:s.aK.length≤100000) :
  Pure prog 110 [.agg (aC s),.c (nI i)] (.agg (aC (bE s i))):=by
 refine aA.intro func110 rfl rfl rfl (fun ok e=>?_)
 repeat (first | (refine K.indexAddr ?_;refine jx rfl rfl rfl rfl (by omega) (fO h0 hi) ?_) | refine aO (dN s (su s i).ch) ?_ | refine au ?_ | intro _)
 refine J.cond rfl (fun h=>?_) (fun h=>?_)
 ·have h1:bE s i=s:=by unfold bE;rw [if_neg (by simpa using h)]
  rw [h1]
  repeat (refine gn ?_)
  exact az func110
 ·have h2:aR s (su s i).ch=true:=by simpa using h
  have h1:bE s i=aH s (su s i).ch { cn s (su s i).ch with recv:=fI (cn s (su s i).ch).recv i,send:=fI (cn s (su s i).ch).send i }:=by unfold bE;rw [if_pos h2]
  have hl:=dJ h2;rw [h1]
  repeat (first | refine aO (AG (cn s (su s i).ch).recv i hr) ?_ | refine aO (AG (cn s (su s i).ch).send i hs) ?_ | refine aO (jR s (su s i).ch { cn s (su s i).ch with recv:=fI (cn s (su s i).ch).recv i,send:=fI (cn s (su s i).ch).send i } h2 hb) ?_ | refine au ?_ | intro _)
  exact az func110
theorem sJ (s:ai) (g:Nat) (i:Int) (d:Bool) (hg:g < s.gs.length) (hi:cP s i) (hb:Fit s) :
  Pure prog 111 [.agg (aC s),.c (nI g),.c (nI i),.c (bI d)] (.agg (aC (Sx.serve s g i d))):=by
 obtain ⟨eH,ee,gi,ji⟩:=id hi;obtain ⟨s1,mH⟩:∃ s1,ah s (su s i).g.toNat { aa s (su s i).g.toNat with param:=i }=s1:=⟨_,rfl⟩
 obtain ⟨s2,gS⟩:∃ s2,bh s1 i { su s i with done:=d }=s2:=⟨_,rfl⟩
 have l1:s1.gs.length=s.gs.length:=by rw [← mH,bP]
 have l2:s2.gs.length=s.gs.length:=by rw [← gS,← l1];rfl
 have k1:s1.aL.length=s.aL.length:=by rw [← mH];rfl
 have hw:(aa s2 g).an.length≤50000:=by
  have h1:=hb.wk g;have h2:=hb.wk (su s i).g.toNat;have e2:aa s2 g=aa s1 g:=by rw [← gS];rfl
  rw [e2,← mH];unfold ah aa;simp only [List.getD_eq_getElem?_getD,List.getElem?_set]
  split
  ·split
   ·exact h2
   ·simp [clean]
  ·exact h1
 have e3:Sx.serve s g i d=ah s2 g { aa s2 g with an:=(aa s2 g).an ++ [(su s i).g],hold:=-1 }:=by rw [← gS,← mH];rfl
 have dM:g < s2.gs.length:=by rw [l2];exact hg
 rw [e3];have C1:=sH s (su s i).g { aa s (su s i).g.toNat with param:=i } gi ji hb.1.1;have C2:=qv s1 i { su s i with done:=d } eH (by rw [k1];exact ee) (by rw [k1];exact hb.1.2.2);rw [mH] at C1;rw [gS] at C2;have C3:=cj s2 g { aa s2 g with an:=(aa s2 g).an ++ [(su s i).g],hold:=-1 } dM (by rw [l2];exact hb.1.1);clear mH gS e3;refine aA.intro func111 rfl rfl rfl (fun ok e=>?_)
 repeat (first | (refine K.indexAddr ?_;first | refine jx rfl rfl rfl rfl (by omega) (hi.at_) ?_ | refine jx rfl rfl rfl rfl (by omega) (hi.gr) ?_) | refine au ?_ | intro _)
 refine J.draw (by kernel_rfl) rfl ?_;refine JW.base (some 8) ?_;refine tk 0 ?_;refine tk 1 ?_;refine tk 2 ?_;refine tk 3 ?_;refine tk 5 ?_;refine tk 6 ?_;refine cz 4 (C1) ?_;refine cz 7 (C2) ?_;refine jt 8 rfl rfl (Ld.bu rfl rfl rfl (by exact rfl) (by exact rfl)) (fun _=>?_);refine cH ?_
 repeat (first | refine au ?_ | intro _)
 refine J.draw (by kernel_rfl) rfl ?_;refine JW.base (some 9) ?_;refine tk 1 ?_;refine tk 2 ?_;refine tk 4 ?_;refine tk 5 ?_;refine JD.cF (i:=0) (j:=6) (by kernel_rfl) ?_ ?_;refine JS.cC rfl rfl rfl (qb rfl) (Ld.eJ (qb rfl)) .none (fun _=>?_);refine JD.cF (i:=3) (j:=6) (by kernel_rfl) ?_ ?_;refine JS.cC rfl rfl rfl (qb rfl) (Ld.bO (qb rfl) rfl rfl .read (by (simp;omega))) (by (exact .row (by repeat ((exact .refl))))) (fun _=>?_);refine jl 6 rfl rfl rfl rfl (Ld.dK (qb rfl) rfl rfl rfl rfl rfl) .none (fun _=>?_);refine jl 7 rfl rfl rfl rfl (Ld.dU (qb rfl) rfl rfl .cX (by (simp;omega))) (by (exact .row (by repeat (first | exact .refl | refine .cons ?_)))) (fun _=>?_);refine jk 8 rfl rfl rfl rfl (Qt.fieldAddr rfl rfl) ?_;refine jt 9 rfl rfl (Ld.cW rfl rfl (by exact rfl)) (fun _=>?_);refine cH ?_
 rotate_left
 refine JS.cC rfl rfl rfl (qb rfl) (Ld.dK (qb rfl) rfl rfl rfl rfl rfl) .none (fun _=>?_);refine jl 3 rfl rfl rfl rfl (Ld.bO (qb rfl) rfl rfl .read (by (simp;omega))) (by (exact .row (by repeat (first | exact .refl | refine .cons ?_)))) (fun _=>?_);refine jl 7 rfl rfl rfl rfl (Ld.dU (qb rfl) rfl rfl .cX (by (simp;omega))) (by (exact .row (by repeat (first | exact .refl | refine .cons ?_)))) (fun _=>?_);refine jk 8 rfl rfl rfl rfl (Qt.fieldAddr rfl rfl) ?_;refine jt 9 rfl rfl (Ld.cW rfl rfl (by exact rfl)) (fun _=>?_);refine cH ?_
 rotate_left
 refine JS.cC rfl rfl rfl (qb rfl) (Ld.dK (qb rfl) rfl rfl rfl rfl rfl) .none (fun _=>?_);refine jl 0 rfl rfl rfl rfl (Ld.eJ (qb rfl)) .none (fun _=>?_);refine jl 3 rfl rfl rfl rfl (Ld.bO (qb rfl) rfl rfl .read (by (simp;omega))) (by (exact .row (by repeat (first | exact .refl | refine .cons ?_)))) (fun _=>?_);refine jl 7 rfl rfl rfl rfl (Ld.dU (qb rfl) rfl rfl .cX (by (simp;omega))) (by (exact .row (by repeat (first | exact .refl | refine .cons ?_)))) (fun _=>?_);refine jk 8 rfl rfl rfl rfl (Qt.fieldAddr rfl rfl) ?_;refine jt 9 rfl rfl (Ld.cW rfl rfl (by exact rfl)) (fun _=>?_);refine cH ?_
 rotate_left
 all_goals
  repeat (first | (refine K.call ?_;refine JO.pure (C3) rfl (qb rfl) rfl ?_ ?_;focus ((repeat (first | exact bR.nil | refine bR.cons (dm.agg (by repeat (first | exact .nil | refine .cons .refl ?_ | refine .cons .snoc ?_))) ?_ | refine bR.cons dm.refl ?_));done)) | refine gn ?_)
  exact az func111
end Fl
open Go.RowKit
namespace Fl
open Sx Go.Proofs.Tryz
set_option maxRecDepth 100000
structure fY where
 size:Int
 most:Int
 ca:List (List Int)
 aG:List Int
 fresh:Int
def iR (p:fY):List A:=[nI p.size,nI p.most,.r 1 (p.ca.map fun l=>[ints l]),ints p.aG,nI p.fresh]
theorem FY (l:List Int) (x:Int) (hb:l.length≤100000) :
  Pure prog 176 [.c (ints l),.c (nI x)] (.c (bI (decide (x∈l)))):=by
 refine aA.intro func176 rfl rfl rfl (fun ok e=>?_)
 repeat (refine gn ?_)
 refine J.loop (ι:={ k:Nat // ∀ y∈l.take k,x≠y }) (fun p=>[(7,.c (ints l)),(8,.c (nI l.length)),(9,.c (nI p.1)),(1,.c (nI x))]) (fun p=>[]) (fun p=>l.length - p.1) ⟨0,by simp⟩ (fun X h=>h.aF ⟨rfl,rfl,rfl,rfl,trivial⟩) (fun p ih=>?_);obtain ⟨k,hn⟩:=p;dsimp only
 by_cases hk:k < l.length
 ·obtain ⟨y,hy⟩:∃ y,l[k]?=some y:=⟨_,List.getElem?_eq_getElem hk⟩
  have h1:(decide ((k:Int) < (l.length:Int)))=true:=by simpa using hk
  repeat (refine gn ?_)
  refine J.cond rfl (fun h=>?_) (fun h=>?_)
  ·have mq:x=y:=by simpa using h
   have hm:decide (x∈l)=true:=by
    simp only [decide_eq_true_eq];rw [mq];exact List.mem_of_getElem? hy
   rw [hm]
   repeat (refine gn ?_)
   exact az func176
  ·have mq:x≠y:=by simpa using h
   repeat (refine gn ?_)
   have nr:∀ z∈l.take (k + 1),x≠z:=fun z hz=>by rw [take_one hy] at hz;rcases List.mem_append.1 hz with hz | hz;exact hn z hz;simp at hz;rw [hz];exact mq
   refine (ih ⟨k + 1,nr⟩ (by (simp;omega))).aF (f:=_) ?_;exact ⟨rfl,rfl,rfl,rfl,trivial⟩
 ·have h1:(decide ((k:Int) < (l.length:Int)))=false:=by simpa using hk
  have hm:decide (x∈l)=false:=by
   simp only [decide_eq_false_iff_not];intro hx;rw [List.take_of_length_le (by omega)] at hn;exact hn x hx rfl
  rw [hm]
  repeat (refine gn ?_)
  exact az func176
theorem FZ (p:fY) (hb:(p.aG ++ p.ca.flatten).length≤100000) (hc:p.ca.length≤100000) :
  Pure prog 177 [.agg (iR p)] (.c (ints (p.aG ++ p.ca.flatten))):=by
 have Mu:p.aG.length + p.ca.flatten.length≤100000:=by simpa using hb
 refine aA.intro func177 rfl rfl rfl (fun ok e=>?_)
 repeat (first | (refine K.bi ?_;refine JO.ld (Ld.bO (qb rfl) rfl rfl .read (by (simp;omega))) rfl (fun _=>?_)) | refine au ?_ | intro _)
 rename_i b1 b2 v1;refine J.loop (ι:=Nat × Value) (fun q=>[(11,.c (.r 1 (p.ca.map fun l=>[ints l]))),(12,.c (nI p.ca.length)),(13,.c (nI q.1)),(3,.c (.v q.2))]) (fun q=>[.row q.2 3 1 ((p.aG ++ (p.ca.take q.1).flatten).map fun n=>[nI n]),.box b1 204 (iR p)]) (fun q=>p.ca.length - q.1) (0,v1) (fun X h=>J.bq (by simp) (h.aF ⟨rfl,rfl,rfl,rfl,trivial⟩)) (fun q ih=>?_);obtain ⟨k,v⟩:=q
 by_cases hk:k < p.ca.length
 ·obtain ⟨y,hy⟩:∃ y,p.ca[k]?=some y:=⟨_,List.getElem?_eq_getElem hk⟩
  have h1:(decide ((k:Int) < (p.ca.length:Int)))=true:=by simpa using hk
  have e2:=take_one hy;have hlen:(p.ca.take k).flatten.length + y.length≤p.ca.flatten.length:=by
   have:p.ca.flatten=(p.ca.take (k + 1)).flatten ++ (p.ca.drop (k + 1)).flatten:=by rw [← List.flatten_append,List.take_append_drop]
   rw [this,e2];simp [List.flatten_append]
  repeat (first | (refine K.indexAddr ?_;refine jx rfl rfl rfl rfl (by omega) (at_map (at_nat hy)) ?_) | (refine K.bi ?_;refine JO.ld (Ld.bO (qb rfl) rfl rfl .read (by simp only [List.length_map,List.length_append];omega)) rfl (fun _=>?_)) | refine gn ?_)
  rename_i v2;refine J.bq ?_ ((ih (k + 1,v2) (by (simp;omega))).aF ⟨rfl,rfl,rfl,rfl,trivial⟩);simp only [e2,List.flatten_append,List.flatten_cons,List.flatten_nil,List.append_nil,List.map_append,List.append_assoc]
 ·have h1:(decide ((k:Int) < (p.ca.length:Int)))=false:=by simpa using hk
  repeat (refine gn ?_)
  refine J.gy 2 rfl ?_;refine J.ret func177 rfl (.cons (.tmp rfl) .nil) () (.of_eq ?_) [] .nil rfl rfl;rw [List.take_of_length_le (show p.ca.length≤k by omega)];rfl
def kq (p:fY) (x:Int):Bool:=decide (0≤x) && decide (x < p.fresh) && !decide (x∈p.aG ++ p.ca.flatten)
theorem F0 (p:fY) (x:Int) (hb:(p.aG ++ p.ca.flatten).length≤100000) (hc:p.ca.length≤100000) :
  Pure prog 174 [.agg (iR p),.c (nI x)] (.c (bI (kq p x))):=by
 refine aA.intro func174 rfl rfl rfl (fun ok e=>?_)
 cases h1:decide (x ≥ 0) with
 | false =>
  have e1:kq p x=false:=by unfold kq;have:decide (0≤x)=false:=h1;rw [this];rfl
  rw [e1]
  repeat (first | refine au ?_ | intro _)
  exact az func174
 | true =>
  cases h2:decide (x < p.fresh) with
  | false =>
   have e1:kq p x=false:=by unfold kq;rw [h2];simp
   rw [e1]
   repeat (first | refine au ?_ | intro _)
   exact az func174
  | true =>
   have e1:kq p x=!decide (x∈p.aG ++ p.ca.flatten):=by unfold kq;have:decide (0≤x)=true:=h1;rw [h2,this];rfl
   rw [e1]
   repeat (first | refine aO (FZ p hb hc) ?_ | refine aO (FY (p.aG ++ p.ca.flatten) x hb) ?_ | refine au ?_ | intro _)
   exact az func174
theorem AI (p:fY) (g:Nat) (l:List Int) (hg:g < p.ca.length) (hc:p.ca.length≤100000) :
  Pure prog 175 [.agg (iR p),.c (nI g),.c (ints l)] (.agg (iR { p with ca:=p.ca.set g l })):=by
 refine aA.intro func175 rfl rfl rfl (fun ok e=>?_)
 repeat (first | (refine K.store ?_;refine JO.ld (Ld.bM rfl rfl rfl (by exact rfl) (by (simp;omega))) rfl (fun _=>?_)) | (refine K.indexAddr ?_;refine jq rfl rfl rfl (Qt.aN rfl rfl (by (omega)) (by (simp;omega))) ?_) | (refine K.bi ?_;refine JO.ld (Ld.bO (qb rfl) rfl rfl .read (by (simp;omega))) rfl (fun _=>?_)) | refine au ?_ | intro _)
 refine J.pY 0 1 2 rfl rfl rfl ?_
 (refine J.ret func175 rfl (.cons (.cell 0 rfl rfl rfl) .nil) () (.of_eq ?_) [] .nil rfl rfl)
 have e1:([] ++ List.map (fun l=>[ints l]) p.ca).set ((g:Int)).toNat [ints l]=(p.ca.set g l).map fun l=>[ints l]:=by simp
 exact congrArg (fun r=>D.agg [nI p.size,nI p.most,.r 1 r,ints p.aG,nI p.fresh]) e1
end Fl
end Go.Proofs.YtgjpdogjekmemaaGreat
