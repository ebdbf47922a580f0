/-
  What the laws need, part A24.
  Conditions: none.
-/
import Derived.Test.YtofnbflkhgammaaGreatA22
set_option linter.unusedVariables false
set_option linter.unusedSimpArgs false
set_option linter.unnecessarySimpa false
set_option maxHeartbeats 2000000
namespace Go.Proofs.YtofnbflkhgammaaGreat
open Go.RowKit
namespace Fl
open Sx
set_option maxRecDepth 100000
def dm (s:Sx.St) (i:Int):Prop:=0≤i∧i < s.aB.length∧0≤(su s i).g∧(su s i).g < s.gs.length
theorem dm.at_ {s:Sx.St} {i:Int} (h:dm s i):(s.aB.map eS)[i.toNat]?=some (eS (su s i)):=ic h.1 h.2.1
theorem dm.gr {s:Sx.St} {i:Int} (h:dm s i):(s.gs.map eG)[(su s i).g.toNat]?=some (eG (Sx.gr s (su s i).g.toNat)):=by
 have h1:=h.2.2;have:=iA (s:=s) (g:=(su s i).g.toNat) (by omega)
 rwa [Int.toNat_natCast] at this
theorem Mn {n:Int} (h:0≤n):nI n=nI (n.toNat:Nat):=by rw [Int.toNat_of_nonneg h]
def Few (s:Sx.St):Prop:=s.gs.length≤100000∧s.an.length≤100000∧s.aB.length≤100000
theorem zc (s:Sx.St) (g:Int) (x:Gr) (h0:0≤g) (hg:g < s.gs.length) (hb:s.gs.length≤100000) :
  Pure Tryz.prog 76 [.agg (ay s),.c (nI g),.agg (eG x)] (.agg (ay (Sx.aa s g.toNat x))):=by
 have:=cE s g.toNat x (by omega) hb
 rwa [← Mn h0] at this
theorem bV (s:Sx.St) (g:Nat) (x:Gr):(Sx.aa s g x).gs.length=s.gs.length:=by simp [Sx.aa]
theorem FM (s:Sx.St) (g:Nat) (i:Int) (hg:g < s.gs.length) (hi:dm s i) (hb:Few s) :
  Pure Tryz.prog 27 [.agg (ay s),.c (nI g),.c (nI i)] (.agg (ay (Sx.pair s g i))):=by
 obtain ⟨fV,dI,dA,gP⟩:=id hi;refine aq.intro Tryz.func27 rfl rfl rfl (fun ok e=>?_)
 repeat (first | (refine K.indexAddr ?_;first | refine jx rfl rfl rfl rfl (by omega) (hi.at_) ?_ | refine jx rfl rfl rfl rfl (by omega) (hi.gr) ?_) | refine au ?_ | intro _)
 refine J.draw (by kernel_rfl) rfl ?_;refine JW.base (some 7) ?_;refine tk 0 ?_;refine tk 1 ?_;refine tk 2 ?_;refine tk 4 ?_;refine tk 5 ?_;refine cU 3 (zc s (su s i).g { Sx.gr s (su s i).g.toNat with bG:=(Sx.gr s g).t,wi:=g,dh:=(su s i).cs } dA gP hb.1) ?_;refine jl 6 rfl rfl rfl rfl (Ld.pure (cE (Sx.aa s (su s i).g.toNat { Sx.gr s (su s i).g.toNat with bG:=(Sx.gr s g).t,wi:=g,dh:=(su s i).cs }) g { Sx.gr s g with bG:=(Sx.gr s g).t,wi:=(su s i).g } (by rw [bV];exact hg) (by rw [bV];exact hb.1)) (qb rfl) rfl lq) .none (fun _=>?_);refine jt 7 rfl rfl (Ld.aP rfl rfl rfl (by exact rfl) (by exact rfl)) (fun _=>?_);refine bJ ?_;exact az Tryz.func27
theorem kQ (v:Int) (ok:Bool):Pure Tryz.prog 170 [.c (.v (.int .i64 v)),.c (bI ok)] (.agg (vj (ee v ok))):=by
 refine aq.intro Tryz.func170 rfl rfl rfl (fun ok e=>?_)
 repeat (first | refine au ?_ | intro _)
 exact az Tryz.func170
theorem BQ:Pure Tryz.prog 159 [] (.agg (vj lu)):=by
 refine aq.intro Tryz.func159 rfl rfl rfl (fun ok e=>?_)
 repeat (first | refine au ?_ | intro _)
 exact az Tryz.func159
theorem ze (r:Md.ai) (i:Int):Pure Tryz.prog 224 [.agg (vj r),.c (nI i)] (.agg (vj { r with cs:=i })):=by
 refine aq.intro Tryz.func224 rfl rfl rfl (fun ok e=>?_)
 repeat (first | refine au ?_ | intro _)
 exact az Tryz.func224
theorem WE (c:Cn):Pure Tryz.prog 157 [.agg (eC c)] (.c (bI (Sx.room c))):=by
 refine aq.intro Tryz.func157 rfl rfl rfl (fun ok e=>?_)
 repeat (first | refine au ?_ | intro _)
 refine J.cond rfl (fun h=>?_) (fun h=>?_)
 ·repeat (refine gn ?_)
  refine J.ret Tryz.func157 rfl (.cons (.tmp rfl) .nil) () (.of_eq ?_) [] .nil rfl rfl
  show D.c (bI _)=_;unfold Sx.room;rw [if_pos (by simpa using h)]
  try simp
 ·repeat (refine gn ?_)
  refine J.ret Tryz.func157 rfl (.cons (.tmp rfl) .nil) () (.of_eq ?_) [] .nil rfl rfl
  show D.c (bI _)=_;unfold Sx.room;rw [if_neg (by simpa using h)]
  try simp
theorem Mo (c:Cn):Pure Tryz.prog 169 [.agg (eC c)] (.c (bI (tV c))):=by
 refine aq.intro Tryz.func169 rfl rfl rfl (fun ok e=>?_)
 repeat (first | refine au ?_ | intro _)
 refine J.cond rfl (fun h=>?_) (fun h=>?_)
 ·repeat (refine gn ?_)
  refine J.ret Tryz.func169 rfl (.cons (.tmp rfl) .nil) () (.of_eq ?_) [] .nil rfl rfl
  show D.c (bI _)=_;unfold tV;rw [if_pos (by simpa using h)]
  try simp
 ·repeat (refine gn ?_)
  refine J.ret Tryz.func169 rfl (.cons (.tmp rfl) .nil) () (.of_eq ?_) [] .nil rfl rfl
  show D.c (bI _)=_;unfold tV;rw [if_neg (by simpa using h)]
  try simp
end Fl
open Go.RowKit
namespace Fl
open Sx
set_option maxRecDepth 100000
theorem take_one {α:Type} {l:List α} {k:Nat} {a:α} (e:l[k]?=some a):l.take (k + 1)=l.take k ++ [a]:=by
 rw [List.take_add_one,e];rfl
theorem ints_at {l:List Int} {k:Nat} {a:Int} (e:l[k]?=some a):(l.map fun n=>[nI n])[((k:Int)).toNat]?=some [nI a]:=at_map (at_nat e)
theorem Mp (l:List Int) (x:Int) (hb:l.length≤100000) :
  Pure Tryz.prog 182 [.c (ints l),.c (nI x)] (.c (ints (gM l x))):=by
 refine aq.intro Tryz.func182 rfl rfl rfl (fun ok e=>?_)
 repeat (first | refine au ?_ | intro _)
 rename_i b;refine J.loop (ι:=Nat × Value) (fun p=>[(9,.c (ints l)),(10,.c (nI l.length)),(11,.c (nI p.1)),(5,.c (.v p.2)),(1,.c (nI x))]) (fun p=>[.row p.2 3 1 ((gM (l.take p.1) x).map fun n=>[nI n])]) (fun p=>l.length - p.1) (0,.slice (some ⟨b,0,none⟩) 0 0) (fun X h=>h.aU ⟨rfl,rfl,rfl,rfl,rfl,trivial⟩) (fun p ih=>?_);obtain ⟨k,v⟩:=p
 by_cases hk:k < l.length
 ·obtain ⟨y,hy⟩:∃ y,l[k]?=some y:=⟨_,List.getElem?_eq_getElem hk⟩
  have h1:(decide ((k:Int) < (l.length:Int)))=true:=by simpa using hk
  have hlen:(gM (l.take k) x).length≤100000:=Nat.le_trans (List.length_filter_le _ _) (by simp;omega)
  repeat (refine gn ?_)
  refine J.cond rfl (fun h=>?_) (fun h=>?_)
  ·have e1:gM (l.take (k + 1)) x=gM (l.take k) x ++ [y]:=by
    rw [take_one hy];unfold gM;rw [List.filter_append];simp at h;simp [h]
   repeat (first | (refine K.bi ?_;refine JO.ld (Ld.bY (qb rfl) rfl rfl .cR (by (simp;omega))) rfl (fun _=>?_)) | refine au ?_ | intro _)
   rename_i b2 v2;refine J.drop 1 ?_;refine J.dZ ?_ ((ih (k + 1,v2) (by simp;omega)).aU ⟨rfl,rfl,rfl,rfl,rfl,trivial⟩);simp only [e1,List.map_append,List.map_cons,List.map_nil];rfl
  ·have e1:gM (l.take (k + 1)) x=gM (l.take k) x:=by
    rw [take_one hy];unfold gM;rw [List.filter_append];simp at h;simp [h]
   repeat (refine gn ?_)
   refine J.dZ ?_ ((ih (k + 1,v) (by simp;omega)).aU ⟨rfl,rfl,rfl,rfl,rfl,trivial⟩);simp only [e1]
 ·have h1:(decide ((k:Int) < (l.length:Int)))=false:=by simpa using hk
  repeat (refine gn ?_)
  refine J.jE 4 rfl ?_;refine J.ret Tryz.func182 rfl (.cons (.tmp rfl) .nil) () (.of_eq ?_) [] .nil rfl rfl;rw [List.take_of_length_le (show l.length≤k by omega)];rfl
structure Fit (s:Sx.St):Prop extends Few s where
 wk:∀ g:Nat,(Sx.gr s g).ah.length≤50000
 rv:∀ ch,(cn s ch).recv.length≤50000
 sd:∀ ch,(cn s ch).send.length≤50000
 bf:∀ ch,(cn s ch).buf.length≤50000
 od:∀ g:Nat,(Sx.gr s g).order.length≤50000
 sg:∀ g:Nat,(Sx.gr s g).ak.length≤50000
 dn:s.done.length≤50000
 ca:s.cache.length≤50000
 cl:∀ g:Nat,(s.cache.getD g []).length≤50000
 md:s.middle.length≤50000
theorem WG (s:Sx.St) (ch:Int) (x:Cn):(Sx.av s ch x).an.length=s.an.length:=by simp [Sx.av]
theorem Mq (s:Sx.St) (i:Int) (x:Su):(Sx.aF s i x).aB.length=s.aB.length:=by simp [Sx.aF]
theorem tr (s:Sx.St) (i:Int) (h0:0≤i) (hi:i < s.aB.length) (hr:(cn s (su s i).ch).recv.length≤100000) (hs:(cn s (su s i).ch).send.length≤100000) (hb:s.an.length≤100000) :
  Pure Tryz.prog 143 [.agg (ay s),.c (nI i)] (.agg (ay (Sx.drop s i))):=by
 refine aq.intro Tryz.func143 rfl rfl rfl (fun ok e=>?_)
 repeat (first | (refine K.indexAddr ?_;refine jx rfl rfl rfl rfl (by omega) (ic h0 hi) ?_) | refine aJ (eK s (su s i).ch) ?_ | refine au ?_ | intro _)
 refine J.cond rfl (fun h=>?_) (fun h=>?_)
 ·have h1:Sx.drop s i=s:=by unfold Sx.drop;rw [if_neg (by simpa using h)]
  rw [h1]
  repeat (refine gn ?_)
  exact az Tryz.func143
 ·have h2:Sx.made s (su s i).ch=true:=by simpa using h
  have h1:Sx.drop s i=Sx.av s (su s i).ch { cn s (su s i).ch with recv:=gM (cn s (su s i).ch).recv i,send:=gM (cn s (su s i).ch).send i }:=by unfold Sx.drop;rw [if_pos h2]
  have hl:=eD h2;rw [h1]
  repeat (first | refine aJ (Mp (cn s (su s i).ch).recv i hr) ?_ | refine aJ (Mp (cn s (su s i).ch).send i hs) ?_ | refine aJ (mX s (su s i).ch { cn s (su s i).ch with recv:=gM (cn s (su s i).ch).recv i,send:=gM (cn s (su s i).ch).send i } h2 hb) ?_ | refine au ?_ | intro _)
  exact az Tryz.func143
theorem wv (s:Sx.St) (g:Nat) (i:Int) (d:Bool) (hg:g < s.gs.length) (hi:dm s i) (hb:Fit s) :
  Pure Tryz.prog 29 [.agg (ay s),.c (nI g),.c (nI i),.c (bI d)] (.agg (ay (Sx.serve s g i d))):=by
 obtain ⟨fV,dI,dA,gP⟩:=id hi;obtain ⟨s1,pY⟩:∃ s1,Sx.aa s (su s i).g.toNat { Sx.gr s (su s i).g.toNat with param:=i }=s1:=⟨_,rfl⟩
 obtain ⟨s2,jy⟩:∃ s2,Sx.aF s1 i { su s i with done:=d }=s2:=⟨_,rfl⟩
 have l1:s1.gs.length=s.gs.length:=by rw [← pY,bV]
 have l2:s2.gs.length=s.gs.length:=by rw [← jy,← l1];rfl
 have k1:s1.aB.length=s.aB.length:=by rw [← pY];rfl
 have hw:(Sx.gr s2 g).ah.length≤50000:=by
  have h1:=hb.wk g;have h2:=hb.wk (su s i).g.toNat;have e2:Sx.gr s2 g=Sx.gr s1 g:=by rw [← jy];rfl
  rw [e2,← pY];unfold Sx.aa Sx.gr;simp only [List.getD_eq_getElem?_getD,List.getElem?_set]
  split
  ·split
   ·exact h2
   ·simp [clean]
  ·exact h1
 have e3:Sx.serve s g i d=Sx.aa s2 g { Sx.gr s2 g with ah:=(Sx.gr s2 g).ah ++ [(su s i).g],hold:=-1 }:=by rw [← jy,← pY];rfl
 have gI:g < s2.gs.length:=by rw [l2];exact hg
 rw [e3];have C1:=zc s (su s i).g { Sx.gr s (su s i).g.toNat with param:=i } dA gP hb.1.1;have C2:=wu s1 i { su s i with done:=d } fV (by rw [k1];exact dI) (by rw [k1];exact hb.1.2.2);rw [pY] at C1;rw [jy] at C2;have C3:=cE s2 g { Sx.gr s2 g with ah:=(Sx.gr s2 g).ah ++ [(su s i).g],hold:=-1 } gI (by rw [l2];exact hb.1.1);clear pY jy e3;refine aq.intro Tryz.func29 rfl rfl rfl (fun ok e=>?_)
 repeat (first | (refine K.indexAddr ?_;first | refine jx rfl rfl rfl rfl (by omega) (hi.at_) ?_ | refine jx rfl rfl rfl rfl (by omega) (hi.gr) ?_) | refine au ?_ | intro _)
 refine J.draw (by kernel_rfl) rfl ?_;refine JW.base (some 8) ?_;refine tk 0 ?_;refine tk 1 ?_;refine tk 2 ?_;refine tk 3 ?_;refine tk 5 ?_;refine tk 6 ?_;refine cU 4 (C1) ?_;refine cU 7 (C2) ?_;refine jt 8 rfl rfl (Ld.aP rfl rfl rfl (by exact rfl) (by exact rfl)) (fun _=>?_);refine bJ ?_
 repeat (first | refine au ?_ | intro _)
 refine J.draw (by kernel_rfl) rfl ?_;refine JW.base (some 9) ?_;refine tk 1 ?_;refine tk 2 ?_;refine tk 4 ?_;refine tk 5 ?_;refine JD.cB (i:=0) (j:=6) (by kernel_rfl) ?_ ?_;refine JS.bp rfl rfl rfl (qb rfl) (Ld.gL (qb rfl)) .none (fun _=>?_);refine JD.cB (i:=3) (j:=6) (by kernel_rfl) ?_ ?_;refine JS.bp rfl rfl rfl (qb rfl) (Ld.bY (qb rfl) rfl rfl .read (by (simp;omega))) (by (exact .row (by repeat ((exact .refl))))) (fun _=>?_);refine jl 6 rfl rfl rfl rfl (Ld.ff (qb rfl) rfl rfl rfl rfl rfl) .none (fun _=>?_);refine jl 7 rfl rfl rfl rfl (Ld.fK (qb rfl) rfl rfl .cR (by (simp;omega))) (by (exact .row (by repeat (first | exact .refl | refine .cons ?_)))) (fun _=>?_);refine jk 8 rfl rfl rfl rfl (Qt.fieldAddr rfl rfl) ?_;refine jt 9 rfl rfl (Ld.cG rfl rfl (by exact rfl)) (fun _=>?_);refine bJ ?_
 rotate_left
 refine JS.bp rfl rfl rfl (qb rfl) (Ld.ff (qb rfl) rfl rfl rfl rfl rfl) .none (fun _=>?_);refine jl 3 rfl rfl rfl rfl (Ld.bY (qb rfl) rfl rfl .read (by (simp;omega))) (by (exact .row (by repeat (first | exact .refl | refine .cons ?_)))) (fun _=>?_);refine jl 7 rfl rfl rfl rfl (Ld.fK (qb rfl) rfl rfl .cR (by (simp;omega))) (by (exact .row (by repeat (first | exact .refl | refine .cons ?_)))) (fun _=>?_);refine jk 8 rfl rfl rfl rfl (Qt.fieldAddr rfl rfl) ?_;refine jt 9 rfl rfl (Ld.cG rfl rfl (by exact rfl)) (fun _=>?_);refine bJ ?_
 rotate_left
 refine JS.bp rfl rfl rfl (qb rfl) (Ld.ff (qb rfl) rfl rfl rfl rfl rfl) .none (fun _=>?_);refine jl 0 rfl rfl rfl rfl (Ld.gL (qb rfl)) .none (fun _=>?_);refine jl 3 rfl rfl rfl rfl (Ld.bY (qb rfl) rfl rfl .read (by (simp;omega))) (by (exact .row (by repeat (first | exact .refl | refine .cons ?_)))) (fun _=>?_);refine jl 7 rfl rfl rfl rfl (Ld.fK (qb rfl) rfl rfl .cR (by (simp;omega))) (by (exact .row (by repeat (first | exact .refl | refine .cons ?_)))) (fun _=>?_);refine jk 8 rfl rfl rfl rfl (Qt.fieldAddr rfl rfl) ?_;refine jt 9 rfl rfl (Ld.cG rfl rfl (by exact rfl)) (fun _=>?_);refine bJ ?_
 rotate_left
 all_goals
  repeat (first | (refine K.call ?_;refine JO.pure (C3) rfl (qb rfl) rfl ?_ ?_;focus ((repeat (first | exact aL.nil | refine aL.cons (cQ.agg (by repeat (first | exact .nil | refine .cons .refl ?_ | refine .cons .snoc ?_))) ?_ | refine aL.cons cQ.refl ?_));done)) | refine gn ?_)
  exact az Tryz.func29
end Fl
end Go.Proofs.YtofnbflkhgammaaGreat
