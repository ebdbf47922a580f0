/-
  What the laws need, part D25.
  Conditions: none.
-/
import Derived.Test.YtofnbflkhgammaaGreatD24
set_option linter.unusedVariables false
set_option linter.unusedSimpArgs false
set_option linter.unnecessarySimpa false
set_option maxHeartbeats 2000000
namespace Go.Proofs.YtofnbflkhgammaaGreat
open Go.RowKit
namespace Fl
open Sx Go.Proofs.Tryz
set_option maxRecDepth 100000
def jd.cq (p:jd) (g:Nat) (x:Int):jd × Bool :=
 if oM p x=true then ({ p with ca:=p.ca.set g ((p.ca.getD g []).take ((p.ca.getD g []).length - Po.eu p.most.toNat (p.ca.getD g [])) ++ [x]),bh:=p.bh ++ (p.ca.getD g []).reverse.take (Po.eu p.most.toNat (p.ca.getD g [])) },true) else (p,false)
theorem Xp (p:jd) (g:Nat) (x:Int) (hg:g < p.ca.length) (hc:p.ca.length≤50000) (bZ:(p.ca.getD g []).length≤50000) (hm:p.bh.length≤40000) (ha:(p.bh ++ p.ca.flatten).length≤100000) (h1:1≤p.most) (h2:p.most≤100000) :
  Pure prog 137 [.agg (lH p),.c (nI g),.c (nI x)] (.aZ [.agg (lH (p.cq g x).1),.c (bI (p.cq g x).2)]):=by
 refine ax.intro func137 rfl rfl rfl (fun ok e=>?_);have hq:IntKind.i64.wrap (p.most.tdiv 2)=((p.most.toNat / 2:Nat):Int):=by
  rw [Int.tdiv_eq_ediv_of_nonneg (by omega),eL (by omega) (by omega)];omega
 have t1:(decide ((g:Int) < 0))=false:=by simp
 have t2:(decide ((g:Int) ≥ (p.ca.length:Int)))=false:=by simp;omega
 have hC:=Xl p x ha (by omega)
 cases qN:oM p x with
 | false =>
  rw [qN] at hC;have er:p.cq g x=(p,false):=by unfold jd.cq;rw [qN];rfl
  rw [er]
  repeat (first | (refine K.store ?_;refine JO.ld (Ld.aX rfl rfl rfl (by exact rfl) (by exact rfl)) rfl (fun _=>?_)) | refine av ?_ | intro _)
  (refine J.ret func137 rfl (.cons (.cell 0 rfl rfl rfl) (.cons (.tmp rfl) .nil)) () (.of_eq ?_) [] .nil rfl rfl)
  rfl
 | true =>
 rw [qN] at hC;have er:p.cq g x=({ p with ca:=p.ca.set g ((p.ca.getD g []).take ((p.ca.getD g []).length - Po.eu p.most.toNat (p.ca.getD g [])) ++ [x]),bh:=p.bh ++ (p.ca.getD g []).reverse.take (Po.eu p.most.toNat (p.ca.getD g [])) },true):=by unfold jd.cq;rw [if_pos qN]
 rw [er];clear er;generalize GM:p.ca.getD g []=c at *;have GN:p.ca[g]?=some c:=by rw [← GM];exact GL hg
 repeat (first | (refine K.indexAddr ?_;refine jx rfl rfl rfl rfl (by omega) (at_map (at_nat GN)) ?_) | (refine K.bi ?_;refine JO.ld (Ld.cA (qb rfl) rfl rfl .read (by (simp;omega))) rfl (fun _=>?_)) | refine av ?_ | intro _)
 rename_i b1 b2 Xn vo Xo vm;refine J.join (ι:=Value × Value) (fun q=>[(8,.c (.v q.1)),(9,.c (.v q.2)),(1,.c (nI g)),(2,.c (nI x)),(3,.c (.v (.pointer (some ⟨b1,0,none⟩)))),(6,.c (.v (.pointer (some ⟨b2,0,none⟩))))]) (fun q=>[.row q.1 3 1 ((c.take (c.length - Po.eu p.most.toNat c)).map fun n=>[nI n]),.row q.2 3 1 ((p.bh ++ c.reverse.take (Po.eu p.most.toNat c)).map fun n=>[nI n]),.box b2 166 Ar,.box b1 166 (lH p)]) (fun q=>?_) (fun rest=>?_)
 ·obtain ⟨v8,v9⟩:=q;dsimp only;have nQ:(c.take (c.length - Po.eu p.most.toNat c)).length≤50000:=by simp;omega
  generalize c.take (c.length - Po.eu p.most.toNat c)=o at *;generalize p.bh ++ c.reverse.take (Po.eu p.most.toNat c)=m at *
  repeat (first | (refine K.store ?_;refine JO.ld (Ld.cZ rfl rfl (by exact rfl)) rfl (fun _=>?_)) | refine gn ?_)
  refine J.Jt 9 3 3 rfl rfl rfl ?_;refine J.draw (by kernel_rfl) rfl ?_;refine JW.yK (some 7) (.tmp 8) rfl ?_;refine tk 0 ?_;refine tk 1 ?_;refine tk 2 ?_;refine tk 3 ?_;refine jl 4 rfl rfl rfl rfl (Ld.fJ (qb rfl) rfl rfl rfl rfl rfl) .none (fun _=>?_);refine jl 5 rfl rfl rfl rfl (Ld.fz (qb rfl) rfl rfl .cY (by (simp;omega))) (.uI rfl) (fun _=>?_);refine jl 6 rfl rfl rfl rfl (Ld.pure (NK { p with bh:=m } g (o ++ [x]) hg (show p.ca.length≤100000 by omega)) (qb rfl) rfl (by repeat (first | exact aK.nil | refine aK.cons (dB.agg (by repeat (first | exact .nil | refine .cons .refl ?_))) ?_ | refine aK.cons dB.refl ?_ | refine aK.cons (dB.c lR.snoc) ?_))) .none (fun _=>?_);refine jt 7 rfl rfl (Ld.aX rfl rfl rfl (by exact rfl) (by exact rfl)) (fun _=>?_);refine JW.base none ?_;refine jk 8 rfl rfl rfl rfl (Qt.assign rfl) ?_;refine bt ?_
  repeat (fail)
  (refine J.ret func137 rfl (.cons (.cell 1 rfl rfl rfl) (.cons (.tmp rfl) .nil)) () (.of_eq ?_) [] .nil rfl rfl)
  rfl
 ·refine J.cond rfl (fun h=>?_) (fun h=>?_)
  ·have h0:(c.length:Int)=p.most:=by simpa using h
   have hp:Po.eu p.most.toNat c=c.length - p.most.toNat / 2:=by unfold Po.eu;rw [if_pos (by omega)]
   refine J.pull 1 rfl ?_;refine J.block ?_;refine J.loop (ι:={ q:Nat × Value × Value // q.1≤c.length - p.most.toNat / 2 }) (fun q=>[(8,.c (.v q.1.2.1)),(9,.c (.v q.1.2.2)),(1,.c (nI g)),(2,.c (nI x)),(3,.c (.v (.pointer (some ⟨b1,0,none⟩)))),(6,.c (.v (.pointer (some ⟨b2,0,none⟩))))]) (fun q=>[.row q.1.2.1 3 1 ((c.take (c.length - q.1.1)).map fun n=>[nI n]),.row q.1.2.2 3 1 ((p.bh ++ c.reverse.take q.1.1).map fun n=>[nI n]),.box b2 166 Ar,.box b1 166 (lH p)]) (fun q=>c.length - q.1.1) ⟨(0,vo,vm),by omega⟩ (fun X h=>J.fK (by simp;rfl) (h.aW ⟨rfl,rfl,rfl,rfl,rfl,rfl,trivial⟩)) (fun q ih=>?_);obtain ⟨⟨k,v,u⟩,hk⟩:=q;dsimp only at hk ⊢;have eo:((c.take (c.length - k)).map fun n=>[nI n]).length=c.length - k:=by simp
   by_cases tD:k < c.length - p.most.toNat / 2
   ·obtain ⟨y,y1,y2,y3⟩:=NL c (show k < c.length by omega);have w1:(decide ((((c.take (c.length - k)).map fun n=>[nI n]).length:Int) > ((p.most.toNat / 2:Nat):Int)))=true:=by rw [eo];simp;omega
    have y4:((c.take (c.length - k)).map fun n=>[nI n])[((((c.take (c.length - k)).map fun n=>[nI n]).length:Int) - 1).toNat]?=some [nI y]:=by
     rw [eo,show (((c.length - k:Nat):Int) - 1).toNat=c.length - (k + 1) by omega];exact at_map (by rw [List.getElem?_take,if_pos (by omega)];exact y1)
    have y5:(((c.take (c.length - k)).map fun n=>[nI n]).take ((((c.take (c.length - k)).map fun n=>[nI n]).length:Int) - 1).toNat).drop (0:Int).toNat=(c.take (c.length - (k + 1))).map fun n=>[nI n]:=by
     rw [eo,show (((c.length - k:Nat):Int) - 1).toNat=c.length - (k + 1) by omega,← List.map_take,List.take_take,Nat.min_eq_left (by omega)];rfl
    repeat (first | (refine K.load ?_;((refine jq rfl rfl rfl (Qt.cE rfl (y4) (by exact rfl)) ?_))) | (refine K.indexAddr ?_;refine jq rfl rfl rfl (Qt.bM rfl rfl (by omega) (by omega)) ?_) | (refine K.binOp ?_;refine jq rfl rfl rfl (Qt.quo rfl rfl (by decide) (hq)) ?_) | (refine K.slice ?_;refine JO.ld (Js (qb rfl) rfl rfl rfl (by (omega)) (by (omega)) (by (omega)) (y5)) rfl (fun _=>?_)) | (refine K.bi ?_;refine JO.ld (Ld.cA (qb rfl) rfl rfl .cY (by simp only [List.length_append,List.length_map,List.length_take,List.length_reverse,List.length_cons,List.length_nil];omega)) rfl (fun _=>?_)) | refine av ?_ | intro _)
    rename_i b5 u5 v5;refine J.eP 2 ?_;refine J.fK ?_ ((ih ⟨(k + 1,v5,u5),by omega⟩ (by simp only;omega)).aW ⟨rfl,rfl,rfl,rfl,rfl,rfl,trivial⟩);simp only [y2,List.map_append,List.append_assoc];rfl
   ·have aQ:k=Po.eu p.most.toNat c:=by omega
    have w1:(decide ((((c.take (c.length - k)).map fun n=>[nI n]).length:Int) > ((p.most.toNat / 2:Nat):Int)))=false:=by rw [eo];simp;omega
    refine J.seq (J.seq (J.region ?_))
    repeat (first | (refine K.binOp ?_;refine jq rfl rfl rfl (Qt.quo rfl rfl (by decide) (hq)) ?_) | refine wE ?_)
    refine JO.nil (J.gw rfl ?_)
    repeat (first | refine J.exit rfl ?_ | refine J.inBlock ?_)
    subst aQ;exact (rest (v,u)).aW ⟨rfl,rfl,rfl,rfl,rfl,rfl,trivial⟩
  ·have h0:¬ (c.length:Int)=p.most:=by simpa using h
   have hp:Po.eu p.most.toNat c=0:=by unfold Po.eu;rw [if_neg (by omega)]
   refine J.pull 1 rfl ?_;refine J.skip ?_;refine J.fK ?_ ((rest (vo,vm)).aW ⟨rfl,rfl,rfl,rfl,rfl,rfl,trivial⟩);rw [hp];simp;rfl
end Fl
open Go.RowKit
namespace Fl
open Sx Go.Proofs.Tryz
set_option maxRecDepth 100000
def mc (s:ah):jd:=⟨s.cV,s.bN,s.cache,s.middle,s.fresh⟩
def As (s:ah) (p:jd):ah:={ s with cache:=p.ca,middle:=p.bh,fresh:=p.fresh }
theorem Xq (s:ah) (g:Nat) (h1:1≤s.bN):aS s g=(As s ((mc s).take g).1,((mc s).take g).2.1,((mc s).take g).2.2):=by
 unfold aS jd.take mc;dsimp only
 by_cases h:Po.own s.bN.toNat (s.cache.getD g []) s.middle=[]
 ·obtain ⟨e1,e2⟩:=Po.JB (show 1≤s.bN.toNat by omega) h;have em:Po.bh s.bN.toNat (s.cache.getD g []) s.middle=s.middle:=by unfold Po.bh;rw [e2];simp
  rw [if_pos h,if_pos h,em]
  by_cases h2:s.fresh < s.cV
  ·rw [if_pos h2,if_pos h2];rfl
  ·rw [if_neg h2,if_neg h2];rfl
 ·rw [if_neg h,if_neg h];rfl
theorem Xr (s:ah) (x:Int):gG s x=oM (mc s) x:=by
 unfold gG oM uL mc;rw [List.contains_eq_mem]
theorem Xs (s:ah) (g:Nat) (x:Int):ez s g x=As s ((mc s).cq g x).1:=by
 unfold ez jd.cq;rw [Xr]
 by_cases h:oM (mc s) x=true
 ·rw [if_pos h,if_pos h];rfl
 ·rw [if_neg h,if_neg h];rfl
theorem NP (s:ah):Pure prog 138 [.agg (az s)] (.agg (lH (mc s))):=by
 refine ax.intro func138 rfl rfl rfl (fun ok e=>?_)
 repeat (first | refine av ?_ | intro _)
 exact aA func138
theorem NQ (s:ah) (p:jd):Pure prog 139 [.agg (az s),.agg (lH p)] (.agg (az (As s p))):=by
 refine ax.intro func139 rfl rfl rfl (fun ok e=>?_)
 repeat (first | refine av ?_ | intro _)
 exact aA func139
structure oN (s:ah):Prop where
 c1:s.cache.length≤50000
 c2:∀ g:Nat,(s.cache.getD g []).length≤50000
 c3:s.middle.length≤40000
 c4:(s.middle ++ s.cache.flatten).length≤100000
 c5:1≤s.bN∧s.bN≤100000
 c6:0≤s.fresh∧s.fresh≤100000
theorem NS (s:ah) (g:Nat) (hg:g < s.cache.length) (hb:oN s) :
  Pure prog 191 [.agg (az s),.c (nI g)] (.aZ [.agg (az (aS s g).1),.c (nI (aS s g).2.1),.c (bI (aS s g).2.2)]):=by
 rw [Xq s g hb.c5.1];refine ax.intro func191 rfl rfl rfl (fun ok e=>?_)
 repeat (first | refine aO (NP s) ?_ | refine aO (Xm (mc s) g hg (Nat.le_trans hb.c1 (by omega)) (Nat.le_trans (hb.c2 g) (by omega)) (Nat.le_trans hb.c3 (by omega)) hb.c5.1 hb.c5.2 hb.c6) ?_ | refine aO (NQ s ((mc s).take g).1) ?_ | refine av ?_ | intro _)
 exact aA func191
theorem NT (s:ah) (g:Nat) (x:Int) (hg:g < s.cache.length) (hb:oN s) (h0:0≤x) (hx:x < s.aC.length) (hs:s.aC.length≤100000) :
  Pure prog 88 [.agg (az s),.c (nI g),.c (nI x)] (.agg (az (Sx.cq s g x))):=by
 have er:Sx.cq s g x=aR (As s ((mc s).cq g x).1) x fj:=by unfold Sx.cq;rw [Xs]
 rw [er];refine ax.intro func88 rfl rfl rfl (fun ok e=>?_)
 repeat (first | refine aO (NP s) ?_ | refine aO (Xp (mc s) g x hg hb.c1 (hb.c2 g) hb.c3 hb.c4 hb.c5.1 hb.c5.2) ?_ | refine aO (NQ s ((mc s).cq g x).1) ?_ | refine aO (w8 (As s ((mc s).cq g x).1) x fj h0 hx hs) ?_ | refine av ?_ | intro _)
 exact aA func88
end Fl
open Go.RowKit
namespace Fl
open Sx Go.Proofs.Tryz
set_option maxRecDepth 100000
structure xH (s:ah) (g:Nat):Prop where
 lt:g < s.gs.length
 dh:0≤(aa s g).at_
 GO:Few s
 l4:(aa s g).place=4→aN s (ag s g).ch=true
 CY:(aa s g).place=12→aN s (ag s g).ch=true
 At:(aa s g).place=15→oN s∧g < s.cache.length∧0≤(aa s g).aH∧(aa s g).aH < s.aC.length
 Xt:(aa s g).place=16→aN s (ag s g).ch=true
 Au:(aa s g).place=17→∃ a l,(aa s g).an=a :: l∧0≤a∧a < s.gs.length∧l.length≤50000
theorem Xu (s:ah) (g:Int) (h0:0≤g) (hg:g < s.gs.length) (hb:s.gs.length≤100000) :
  Pure prog 90 [.agg (az s),.c (nI g)] (.agg (az (Sx.ready s g.toNat))):=by
 have:=UC s g.toNat (by omega) hb
 rwa [← NA h0] at this
theorem GP (s:ah) (g:Nat):(Sx.ready s g).gs.length=s.gs.length:=by simp [Sx.ready,ai]
theorem xI (s:ah) (g:Nat) (p:Int):(Sx.aI s g p).gs.length=s.gs.length:=by simp [Sx.aI,ai]
theorem Xv (s:ah) (ch:Int):(Sx.free s ch).gs=s.gs:=rfl
theorem CZ (s:ah) (g:Nat) (ch:Int):(Sx.tryLock s g ch).1.gs=s.gs:=by unfold Sx.tryLock;split <;> rfl
theorem Av (s:ah) (g:Nat) (x:Int):(Sx.cq s g x).gs=s.gs:=by unfold Sx.cq ez;split <;> rfl
theorem uh {s s':ah} (h:s'.gs=s.gs) (g:Nat):aa s' g=aa s g:=by unfold aa;rw [h]
theorem fN (s:ah) (g:Nat) (h:xH s g) :
  Pure prog 31 [.agg (az s),.c (nI g)] (.aZ [.agg (az (common s g).1),.c (bI (common s g).2)]):=by
 have hg:=h.lt;have hb:=h.GO.1;have dF:=h.GO.2.1;refine ax.intro func31 rfl rfl rfl (fun ok e=>?_);have C0:=dA s g hg h.dh
 cases p4:((aa s g).place == 4) with
 | true =>
  have e4:(aa s g).place=4:=by simpa using p4
  have hm:=h.l4 e4;have C1:=LN s g (ag s g).ch hm dF;have g2:g < (Sx.tryLock s g (ag s g).ch).1.gs.length:=by rw [CZ];exact hg
  have b2:(Sx.tryLock s g (ag s g).ch).1.gs.length≤100000:=by rw [CZ];exact hb
  cases ht:(Sx.tryLock s g (ag s g).ch).2 with
  | false =>
   have er:common s g=(s,true):=by unfold common;simp [e4,ht]
   rw [er];rw [ht] at C1
   repeat (first | refine av ?_ | intro _)
   exact aA func31
  | true =>
   rw [ht] at C1
   cases hk:((ag s g).kind == 6) with
   | true =>
    have ek:(ag s g).kind=6:=by simpa using hk
    have er:common s g=(Sx.aI (Sx.tryLock s g (ag s g).ch).1 g 21,true):=by unfold common;simp [e4,ht,ek]
    rw [er]
    repeat (first | refine aO (fM (Sx.tryLock s g (ag s g).ch).1 g 21 g2 b2) ?_ | refine av ?_ | intro _)
    exact aA func31
   | false =>
    have ek:¬ (ag s g).kind=6:=by simpa using hk
    have er:common s g=(Sx.aI (Sx.tryLock s g (ag s g).ch).1 g 5,true):=by unfold common;simp [e4,ht,ek]
    rw [er]
    repeat (first | refine aO (fM (Sx.tryLock s g (ag s g).ch).1 g 5 g2 b2) ?_ | refine av ?_ | intro _)
    exact aA func31
 | false =>
 have n4:¬ (aa s g).place=4:=by simpa using p4
 cases Aw:((aa s g).place == 12) with
 | true =>
  have sG:(aa s g).place=12:=by simpa using Aw
  have hm:=h.CY sG;have er:common s g=(Sx.aI (Sx.free s (ag s g).ch) g 13,true):=by unfold common;simp [sG]
  rw [er]
  repeat (first | refine aO (FH s (ag s g).ch hm dF) ?_ | refine aO (fM (Sx.free s (ag s g).ch) g 13 hg hb) ?_ | refine av ?_ | intro _)
  exact aA func31
 | false =>
 have GQ:¬ (aa s g).place=12:=by simpa using Aw
 cases Ax:((aa s g).place == 13) with
 | true =>
  have sH:(aa s g).place=13:=by simpa using Ax
  have er:common s g=(Sx.fA (Sx.aI s g 14) g,true):=by unfold common;simp [sH]
  rw [er]
  repeat (first | refine aO (fM s g 14 hg hb) ?_ | refine aO (LP (Sx.aI s g 14) g (by rw [xI];exact hg) (by rw [xI];exact hb)) ?_ | refine av ?_ | intro _)
  exact aA func31
 | false =>
 have GR:¬ (aa s g).place=13:=by simpa using Ax
 cases Ay:((aa s g).place == 15) with
 | true =>
  have sJ:(aa s g).place=15:=by simpa using Ay
  obtain ⟨f1,f2,f3,f4⟩:=h.At sJ;have er:common s g=(Sx.aI (ai (Sx.cq s g (aa s g).aH) g { aa s g with aH:=-1 }) g 18,true):=by unfold common;simp [sJ]
  rw [er]
  repeat (first | refine aO (NT s g (aa s g).aH f2 f1 f3 f4 h.GO.2.2) ?_ | refine aO (cP (Sx.cq s g (aa s g).aH) g { aa s g with aH:=-1 } (by rw [Av];exact hg) (by rw [Av];exact hb)) ?_ | refine aO (fM (ai (Sx.cq s g (aa s g).aH) g { aa s g with aH:=-1 }) g 18 (by rw [cr,Av];exact hg) (by rw [cr,Av];exact hb)) ?_ | refine av ?_ | intro _)
  exact aA func31
 | false =>
 have GU:¬ (aa s g).place=15:=by simpa using Ay
 cases Az:((aa s g).place == 16) with
 | true =>
  have sK:(aa s g).place=16:=by simpa using Az
  have hm:=h.Xt sK;have er:common s g=(Sx.an (Sx.free s (ag s g).ch) g,true):=by unfold common;simp [sK]
  rw [er]
  repeat (first | refine aO (FH s (ag s g).ch hm dF) ?_ | refine aO (zA (Sx.free s (ag s g).ch) g hg hb) ?_ | refine av ?_ | intro _)
  exact aA func31
 | false =>
 have GW:¬ (aa s g).place=16:=by simpa using Az
 cases AA:((aa s g).place == 17) with
 | true =>
  have pW:(aa s g).place=17:=by simpa using AA
  obtain ⟨a,l,f1,f2,f3,f4⟩:=h.Au pW;have er:common s g=(Sx.an (ai (Sx.ready s a.toNat) g { aa s g with an:=l }) g,true):=by unfold common;simp [pW,f1]
  rw [er];have w0:((aa s g).an.map fun n=>[nI n])[(0:Int).toNat]?=some [nI a]:=by rw [f1];rfl
  have w1:(((aa s g).an.map fun n=>[nI n]).take ((((aa s g).an.map fun n=>[nI n]).length:Int)).toNat).drop (1:Int).toNat=l.map fun n=>[nI n]:=by
   rw [f1];simp;exact List.take_of_length_le (by simp)
  have w2:(1:Int)≤(((aa s g).an.map fun n=>[nI n]).length:Int):=by rw [f1];simp;omega
  have w3:((Sx.ready s a.toNat).gs.length≤100000):=by rw [GP];exact hb
  repeat (first | refine av ?_ | intro _)
  refine J.draw (by kernel_rfl) rfl ?_;refine JW.base (some 6) ?_;refine tk 0 ?_;refine tk 1 ?_;refine tk 2 ?_;refine JD.take 3 rfl rfl (by kernel_rfl) rfl (qb rfl) (Qt.bw rfl rfl (by omega) w0) rfl ?_;refine tk 4 ?_;refine cW 5 (Xu s a f2 f3 hb) ?_;refine jt 6 rfl rfl (Ld.aX rfl rfl rfl (by exact rfl) (by exact rfl)) (fun _=>?_);refine bS ?_
  repeat (first | refine aO (cP (Sx.ready s a.toNat) g { aa s g with an:=l } (by rw [GP];exact hg) w3) ?_ | refine aO (zA (ai (Sx.ready s a.toNat) g { aa s g with an:=l }) g (by rw [cr,GP];exact hg) (by rw [cr];exact w3)) ?_ | (refine K.slice ?_;refine jq rfl rfl rfl ((Qt.qu rfl rfl rfl (by omega) (by omega) (by omega)).eq (congrArg (fun z=>D.c (A.r 1 z)) w1)) ?_) | (refine K.bi ?_;refine JO.ld (Ld.fz (qb rfl) rfl rfl .read (by (simp;omega))) rfl (fun _=>?_)) | refine av ?_ | intro _)
  exact aA func31
 | false =>
  have GX:¬ (aa s g).place=17:=by simpa using AA
  have er:common s g=(s,false):=by unfold common;simp [n4,GQ,GR,GU,GW,GX]
  rw [er]
  repeat (first | refine av ?_ | intro _)
  exact aA func31
end Fl
end Go.Proofs.YtofnbflkhgammaaGreat
