/-
  What the laws need, part A27.
  Conditions: none.
-/
import Derived.Test.YtofnbflkhgammaaGreatA26
set_option linter.unusedVariables false
set_option linter.unusedSimpArgs false
set_option linter.unnecessarySimpa false
set_option maxHeartbeats 2000000
namespace Go.Proofs.YtofnbflkhgammaaGreat
open Go.RowKit
namespace Fl
open Sx
set_option maxRecDepth 100000
def iN.bR (p:iN) (g:Nat) (x:Int):iN × Bool :=
 if oq p x=true then ({ p with ca:=p.ca.set g ((p.ca.getD g []).take ((p.ca.getD g []).length - Po.dS p.most.toNat (p.ca.getD g [])) ++ [x]),aW:=p.aW ++ (p.ca.getD g []).reverse.take (Po.dS p.most.toNat (p.ca.getD g [])) },true) else (p,false)
theorem W0 (p:iN) (g:Nat) (x:Int) (hg:g < p.ca.length) (hc:p.ca.length≤50000) (bQ:(p.ca.getD g []).length≤50000) (hm:p.aW.length≤40000) (ha:(p.aW ++ p.ca.flatten).length≤100000) (h1:1≤p.most) (h2:p.most≤100000) :
  Pure Tryz.prog 137 [.agg (kR p),.c (nI g),.c (nI x)] (.aV [.agg (kR (p.bR g x).1),.c (bI (p.bR g x).2)]):=by
 refine aq.intro Tryz.func137 rfl rfl rfl (fun ok e=>?_);have hq:IntKind.i64.wrap (p.most.tdiv 2)=((p.most.toNat / 2:Nat):Int):=by
  rw [Int.tdiv_eq_ediv_of_nonneg (by omega),fJ (by omega) (by omega)];omega
 have t1:(decide ((g:Int) < 0))=false:=by simp
 have t2:(decide ((g:Int) ≥ (p.ca.length:Int)))=false:=by simp;omega
 have hC:=WW p x ha (by omega)
 cases mK:oq p x with
 | false =>
  rw [mK] at hC;have er:p.bR g x=(p,false):=by unfold iN.bR;rw [mK];rfl
  rw [er]
  repeat (first | (refine K.store ?_;refine JO.ld (Ld.aP rfl rfl rfl (by exact rfl) (by exact rfl)) rfl (fun _=>?_)) | refine au ?_ | intro _)
  (refine J.ret Tryz.func137 rfl (.cons (.cell 0 rfl rfl rfl) (.cons (.tmp rfl) .nil)) () (.of_eq ?_) [] .nil rfl rfl)
  rfl
 | true =>
 rw [mK] at hC;have er:p.bR g x=({ p with ca:=p.ca.set g ((p.ca.getD g []).take ((p.ca.getD g []).length - Po.dS p.most.toNat (p.ca.getD g [])) ++ [x]),aW:=p.aW ++ (p.ca.getD g []).reverse.take (Po.dS p.most.toNat (p.ca.getD g [])) },true):=by unfold iN.bR;rw [if_pos mK]
 rw [er];clear er;generalize FO:p.ca.getD g []=c at *;have FP:p.ca[g]?=some c:=by rw [← FO];exact FN hg
 repeat (first | (refine K.indexAddr ?_;refine jx rfl rfl rfl rfl (by omega) (at_map (at_nat FP)) ?_) | (refine K.bi ?_;refine JO.ld (Ld.bY (qb rfl) rfl rfl .read (by (simp;omega))) rfl (fun _=>?_)) | refine au ?_ | intro _)
 rename_i b1 b2 WY vo WZ vm;refine J.join (ι:=Value × Value) (fun q=>[(8,.c (.v q.1)),(9,.c (.v q.2)),(1,.c (nI g)),(2,.c (nI x)),(3,.c (.v (.pointer (some ⟨b1,0,none⟩)))),(6,.c (.v (.pointer (some ⟨b2,0,none⟩))))]) (fun q=>[.row q.1 3 1 ((c.take (c.length - Po.dS p.most.toNat c)).map fun n=>[nI n]),.row q.2 3 1 ((p.aW ++ c.reverse.take (Po.dS p.most.toNat c)).map fun n=>[nI n]),.box b2 166 zg,.box b1 166 (kR p)]) (fun q=>?_) (fun rest=>?_)
 ·obtain ⟨v8,v9⟩:=q;dsimp only;have mh:(c.take (c.length - Po.dS p.most.toNat c)).length≤50000:=by simp;omega
  generalize c.take (c.length - Po.dS p.most.toNat c)=o at *;generalize p.aW ++ c.reverse.take (Po.dS p.most.toNat c)=m at *
  repeat (first | (refine K.store ?_;refine JO.ld (Ld.cG rfl rfl (by exact rfl)) rfl (fun _=>?_)) | refine gn ?_)
  refine J.Ht 9 3 3 rfl rfl rfl ?_;refine J.draw (by kernel_rfl) rfl ?_;refine JW.xA (some 7) (.tmp 8) rfl ?_;refine tk 0 ?_;refine tk 1 ?_;refine tk 2 ?_;refine tk 3 ?_;refine jl 4 rfl rfl rfl rfl (Ld.ff (qb rfl) rfl rfl rfl rfl rfl) .none (fun _=>?_);refine jl 5 rfl rfl rfl rfl (Ld.fK (qb rfl) rfl rfl .cR (by (simp;omega))) (.tS rfl) (fun _=>?_);refine jl 6 rfl rfl rfl rfl (Ld.pure (Mu { p with aW:=m } g (o ++ [x]) hg (show p.ca.length≤100000 by omega)) (qb rfl) rfl (by repeat (first | exact aL.nil | refine aL.cons (cQ.agg (by repeat (first | exact .nil | refine .cons .refl ?_))) ?_ | refine aL.cons cQ.refl ?_ | refine aL.cons (cQ.c kX.snoc) ?_))) .none (fun _=>?_);refine jt 7 rfl rfl (Ld.aP rfl rfl rfl (by exact rfl) (by exact rfl)) (fun _=>?_);refine JW.base none ?_;refine jk 8 rfl rfl rfl rfl (Qt.assign rfl) ?_;refine bH ?_
  repeat (fail)
  (refine J.ret Tryz.func137 rfl (.cons (.cell 1 rfl rfl rfl) (.cons (.tmp rfl) .nil)) () (.of_eq ?_) [] .nil rfl rfl)
  rfl
 ·refine J.cond rfl (fun h=>?_) (fun h=>?_)
  ·have h0:(c.length:Int)=p.most:=by simpa using h
   have hp:Po.dS p.most.toNat c=c.length - p.most.toNat / 2:=by unfold Po.dS;rw [if_pos (by omega)]
   refine J.pull 1 rfl ?_;refine J.block ?_;refine J.loop (ι:={ q:Nat × Value × Value // q.1≤c.length - p.most.toNat / 2 }) (fun q=>[(8,.c (.v q.1.2.1)),(9,.c (.v q.1.2.2)),(1,.c (nI g)),(2,.c (nI x)),(3,.c (.v (.pointer (some ⟨b1,0,none⟩)))),(6,.c (.v (.pointer (some ⟨b2,0,none⟩))))]) (fun q=>[.row q.1.2.1 3 1 ((c.take (c.length - q.1.1)).map fun n=>[nI n]),.row q.1.2.2 3 1 ((p.aW ++ c.reverse.take q.1.1).map fun n=>[nI n]),.box b2 166 zg,.box b1 166 (kR p)]) (fun q=>c.length - q.1.1) ⟨(0,vo,vm),by omega⟩ (fun X h=>J.dZ (by simp;rfl) (h.aU ⟨rfl,rfl,rfl,rfl,rfl,rfl,trivial⟩)) (fun q ih=>?_);obtain ⟨⟨k,v,u⟩,hk⟩:=q;dsimp only at hk ⊢;have eo:((c.take (c.length - k)).map fun n=>[nI n]).length=c.length - k:=by simp
   by_cases sF:k < c.length - p.most.toNat / 2
   ·obtain ⟨y,y1,y2,y3⟩:=Mv c (show k < c.length by omega);have w1:(decide ((((c.take (c.length - k)).map fun n=>[nI n]).length:Int) > ((p.most.toNat / 2:Nat):Int)))=true:=by rw [eo];simp;omega
    have y4:((c.take (c.length - k)).map fun n=>[nI n])[((((c.take (c.length - k)).map fun n=>[nI n]).length:Int) - 1).toNat]?=some [nI y]:=by
     rw [eo,show (((c.length - k:Nat):Int) - 1).toNat=c.length - (k + 1) by omega];exact at_map (by rw [List.getElem?_take,if_pos (by omega)];exact y1)
    have y5:(((c.take (c.length - k)).map fun n=>[nI n]).take ((((c.take (c.length - k)).map fun n=>[nI n]).length:Int) - 1).toNat).drop (0:Int).toNat=(c.take (c.length - (k + 1))).map fun n=>[nI n]:=by
     rw [eo,show (((c.length - k:Nat):Int) - 1).toNat=c.length - (k + 1) by omega,← List.map_take,List.take_take,Nat.min_eq_left (by omega)];rfl
    repeat (first | (refine K.load ?_;((refine jq rfl rfl rfl (Qt.cJ rfl (y4) (by exact rfl)) ?_))) | (refine K.indexAddr ?_;refine jq rfl rfl rfl (Qt.bF rfl rfl (by omega) (by omega)) ?_) | (refine K.binOp ?_;refine jq rfl rfl rfl (Qt.quo rfl rfl (by decide) (hq)) ?_) | (refine K.slice ?_;refine JO.ld (Hs (qb rfl) rfl rfl rfl (by (omega)) (by (omega)) (by (omega)) (y5)) rfl (fun _=>?_)) | (refine K.bi ?_;refine JO.ld (Ld.bY (qb rfl) rfl rfl .cR (by simp only [List.length_append,List.length_map,List.length_take,List.length_reverse,List.length_cons,List.length_nil];omega)) rfl (fun _=>?_)) | refine au ?_ | intro _)
    rename_i b5 u5 v5;refine J.eF 2 ?_;refine J.dZ ?_ ((ih ⟨(k + 1,v5,u5),by omega⟩ (by simp only;omega)).aU ⟨rfl,rfl,rfl,rfl,rfl,rfl,trivial⟩);simp only [y2,List.map_append,List.append_assoc];rfl
   ·have aR:k=Po.dS p.most.toNat c:=by omega
    have w1:(decide ((((c.take (c.length - k)).map fun n=>[nI n]).length:Int) > ((p.most.toNat / 2:Nat):Int)))=false:=by rw [eo];simp;omega
    refine J.seq (J.seq (J.region ?_))
    repeat (first | (refine K.binOp ?_;refine jq rfl rfl rfl (Qt.quo rfl rfl (by decide) (hq)) ?_) | refine vl ?_)
    refine JO.nil (J.ez rfl ?_)
    repeat (first | refine J.exit rfl ?_ | refine J.inBlock ?_)
    subst aR;exact (rest (v,u)).aU ⟨rfl,rfl,rfl,rfl,rfl,rfl,trivial⟩
  ·have h0:¬ (c.length:Int)=p.most:=by simpa using h
   have hp:Po.dS p.most.toNat c=0:=by unfold Po.dS;rw [if_neg (by omega)]
   refine J.pull 1 rfl ?_;refine J.skip ?_;refine J.dZ ?_ ((rest (vo,vm)).aU ⟨rfl,rfl,rfl,rfl,rfl,rfl,trivial⟩);rw [hp];simp;rfl
end Fl
open Go.RowKit
namespace Fl
open Sx
set_option maxRecDepth 100000
def lG (s:Sx.St):iN:=⟨s.dB,s.bN,s.cache,s.middle,s.fresh⟩
def zh (s:Sx.St) (p:iN):Sx.St:={ s with cache:=p.ca,middle:=p.aW,fresh:=p.fresh }
theorem W1 (s:Sx.St) (g:Nat) (h1:1≤s.bN):bu s g=(zh s ((lG s).take g).1,((lG s).take g).2.1,((lG s).take g).2.2):=by
 unfold bu iN.take lG;dsimp only
 by_cases h:Po.own s.bN.toNat (s.cache.getD g []) s.middle=[]
 ·obtain ⟨e1,e2⟩:=Po.HY (show 1≤s.bN.toNat by omega) h;have em:Po.aW s.bN.toNat (s.cache.getD g []) s.middle=s.middle:=by unfold Po.aW;rw [e2];simp
  rw [if_pos h,if_pos h,em]
  by_cases h2:s.fresh < s.dB
  ·rw [if_pos h2,if_pos h2];rfl
  ·rw [if_neg h2,if_neg h2];rfl
 ·rw [if_neg h,if_neg h];rfl
theorem W2 (s:Sx.St) (x:Int):gw s x=oq (lG s) x:=by
 unfold gw oq tU lG;rw [List.contains_eq_mem]
theorem W3 (s:Sx.St) (g:Nat) (x:Int):dU s g x=zh s ((lG s).bR g x).1:=by
 unfold dU iN.bR;rw [W2]
 by_cases h:oq (lG s) x=true
 ·rw [if_pos h,if_pos h];rfl
 ·rw [if_neg h,if_neg h];rfl
theorem My (s:Sx.St):Pure Tryz.prog 138 [.agg (ay s)] (.agg (kR (lG s))):=by
 refine aq.intro Tryz.func138 rfl rfl rfl (fun ok e=>?_)
 repeat (first | refine au ?_ | intro _)
 exact az Tryz.func138
theorem Mz (s:Sx.St) (p:iN):Pure Tryz.prog 139 [.agg (ay s),.agg (kR p)] (.agg (ay (zh s p))):=by
 refine aq.intro Tryz.func139 rfl rfl rfl (fun ok e=>?_)
 repeat (first | refine au ?_ | intro _)
 exact az Tryz.func139
structure ot (s:Sx.St):Prop where
 c1:s.cache.length≤50000
 c2:∀ g:Nat,(s.cache.getD g []).length≤50000
 c3:s.middle.length≤40000
 c4:(s.middle ++ s.cache.flatten).length≤100000
 c5:1≤s.bN∧s.bN≤100000
 c6:0≤s.fresh∧s.fresh≤100000
theorem MA (s:Sx.St) (g:Nat) (hg:g < s.cache.length) (hb:ot s) :
  Pure Tryz.prog 191 [.agg (ay s),.c (nI g)] (.aV [.agg (ay (bu s g).1),.c (nI (bu s g).2.1),.c (bI (bu s g).2.2)]):=by
 rw [W1 s g hb.c5.1];refine aq.intro Tryz.func191 rfl rfl rfl (fun ok e=>?_)
 repeat (first | refine aJ (My s) ?_ | refine aJ (WX (lG s) g hg (Nat.le_trans hb.c1 (by omega)) (Nat.le_trans (hb.c2 g) (by omega)) (Nat.le_trans hb.c3 (by omega)) hb.c5.1 hb.c5.2 hb.c6) ?_ | refine aJ (Mz s ((lG s).take g).1) ?_ | refine au ?_ | intro _)
 exact az Tryz.func191
theorem MB (s:Sx.St) (g:Nat) (x:Int) (hg:g < s.cache.length) (hb:ot s) (h0:0≤x) (hx:x < s.aB.length) (hs:s.aB.length≤100000) :
  Pure Tryz.prog 88 [.agg (ay s),.c (nI g),.c (nI x)] (.agg (ay (Sx.bR s g x))):=by
 have er:Sx.bR s g x=Sx.aF (zh s ((lG s).bR g x).1) x eI:=by unfold Sx.bR;rw [W3]
 rw [er];refine aq.intro Tryz.func88 rfl rfl rfl (fun ok e=>?_)
 repeat (first | refine aJ (My s) ?_ | refine aJ (W0 (lG s) g x hg hb.c1 (hb.c2 g) hb.c3 hb.c4 hb.c5.1 hb.c5.2) ?_ | refine aJ (Mz s ((lG s).bR g x).1) ?_ | refine aJ (wu (zh s ((lG s).bR g x).1) x eI h0 hx hs) ?_ | refine au ?_ | intro _)
 exact az Tryz.func88
end Fl
open Go.RowKit
namespace Fl
open Sx
set_option maxRecDepth 100000
structure wz (s:Sx.St) (g:Nat):Prop where
 lt:g < s.gs.length
 cY:0≤(Sx.gr s g).at_
 FQ:Few s
 l4:(Sx.gr s g).place=4→Sx.made s (Sx.op s g).ch=true
 BU:(Sx.gr s g).place=12→Sx.made s (Sx.op s g).ch=true
 BW:(Sx.gr s g).place=15→ot s∧g < s.cache.length∧0≤(Sx.gr s g).aK∧(Sx.gr s g).aK < s.aB.length
 W4:(Sx.gr s g).place=16→Sx.made s (Sx.op s g).ch=true
 BX:(Sx.gr s g).place=17→∃ a l,(Sx.gr s g).ah=a :: l∧0≤a∧a < s.gs.length∧l.length≤50000
theorem W5 (s:Sx.St) (g:Int) (h0:0≤g) (hg:g < s.gs.length) (hb:s.gs.length≤100000) :
  Pure Tryz.prog 90 [.agg (ay s),.c (nI g)] (.agg (ay (Sx.ready s g.toNat))):=by
 have:=Wf s g.toNat (by omega) hb
 rwa [← Mn h0] at this
theorem FT (s:Sx.St) (g:Nat):(Sx.ready s g).gs.length=s.gs.length:=by simp [Sx.ready,Sx.aa]
theorem wA (s:Sx.St) (g:Nat) (p:Int):(Sx.aE s g p).gs.length=s.gs.length:=by simp [Sx.aE,Sx.aa]
theorem W6 (s:Sx.St) (ch:Int):(Sx.free s ch).gs=s.gs:=rfl
theorem BY (s:Sx.St) (g:Nat) (ch:Int):(Sx.tryLock s g ch).1.gs=s.gs:=by unfold Sx.tryLock;split <;> rfl
theorem zi (s:Sx.St) (g:Nat) (x:Int):(Sx.bR s g x).gs=s.gs:=by unfold Sx.bR dU;split <;> rfl
theorem tv {s s':Sx.St} (h:s'.gs=s.gs) (g:Nat):Sx.gr s' g=Sx.gr s g:=by unfold Sx.gr;rw [h]
theorem fy (s:Sx.St) (g:Nat) (h:wz s g) :
  Pure Tryz.prog 31 [.agg (ay s),.c (nI g)] (.aV [.agg (ay (common s g).1),.c (bI (common s g).2)]):=by
 have hg:=h.lt;have hb:=h.FQ.1;have dz:=h.FQ.2.1;refine aq.intro Tryz.func31 rfl rfl rfl (fun ok e=>?_);have C0:=dj s g hg h.cY
 cases p4:((Sx.gr s g).place == 4) with
 | true =>
  have e4:(Sx.gr s g).place=4:=by simpa using p4
  have hm:=h.l4 e4;have C1:=Mc s g (Sx.op s g).ch hm dz;have g2:g < (Sx.tryLock s g (Sx.op s g).ch).1.gs.length:=by rw [BY];exact hg
  have b2:(Sx.tryLock s g (Sx.op s g).ch).1.gs.length≤100000:=by rw [BY];exact hb
  cases ht:(Sx.tryLock s g (Sx.op s g).ch).2 with
  | false =>
   have er:common s g=(s,true):=by unfold common;simp [e4,ht]
   rw [er];rw [ht] at C1
   repeat (first | refine au ?_ | intro _)
   exact az Tryz.func31
  | true =>
   rw [ht] at C1
   cases hk:((Sx.op s g).kind == 6) with
   | true =>
    have ek:(Sx.op s g).kind=6:=by simpa using hk
    have er:common s g=(Sx.aE (Sx.tryLock s g (Sx.op s g).ch).1 g 21,true):=by unfold common;simp [e4,ht,ek]
    rw [er]
    repeat (first | refine aJ (fG (Sx.tryLock s g (Sx.op s g).ch).1 g 21 g2 b2) ?_ | refine au ?_ | intro _)
    exact az Tryz.func31
   | false =>
    have ek:¬ (Sx.op s g).kind=6:=by simpa using hk
    have er:common s g=(Sx.aE (Sx.tryLock s g (Sx.op s g).ch).1 g 5,true):=by unfold common;simp [e4,ht,ek]
    rw [er]
    repeat (first | refine aJ (fG (Sx.tryLock s g (Sx.op s g).ch).1 g 5 g2 b2) ?_ | refine au ?_ | intro _)
    exact az Tryz.func31
 | false =>
 have n4:¬ (Sx.gr s g).place=4:=by simpa using p4
 cases zj:((Sx.gr s g).place == 12) with
 | true =>
  have rC:(Sx.gr s g).place=12:=by simpa using zj
  have hm:=h.BU rC;have er:common s g=(Sx.aE (Sx.free s (Sx.op s g).ch) g 13,true):=by unfold common;simp [rC]
  rw [er]
  repeat (first | refine aJ (FI s (Sx.op s g).ch hm dz) ?_ | refine aJ (fG (Sx.free s (Sx.op s g).ch) g 13 hg hb) ?_ | refine au ?_ | intro _)
  exact az Tryz.func31
 | false =>
 have FU:¬ (Sx.gr s g).place=12:=by simpa using zj
 cases zl:((Sx.gr s g).place == 13) with
 | true =>
  have rD:(Sx.gr s g).place=13:=by simpa using zl
  have er:common s g=(Sx.fh (Sx.aE s g 14) g,true):=by unfold common;simp [rD]
  rw [er]
  repeat (first | refine aJ (fG s g 14 hg hb) ?_ | refine aJ (Me (Sx.aE s g 14) g (by rw [wA];exact hg) (by rw [wA];exact hb)) ?_ | refine au ?_ | intro _)
  exact az Tryz.func31
 | false =>
 have FV:¬ (Sx.gr s g).place=13:=by simpa using zl
 cases zm:((Sx.gr s g).place == 15) with
 | true =>
  have rE:(Sx.gr s g).place=15:=by simpa using zm
  obtain ⟨f1,f2,f3,f4⟩:=h.BW rE;have er:common s g=(Sx.aE (Sx.aa (Sx.bR s g (Sx.gr s g).aK) g { Sx.gr s g with aK:=-1 }) g 18,true):=by unfold common;simp [rE]
  rw [er]
  repeat (first | refine aJ (MB s g (Sx.gr s g).aK f2 f1 f3 f4 h.FQ.2.2) ?_ | refine aJ (cE (Sx.bR s g (Sx.gr s g).aK) g { Sx.gr s g with aK:=-1 } (by rw [zi];exact hg) (by rw [zi];exact hb)) ?_ | refine aJ (fG (Sx.aa (Sx.bR s g (Sx.gr s g).aK) g { Sx.gr s g with aK:=-1 }) g 18 (by rw [bV,zi];exact hg) (by rw [bV,zi];exact hb)) ?_ | refine au ?_ | intro _)
  exact az Tryz.func31
 | false =>
 have FX:¬ (Sx.gr s g).place=15:=by simpa using zm
 cases zn:((Sx.gr s g).place == 16) with
 | true =>
  have rF:(Sx.gr s g).place=16:=by simpa using zn
  have hm:=h.W4 rF;have er:common s g=(Sx.ah (Sx.free s (Sx.op s g).ch) g,true):=by unfold common;simp [rF]
  rw [er]
  repeat (first | refine aJ (FI s (Sx.op s g).ch hm dz) ?_ | refine aJ (y9 (Sx.free s (Sx.op s g).ch) g hg hb) ?_ | refine au ?_ | intro _)
  exact az Tryz.func31
 | false =>
 have FY:¬ (Sx.gr s g).place=16:=by simpa using zn
 cases zo:((Sx.gr s g).place == 17) with
 | true =>
  have oY:(Sx.gr s g).place=17:=by simpa using zo
  obtain ⟨a,l,f1,f2,f3,f4⟩:=h.BX oY;have er:common s g=(Sx.ah (Sx.aa (Sx.ready s a.toNat) g { Sx.gr s g with ah:=l }) g,true):=by unfold common;simp [oY,f1]
  rw [er];have w0:((Sx.gr s g).ah.map fun n=>[nI n])[(0:Int).toNat]?=some [nI a]:=by rw [f1];rfl
  have w1:(((Sx.gr s g).ah.map fun n=>[nI n]).take ((((Sx.gr s g).ah.map fun n=>[nI n]).length:Int)).toNat).drop (1:Int).toNat=l.map fun n=>[nI n]:=by
   rw [f1];simp;exact List.take_of_length_le (by simp)
  have w2:(1:Int)≤(((Sx.gr s g).ah.map fun n=>[nI n]).length:Int):=by rw [f1];simp;omega
  have w3:((Sx.ready s a.toNat).gs.length≤100000):=by rw [FT];exact hb
  repeat (first | refine au ?_ | intro _)
  refine J.draw (by kernel_rfl) rfl ?_;refine JW.base (some 6) ?_;refine tk 0 ?_;refine tk 1 ?_;refine tk 2 ?_;refine JD.take 3 rfl rfl (by kernel_rfl) rfl (qb rfl) (Qt.cq rfl rfl (by omega) w0) rfl ?_;refine tk 4 ?_;refine cU 5 (W5 s a f2 f3 hb) ?_;refine jt 6 rfl rfl (Ld.aP rfl rfl rfl (by exact rfl) (by exact rfl)) (fun _=>?_);refine bJ ?_
  repeat (first | refine aJ (cE (Sx.ready s a.toNat) g { Sx.gr s g with ah:=l } (by rw [FT];exact hg) w3) ?_ | refine aJ (y9 (Sx.aa (Sx.ready s a.toNat) g { Sx.gr s g with ah:=l }) g (by rw [bV,FT];exact hg) (by rw [bV];exact w3)) ?_ | (refine K.slice ?_;refine jq rfl rfl rfl ((Qt.pK rfl rfl rfl (by omega) (by omega) (by omega)).eq (congrArg (fun z=>D.c (A.r 1 z)) w1)) ?_) | (refine K.bi ?_;refine JO.ld (Ld.fK (qb rfl) rfl rfl .read (by (simp;omega))) rfl (fun _=>?_)) | refine au ?_ | intro _)
  exact az Tryz.func31
 | false =>
  have FZ:¬ (Sx.gr s g).place=17:=by simpa using zo
  have er:common s g=(s,false):=by unfold common;simp [n4,FU,FV,FX,FY,FZ]
  rw [er]
  repeat (first | refine au ?_ | intro _)
  exact az Tryz.func31
end Fl
end Go.Proofs.YtofnbflkhgammaaGreat
