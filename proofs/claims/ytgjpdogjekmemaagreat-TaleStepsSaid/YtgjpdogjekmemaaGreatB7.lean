/-
  What the laws need, part B7.
  Conditions: none.
-/
import Derived.Test.YtgjpdogjekmemaaGreatB6
set_option linter.unusedVariables false
set_option linter.unusedSimpArgs false
set_option linter.unnecessarySimpa false
set_option maxHeartbeats 2000000
namespace Go.Proofs.YtgjpdogjekmemaaGreat
open Go.RowKit
namespace Fl
open Sx Go.Proofs.Tryz
set_option maxRecDepth 100000
def fY.take (p:fY) (g:Nat):fY × Int × Bool :=
 if Po.own p.most.toNat (p.ca.getD g []) p.aG=[] then
  (if p.fresh < p.size then ({ p with aG:=Po.aG p.most.toNat (p.ca.getD g []) p.aG,fresh:=p.fresh + 1 },p.fresh,true) else ({ p with aG:=Po.aG p.most.toNat (p.ca.getD g []) p.aG },0,false))
 else ({ p with ca:=p.ca.set g (Po.own p.most.toNat (p.ca.getD g []) p.aG).dropLast,aG:=Po.aG p.most.toNat (p.ca.getD g []) p.aG },(Po.own p.most.toNat (p.ca.getD g []) p.aG).getLastD 0,true)
theorem xQ {α:Type} {l:List α} {g:Nat} {d:α} (h:g < l.length):l[g]?=some (l.getD g d):=by
 rw [List.getD_eq_getElem?_getD,List.getElem?_eq_getElem h];rfl
theorem AJ (M:List Int) {k:Nat} (h:k < M.length):∃ y,M[M.length - (k + 1)]?=some y∧M.reverse.take (k + 1)=M.reverse.take k ++ [y]∧M.take (M.length - k)=M.take (M.length - (k + 1)) ++ [y]:=by
 refine ⟨M[M.length - (k + 1)]'(by omega),List.getElem?_eq_getElem (by omega),?_,?_⟩
 ·rw [List.take_add_one,List.getElem?_reverse h,show M.length - 1 - k=M.length - (k + 1) by omega,List.getElem?_eq_getElem (by omega)];rfl
 ·have e:M.length - k=M.length - (k + 1) + 1:=by omega
  rw [e,List.take_add_one,List.getElem?_eq_getElem (by omega)];rfl
theorem AK {l:List Int} (h:l≠[]):l[l.length - 1]?=some (l.getLastD 0):=by
 cases l with
 | nil=>exact absurd rfl h
 | cons a l=>rw [List.getLastD_eq_getLast?,List.getLast?_eq_getElem?];simp
theorem AL {l:List Int} {f:Int→List A} {n:Nat} {m:Int} (h:m=n):((l.map f).take m.toNat).drop (0:Int).toNat=(l.take n).map f:=by
 subst h;simp
def sK:List A:=vs [.int .i64 0,.int .i64 0,.slice none 0 0,.slice none 0 0,.int .i64 0]
theorem F6 (p:fY) (g:Nat) (hg:g < p.ca.length) (hc:p.ca.length≤100000) (bZ:(p.ca.getD g []).length≤100000) (hm:p.aG.length≤100000) (h1:1≤p.most) (h2:p.most≤100000) (hf:0≤p.fresh∧p.fresh≤100000) :
  Pure prog 169 [.agg (iR p),.c (nI g)] (.aU [.agg (iR (p.take g).1),.c (nI (p.take g).2.1),.c (bI (p.take g).2.2)]):=by
 refine aA.intro func169 rfl rfl rfl (fun ok e=>?_);have hq:IntKind.i64.wrap (p.most.tdiv 2)=((p.most.toNat / 2:Nat):Int):=by
  rw [Int.tdiv_eq_ediv_of_nonneg (by omega),aV (by omega) (by omega)];omega
 have t1:(decide ((g:Int) < 0))=false:=by simp
 have t2:(decide ((g:Int) ≥ (p.ca.length:Int)))=false:=by simp;omega
 unfold fY.take;generalize xR:p.ca.getD g []=c at *;have xS:p.ca[g]?=some c:=by rw [← xR];exact xQ hg
 repeat (first | (refine K.indexAddr ?_;refine jx rfl rfl rfl rfl (by omega) (at_map (at_nat xS)) ?_) | (refine K.bi ?_;refine JO.ld (Ld.bO (qb rfl) rfl rfl .read (by (simp;omega))) rfl (fun _=>?_)) | refine au ?_ | intro _)
 rename_i b1 b2 F7 vo F8 vm;refine J.join (ι:=Unit) (fun _=>[(7,.c (ints (Po.own p.most.toNat c p.aG))),(8,.c (ints (Po.aG p.most.toNat c p.aG))),(1,.c (nI g)),(2,.c (.v (.pointer (some ⟨b1,0,none⟩)))),(4,.c (.v (.pointer (some ⟨b2,0,none⟩))))]) (fun _=>[.box b2 204 sK,.box b1 204 (iR p)]) (fun _=>?_) (fun rest=>?_)
 ·have me:(Po.own p.most.toNat c p.aG).length≤200000:=by
   unfold Po.own;simp only [List.length_append,List.length_take,List.length_reverse];omega
  generalize Po.own p.most.toNat c p.aG=o at *;generalize Po.aG p.most.toNat c p.aG=m at *
  by_cases ho:o=[]
  ·have u1:(decide ((o.length:Int) > 0))=false:=by simp [ho]
   rw [if_pos ho]
   cases u2:decide (p.fresh < p.size) with
   | true =>
    have u3:p.fresh < p.size:=by simpa using u2
    rw [if_pos u3]
    repeat (first | (refine K.store ?_;refine JO.ld (Ld.cW rfl rfl (by exact rfl)) rfl (fun _=>?_)) | refine gn ?_)
    refine J.draw (by kernel_rfl) rfl ?_;refine JW.iu none (.tmp 4) rfl ?_;refine tk 0 ?_;refine tk 1 ?_;refine tk 2 ?_;refine JD.take 3 rfl rfl (by kernel_rfl) rfl (qb rfl) (Qt.aD rfl rfl rfl (aV (by omega) (by omega))) rfl ?_;refine JD.cE (i:=4) (by kernel_rfl) ?_
    (refine JS.st rfl rfl rfl (Ld.bu rfl rfl rfl (by exact rfl) (by exact rfl)) (.uA rfl) (fun _=>?_))
    refine tk 5 ?_;refine tk 6 ?_;refine aX ?_
    repeat (fail)
    (refine J.ret func169 rfl (.cons (.cell 0 rfl rfl rfl) (.cons (.tmp rfl) (.cons (.tmp rfl) .nil))) () (.of_eq ?_) [] .nil rfl rfl)
    show D.aU [D.agg [nI p.size,nI p.most,_,ints m,nI (p.fresh + 1)],D.c (nI (p.fresh + 1 - 1)),_]=_;rw [show p.fresh + 1 - 1=p.fresh by omega];rfl
   | false =>
    have u3:¬ p.fresh < p.size:=by simpa using u2
    rw [if_neg u3]
    repeat (first | (refine K.store ?_;first | refine JO.ld (Ld.bu rfl rfl rfl (by exact rfl) (by exact rfl)) rfl (fun _=>?_) | refine JO.ld (Ld.cW rfl rfl (by exact rfl)) rfl (fun _=>?_)) | refine gn ?_)
    (refine J.ret func169 rfl (.cons (.cell 0 rfl rfl rfl) (.cons (.tmp rfl) (.cons (.tmp rfl) .nil))) () (.of_eq ?_) [] .nil rfl rfl)
    rfl
  ·have Mv:1≤o.length:=List.length_pos_iff.2 ho;have u1:(decide ((o.length:Int) > 0))=true:=by simp;omega
   have hcut:((o.map fun n=>[nI n]).take ((o.length:Int) - 1).toNat).drop (0:Int).toNat=o.dropLast.map fun n=>[nI n]:=by
    rw [show ((o.length:Int) - 1).toNat=o.length - 1 by omega,List.dropLast_eq_take];simp
   rw [if_neg ho]
   repeat (first | (refine K.store ?_;refine JO.ld (Ld.cW rfl rfl (by exact rfl)) rfl (fun _=>?_)) | (refine K.indexAddr ?_;refine jx rfl rfl rfl rfl (by omega) (at_map (show o[((o.length:Int) - 1).toNat]?=some (o.getLastD 0) by rw [show ((o.length:Int) - 1).toNat=o.length - 1 by omega];exact AK ho)) ?_) | refine gn ?_)
   refine J.draw (by kernel_rfl) rfl ?_;refine JW.iu none (.tmp 4) rfl ?_;refine tk 0 ?_;refine tk 1 ?_;refine tk 2 ?_;refine tk 3 ?_;refine tk 4 ?_;refine JD.take 5 rfl rfl (by kernel_rfl) rfl (qb rfl) (Qt.aD rfl rfl rfl (aV (by omega) (by omega))) rfl ?_;refine JD.take 6 rfl rfl (by kernel_rfl) rfl (qb rfl) ((Qt.j7 rfl rfl rfl (by omega) (by omega) (by simp;omega)).eq (congrArg (fun z=>D.c (A.r 1 z)) hcut)) rfl ?_;refine tk 8 ?_;refine cz 7 (AI { p with aG:=m } g o.dropLast hg hc) ?_;refine JD.cE (i:=9) (by kernel_rfl) ?_
   (refine JS.st rfl rfl rfl (Ld.bu rfl rfl rfl (by exact rfl) (by exact rfl)) (.uA rfl) (fun _=>?_))
   refine jk 10 rfl rfl rfl rfl (Qt.assign rfl) ?_;refine jk 11 rfl rfl rfl rfl (Qt.assign rfl) ?_;refine aX ?_
   repeat (fail)
   (refine J.ret func169 rfl (.cons (.cell 0 rfl rfl rfl) (.cons (.tmp rfl) (.cons (.tmp rfl) .nil))) () (.of_eq ?_) [] .nil rfl rfl)
   rfl
 ·refine J.cond rfl (fun h=>?_) (fun h=>?_)
  ·have h0:c=[]:=by simpa using h
   have Mw:1≤Po.room p.most.toNat:=by unfold Po.room;omega
   have iq:p.most.toNat / 2≤Po.room p.most.toNat:=by unfold Po.room;omega
   have Mx:Po.room p.most.toNat≤1∨Po.room p.most.toNat≤p.most.toNat / 2:=by unfold Po.room;omega
   have e8:A.r 1 ([] ++ p.aG.map fun n=>[nI n])=ints (p.aG.take (p.aG.length - 0)):=by simp;rfl
   refine J.gy 8 rfl ?_;refine J.block ?_;refine J.loop (ι:={ q:Nat × Value // q.1≤p.aG.length∧q.1≤Po.room p.most.toNat }) (fun q=>[(7,.c (.v q.1.2)),(8,.c (ints (p.aG.take (p.aG.length - q.1.1)))),(1,.c (nI g)),(2,.c (.v (.pointer (some ⟨b1,0,none⟩)))),(4,.c (.v (.pointer (some ⟨b2,0,none⟩))))]) (fun q=>[.row q.1.2 3 1 ((p.aG.reverse.take q.1.1).map fun n=>[nI n]),.box b2 204 sK,.box b1 204 (iR p)]) (fun q=>p.aG.length - q.1.1) ⟨(0,vo),by omega,by omega⟩ (fun X h=>J.bq (by simp [h0];rfl) (h.aF ⟨rfl,congrArg (fun z=>some (D.c z)) e8,rfl,rfl,rfl,trivial⟩)) (fun q ih=>?_);obtain ⟨⟨k,v⟩,aZ,gj⟩:=q;dsimp only at aZ gj ⊢;have em:(p.aG.take (p.aG.length - k)).length=p.aG.length - k:=by simp
   have eo:((p.aG.reverse.take k).map fun n=>[nI n]).length=k:=by simp;omega
   by_cases sL:k < p.aG.length∧k < Po.room p.most.toNat
   ·obtain ⟨y,y1,y2,y3⟩:=AJ p.aG sL.1;have w1:(decide (((p.aG.take (p.aG.length - k)).length:Int) > 0))=true:=by rw [em];simp;omega
    have y4:(p.aG.take (p.aG.length - k))[(((p.aG.take (p.aG.length - k)).length:Int) - 1).toNat]?=some y:=by
     rw [em,show (((p.aG.length - k:Nat):Int) - 1).toNat=p.aG.length - (k + 1) by omega,List.getElem?_take,if_pos (by omega)];exact y1
    have y5:(((p.aG.take (p.aG.length - k)).map fun n=>[nI n]).take (((p.aG.take (p.aG.length - k)).length:Int) - 1).toNat).drop (0:Int).toNat=(p.aG.take (p.aG.length - (k + 1))).map fun n=>[nI n]:=by
     rw [em,show (((p.aG.length - k:Nat):Int) - 1).toNat=p.aG.length - (k + 1) by omega,← List.map_take,List.take_take,Nat.min_eq_left (by omega)];rfl
    refine J.seq ?_;refine J.join (ι:=Unit) (fun _=>[(7,.c (.v v)),(8,.c (ints (p.aG.take (p.aG.length - k)))),(1,.c (nI g)),(2,.c (.v (.pointer (some ⟨b1,0,none⟩)))),(4,.c (.v (.pointer (some ⟨b2,0,none⟩))))]) (fun _=>[.row v 3 1 ((p.aG.reverse.take k).map fun n=>[nI n]),.box b2 204 sK,.box b1 204 (iR p)]) (fun _=>?_) (fun AM=>?_)
    ·repeat (first | (refine K.indexAddr ?_;refine jx rfl rfl rfl rfl (by omega) (at_map y4) ?_) | (refine K.slice ?_;refine jq rfl rfl rfl ((Qt.j7 rfl rfl rfl (by omega) (by omega) (by simp only [List.length_map];omega)).eq (congrArg (fun z=>D.c (A.r 1 z)) y5)) ?_) | (refine K.bi ?_;refine JO.ld (Ld.bO (qb rfl) rfl rfl .cX (by simp only [List.length_append,List.length_map,List.length_take,List.length_reverse,List.length_cons,List.length_nil];omega)) rfl (fun _=>?_)) | refine au ?_ | intro _)
     rename_i b7 v7;refine J.drop 1 ?_;refine J.bq ?_ ((ih ⟨(k + 1,v7),by omega,by omega⟩ (by simp only;omega)).aF ⟨rfl,rfl,rfl,rfl,rfl,trivial⟩);simp only [y2,List.map_append];rfl
    ·refine J.seq ?_;refine J.region ?_
     cases w2:decide ((((p.aG.reverse.take k).map fun n=>[nI n]).length:Int) < ((p.most.toNat / 2:Nat):Int)) with
     | true =>
      repeat (first | (refine K.binOp ?_;refine jq rfl rfl rfl (Qt.quo rfl rfl (by decide) (hq)) ?_) | refine r8 ?_)
      refine JO.nil (J.eZ rfl (J.skip ?_));exact (AM ()).aF ⟨rfl,rfl,rfl,rfl,rfl,trivial⟩
     | false =>
      have w3:(decide ((((p.aG.reverse.take k).map fun n=>[nI n]).length:Int) < 1))=true:=by
       rw [eo] at w2 ⊢;simp at w2 ⊢;omega
      repeat (first | (refine K.binOp ?_;refine jq rfl rfl rfl (Qt.quo rfl rfl (by decide) (hq)) ?_) | refine r8 ?_)
      refine JO.nil (J.eZ rfl (J.skip ?_));exact (AM ()).aF ⟨rfl,rfl,rfl,rfl,rfl,trivial⟩
   ·have e1:p.aG.reverse.take k=Po.own p.most.toNat c p.aG:=by
     unfold Po.own Po.mF;rw [if_pos h0,h0,List.nil_append];congr 1;omega
    have e2:p.aG.take (p.aG.length - k)=Po.aG p.most.toNat c p.aG:=by
     unfold Po.aG Po.mF;rw [if_pos h0];congr 2;omega
    refine J.seq (J.seq (J.region ?_))
    cases w1:decide (((p.aG.take (p.aG.length - k)).length:Int) > 0) with
    | false =>
     repeat (refine r8 ?_)
     refine JO.nil (J.eK rfl ?_)
     repeat (first | refine J.exit rfl ?_ | refine J.inBlock ?_)
     refine J.gy 7 rfl ?_;exact (rest ()).aF ⟨congrArg (fun z=>some (D.c (ints z))) e1,congrArg (fun z=>some (D.c (ints z))) e2,rfl,rfl,rfl,trivial⟩
    | true =>
     have w2:decide ((((p.aG.reverse.take k).map fun n=>[nI n]).length:Int) < ((p.most.toNat / 2:Nat):Int))=false:=by
      rw [eo];rw [em] at w1;simp at w1 ⊢;omega
     have w3:(decide ((((p.aG.reverse.take k).map fun n=>[nI n]).length:Int) < 1))=false:=by
      rw [eo];rw [em] at w1;simp at w1 ⊢;omega
     repeat (first | (refine K.binOp ?_;refine jq rfl rfl rfl (Qt.quo rfl rfl (by decide) (hq)) ?_) | refine r8 ?_)
     refine JO.nil (J.eK rfl ?_)
     repeat (first | refine J.exit rfl ?_ | refine J.inBlock ?_)
     refine J.gy 7 rfl ?_;exact (rest ()).aF ⟨congrArg (fun z=>some (D.c (ints z))) e1,congrArg (fun z=>some (D.c (ints z))) e2,rfl,rfl,rfl,trivial⟩
  ·have h0:c≠[]:=by simpa using h
   have e1:Po.own p.most.toNat c p.aG=c:=by unfold Po.own Po.mF;rw [if_neg h0];simp
   have e2:Po.aG p.most.toNat c p.aG=p.aG:=by unfold Po.aG Po.mF;rw [if_neg h0];simp
   refine J.gy 7 rfl ?_;refine J.gy 8 rfl ?_;refine J.skip ?_;exact (rest ()).aF ⟨congrArg (fun z=>some (D.c (ints z))) e1.symm,congrArg (fun z=>some (D.c (ints z))) e2.symm,rfl,rfl,rfl,trivial⟩
end Fl
open Go.RowKit
namespace Fl
open Sx Go.Proofs.Tryz
set_option maxRecDepth 100000
def fY.cL (p:fY) (g:Nat) (x:Int):fY × Bool :=
 if kq p x=true then ({ p with ca:=p.ca.set g ((p.ca.getD g []).take ((p.ca.getD g []).length - Po.dZ p.most.toNat (p.ca.getD g [])) ++ [x]),aG:=p.aG ++ (p.ca.getD g []).reverse.take (Po.dZ p.most.toNat (p.ca.getD g [])) },true) else (p,false)
theorem F9 (p:fY) (g:Nat) (x:Int) (hg:g < p.ca.length) (hc:p.ca.length≤50000) (bZ:(p.ca.getD g []).length≤50000) (hm:p.aG.length≤40000) (ha:(p.aG ++ p.ca.flatten).length≤100000) (h1:1≤p.most) (h2:p.most≤100000) :
  Pure prog 166 [.agg (iR p),.c (nI g),.c (nI x)] (.aU [.agg (iR (p.cL g x).1),.c (bI (p.cL g x).2)]):=by
 refine aA.intro func166 rfl rfl rfl (fun ok e=>?_);have hq:IntKind.i64.wrap (p.most.tdiv 2)=((p.most.toNat / 2:Nat):Int):=by
  rw [Int.tdiv_eq_ediv_of_nonneg (by omega),aV (by omega) (by omega)];omega
 have t1:(decide ((g:Int) < 0))=false:=by simp
 have t2:(decide ((g:Int) ≥ (p.ca.length:Int)))=false:=by simp;omega
 have hC:=F0 p x ha (by omega)
 cases uR:kq p x with
 | false =>
  rw [uR] at hC;have er:p.cL g x=(p,false):=by unfold fY.cL;rw [uR];rfl
  rw [er]
  repeat (first | (refine K.store ?_;refine JO.ld (Ld.bu rfl rfl rfl (by exact rfl) (by exact rfl)) rfl (fun _=>?_)) | refine au ?_ | intro _)
  (refine J.ret func166 rfl (.cons (.cell 0 rfl rfl rfl) (.cons (.tmp rfl) .nil)) () (.of_eq ?_) [] .nil rfl rfl)
  rfl
 | true =>
 rw [uR] at hC;have er:p.cL g x=({ p with ca:=p.ca.set g ((p.ca.getD g []).take ((p.ca.getD g []).length - Po.dZ p.most.toNat (p.ca.getD g [])) ++ [x]),aG:=p.aG ++ (p.ca.getD g []).reverse.take (Po.dZ p.most.toNat (p.ca.getD g [])) },true):=by unfold fY.cL;rw [if_pos uR]
 rw [er];clear er;generalize xR:p.ca.getD g []=c at *;have xS:p.ca[g]?=some c:=by rw [← xR];exact xQ hg
 repeat (first | (refine K.indexAddr ?_;refine jx rfl rfl rfl rfl (by omega) (at_map (at_nat xS)) ?_) | (refine K.bi ?_;refine JO.ld (Ld.bO (qb rfl) rfl rfl .read (by (simp;omega))) rfl (fun _=>?_)) | refine au ?_ | intro _)
 rename_i b1 b2 F7 vo F8 vm;refine J.join (ι:=Value × Value) (fun q=>[(8,.c (.v q.1)),(9,.c (.v q.2)),(1,.c (nI g)),(2,.c (nI x)),(3,.c (.v (.pointer (some ⟨b1,0,none⟩)))),(6,.c (.v (.pointer (some ⟨b2,0,none⟩))))]) (fun q=>[.row q.1 3 1 ((c.take (c.length - Po.dZ p.most.toNat c)).map fun n=>[nI n]),.row q.2 3 1 ((p.aG ++ c.reverse.take (Po.dZ p.most.toNat c)).map fun n=>[nI n]),.box b2 204 sK,.box b1 204 (iR p)]) (fun q=>?_) (fun rest=>?_)
 ·obtain ⟨v8,v9⟩:=q;dsimp only;have me:(c.take (c.length - Po.dZ p.most.toNat c)).length≤50000:=by simp;omega
  generalize c.take (c.length - Po.dZ p.most.toNat c)=o at *;generalize p.aG ++ c.reverse.take (Po.dZ p.most.toNat c)=m at *
  repeat (first | (refine K.store ?_;refine JO.ld (Ld.cW rfl rfl (by exact rfl)) rfl (fun _=>?_)) | refine gn ?_)
  refine J.ES 9 3 3 rfl rfl rfl ?_;refine J.draw (by kernel_rfl) rfl ?_;refine JW.iu (some 7) (.tmp 8) rfl ?_;refine tk 0 ?_;refine tk 1 ?_;refine tk 2 ?_;refine tk 3 ?_;refine jl 4 rfl rfl rfl rfl (Ld.dK (qb rfl) rfl rfl rfl rfl rfl) .none (fun _=>?_);refine jl 5 rfl rfl rfl rfl (Ld.dU (qb rfl) rfl rfl .cX (by (simp;omega))) (.cK rfl) (fun _=>?_);refine jl 6 rfl rfl rfl rfl (Ld.pure (AI { p with aG:=m } g (o ++ [x]) hg (show p.ca.length≤100000 by omega)) (qb rfl) rfl (by repeat (first | exact bR.nil | refine bR.cons (dm.agg (by repeat (first | exact .nil | refine .cons .refl ?_))) ?_ | refine bR.cons dm.refl ?_ | refine bR.cons (dm.c jr.snoc) ?_))) .none (fun _=>?_);refine jt 7 rfl rfl (Ld.bu rfl rfl rfl (by exact rfl) (by exact rfl)) (fun _=>?_);refine JW.base none ?_;refine jk 8 rfl rfl rfl rfl (Qt.assign rfl) ?_;refine aX ?_
  repeat (fail)
  (refine J.ret func166 rfl (.cons (.cell 1 rfl rfl rfl) (.cons (.tmp rfl) .nil)) () (.of_eq ?_) [] .nil rfl rfl)
  rfl
 ·refine J.cond rfl (fun h=>?_) (fun h=>?_)
  ·have h0:(c.length:Int)=p.most:=by simpa using h
   have hp:Po.dZ p.most.toNat c=c.length - p.most.toNat / 2:=by unfold Po.dZ;rw [if_pos (by omega)]
   refine J.pull 1 rfl ?_;refine J.block ?_;refine J.loop (ι:={ q:Nat × Value × Value // q.1≤c.length - p.most.toNat / 2 }) (fun q=>[(8,.c (.v q.1.2.1)),(9,.c (.v q.1.2.2)),(1,.c (nI g)),(2,.c (nI x)),(3,.c (.v (.pointer (some ⟨b1,0,none⟩)))),(6,.c (.v (.pointer (some ⟨b2,0,none⟩))))]) (fun q=>[.row q.1.2.1 3 1 ((c.take (c.length - q.1.1)).map fun n=>[nI n]),.row q.1.2.2 3 1 ((p.aG ++ c.reverse.take q.1.1).map fun n=>[nI n]),.box b2 204 sK,.box b1 204 (iR p)]) (fun q=>c.length - q.1.1) ⟨(0,vo,vm),by omega⟩ (fun X h=>J.bq (by simp;rfl) (h.aF ⟨rfl,rfl,rfl,rfl,rfl,rfl,trivial⟩)) (fun q ih=>?_);obtain ⟨⟨k,v,u⟩,hk⟩:=q;dsimp only at hk ⊢;have eo:((c.take (c.length - k)).map fun n=>[nI n]).length=c.length - k:=by simp
   by_cases sL:k < c.length - p.most.toNat / 2
   ·obtain ⟨y,y1,y2,y3⟩:=AJ c (show k < c.length by omega);have w1:(decide ((((c.take (c.length - k)).map fun n=>[nI n]).length:Int) > ((p.most.toNat / 2:Nat):Int)))=true:=by rw [eo];simp;omega
    have y4:((c.take (c.length - k)).map fun n=>[nI n])[((((c.take (c.length - k)).map fun n=>[nI n]).length:Int) - 1).toNat]?=some [nI y]:=by
     rw [eo,show (((c.length - k:Nat):Int) - 1).toNat=c.length - (k + 1) by omega];exact at_map (by rw [List.getElem?_take,if_pos (by omega)];exact y1)
    have y5:(((c.take (c.length - k)).map fun n=>[nI n]).take ((((c.take (c.length - k)).map fun n=>[nI n]).length:Int) - 1).toNat).drop (0:Int).toNat=(c.take (c.length - (k + 1))).map fun n=>[nI n]:=by
     rw [eo,show (((c.length - k:Nat):Int) - 1).toNat=c.length - (k + 1) by omega,← List.map_take,List.take_take,Nat.min_eq_left (by omega)];rfl
    repeat (first | (refine K.load ?_;((refine jq rfl rfl rfl (Qt.rF rfl (y4) (by exact rfl)) ?_))) | (refine K.indexAddr ?_;refine jq rfl rfl rfl (Qt.aN rfl rfl (by omega) (by omega)) ?_) | (refine K.binOp ?_;refine jq rfl rfl rfl (Qt.quo rfl rfl (by decide) (hq)) ?_) | (refine K.slice ?_;refine JO.ld (EN (qb rfl) rfl rfl rfl (by (omega)) (by (omega)) (by (omega)) (y5)) rfl (fun _=>?_)) | (refine K.bi ?_;refine JO.ld (Ld.bO (qb rfl) rfl rfl .cX (by simp only [List.length_append,List.length_map,List.length_take,List.length_reverse,List.length_cons,List.length_nil];omega)) rfl (fun _=>?_)) | refine au ?_ | intro _)
    rename_i b5 u5 v5;refine J.ep 2 ?_;refine J.bq ?_ ((ih ⟨(k + 1,v5,u5),by omega⟩ (by simp only;omega)).aF ⟨rfl,rfl,rfl,rfl,rfl,rfl,trivial⟩);simp only [y2,List.map_append,List.append_assoc];rfl
   ·have gj:k=Po.dZ p.most.toNat c:=by omega
    have w1:(decide ((((c.take (c.length - k)).map fun n=>[nI n]).length:Int) > ((p.most.toNat / 2:Nat):Int)))=false:=by rw [eo];simp;omega
    refine J.seq (J.seq (J.region ?_))
    repeat (first | (refine K.binOp ?_;refine jq rfl rfl rfl (Qt.quo rfl rfl (by decide) (hq)) ?_) | refine r8 ?_)
    refine JO.nil (J.eK rfl ?_)
    repeat (first | refine J.exit rfl ?_ | refine J.inBlock ?_)
    subst gj;exact (rest (v,u)).aF ⟨rfl,rfl,rfl,rfl,rfl,rfl,trivial⟩
  ·have h0:¬ (c.length:Int)=p.most:=by simpa using h
   have hp:Po.dZ p.most.toNat c=0:=by unfold Po.dZ;rw [if_neg (by omega)]
   refine J.pull 1 rfl ?_;refine J.skip ?_;refine J.bq ?_ ((rest (vo,vm)).aF ⟨rfl,rfl,rfl,rfl,rfl,rfl,trivial⟩);rw [hp];simp;rfl
end Fl
open Go.RowKit
namespace Fl
open Sx Go.Proofs.Tryz
set_option maxRecDepth 100000
def jg (s:ai):fY:=⟨s.eV,s.cG,s.cache,s.middle,s.fresh⟩
def sM (s:ai) (p:fY):ai:={ s with cache:=p.ca,middle:=p.aG,fresh:=p.fresh }
theorem Ga (s:ai) (g:Nat) (h1:1≤s.cG):bw s g=(sM s ((jg s).take g).1,((jg s).take g).2.1,((jg s).take g).2.2):=by
 unfold bw fY.take jg;dsimp only
 by_cases h:Po.own s.cG.toNat (s.cache.getD g []) s.middle=[]
 ·obtain ⟨e1,e2⟩:=Po.Ac (show 1≤s.cG.toNat by omega) h;have em:Po.aG s.cG.toNat (s.cache.getD g []) s.middle=s.middle:=by unfold Po.aG;rw [e2];simp
  rw [if_pos h,if_pos h,em]
  by_cases h2:s.fresh < s.eV
  ·rw [if_pos h2,if_pos h2];rfl
  ·rw [if_neg h2,if_neg h2];rfl
 ·rw [if_neg h,if_neg h];rfl
theorem Gb (s:ai) (x:Int):fG s x=kq (jg s) x:=by
 unfold fG kq uH jg;rw [List.contains_eq_mem]
theorem Gc (s:ai) (g:Nat) (x:Int):iZ s g x=sM s ((jg s).cL g x).1:=by
 unfold iZ fY.cL;rw [Gb]
 by_cases h:kq (jg s) x=true
 ·rw [if_pos h,if_pos h];rfl
 ·rw [if_neg h,if_neg h];rfl
theorem AN (s:ai):Pure prog 167 [.agg (aC s)] (.agg (iR (jg s))):=by
 refine aA.intro func167 rfl rfl rfl (fun ok e=>?_)
 repeat (first | refine au ?_ | intro _)
 exact az func167
theorem AO (s:ai) (p:fY):Pure prog 168 [.agg (aC s),.agg (iR p)] (.agg (aC (sM s p))):=by
 refine aA.intro func168 rfl rfl rfl (fun ok e=>?_)
 repeat (first | refine au ?_ | intro _)
 exact az func168
structure kr (s:ai):Prop where
 c1:s.cache.length≤50000
 c2:∀ g:Nat,(s.cache.getD g []).length≤50000
 c3:s.middle.length≤40000
 c4:(s.middle ++ s.cache.flatten).length≤100000
 c5:1≤s.cG∧s.cG≤100000
 c6:0≤s.fresh∧s.fresh≤100000
theorem AP (s:ai) (g:Nat) (hg:g < s.cache.length) (hb:kr s) :
  Pure prog 152 [.agg (aC s),.c (nI g)] (.aU [.agg (aC (bw s g).1),.c (nI (bw s g).2.1),.c (bI (bw s g).2.2)]):=by
 rw [Ga s g hb.c5.1];refine aA.intro func152 rfl rfl rfl (fun ok e=>?_)
 repeat (first | refine aO (AN s) ?_ | refine aO (F6 (jg s) g hg (Nat.le_trans hb.c1 (by omega)) (Nat.le_trans (hb.c2 g) (by omega)) (Nat.le_trans hb.c3 (by omega)) hb.c5.1 hb.c5.2 hb.c6) ?_ | refine aO (AO s ((jg s).take g).1) ?_ | refine au ?_ | intro _)
 exact az func152
theorem AQ (s:ai) (g:Nat) (x:Int) (hg:g < s.cache.length) (hb:kr s) (h0:0≤x) (hx:x < s.aL.length) (hs:s.aL.length≤100000) :
  Pure prog 148 [.agg (aC s),.c (nI g),.c (nI x)] (.agg (aC (Sx.cL s g x))):=by
 have er:Sx.cL s g x=bh (sM s ((jg s).cL g x).1) x fF:=by unfold Sx.cL;rw [Gc]
 rw [er];refine aA.intro func148 rfl rfl rfl (fun ok e=>?_)
 repeat (first | refine aO (AN s) ?_ | refine aO (F9 (jg s) g x hg hb.c1 (hb.c2 g) hb.c3 hb.c4 hb.c5.1 hb.c5.2) ?_ | refine aO (AO s ((jg s).cL g x).1) ?_ | refine aO (qv (sM s ((jg s).cL g x).1) x fF h0 hx hs) ?_ | refine au ?_ | intro _)
 exact az func148
end Fl
open Go.RowKit
namespace Fl
open Sx Go.Proofs.Tryz
set_option maxRecDepth 100000
structure qw (s:ai) (g:Nat):Prop where
 lt:g < s.gs.length
 cJ:0≤(aa s g).at_
 xT:Few s
 l4:(aa s g).place=4→aR s (ag s g).ch=true
 AR:(aa s g).place=12→aR s (ag s g).ch=true
 AS:(aa s g).place=15→kr s∧g < s.cache.length∧0≤(aa s g).bt∧(aa s g).bt < s.aL.length
 Gd:(aa s g).place=16→aR s (ag s g).ch=true
 AT:(aa s g).place=17→∃ a l,(aa s g).an=a :: l∧0≤a∧a < s.gs.length∧l.length≤50000
theorem Ge (s:ai) (g:Int) (h0:0≤g) (hg:g < s.gs.length) (hb:s.gs.length≤100000) :
  Pure prog 149 [.agg (aC s),.c (nI g)] (.agg (aC (Sx.ready s g.toNat))):=by
 have:=FV s g.toNat (by omega) hb
 rwa [← AD h0] at this
theorem xU (s:ai) (g:Nat):(Sx.ready s g).gs.length=s.gs.length:=by simp [Sx.ready,ah]
theorem qz (s:ai) (g:Nat) (p:Int):(aT s g p).gs.length=s.gs.length:=by simp [aT,ah]
theorem Gf (s:ai) (ch:Int):(Sx.free s ch).gs=s.gs:=rfl
theorem uS (s:ai) (g:Nat) (ch:Int):(tryLock s g ch).1.gs=s.gs:=by unfold tryLock;split <;> rfl
theorem sO (s:ai) (g:Nat) (x:Int):(Sx.cL s g x).gs=s.gs:=by unfold Sx.cL iZ;split <;> rfl
theorem nZ {s s':ai} (h:s'.gs=s.gs) (g:Nat):aa s' g=aa s g:=by unfold aa;rw [h]
theorem dY (s:ai) (g:Nat) (h:qw s g) :
  Pure prog 102 [.agg (aC s),.c (nI g)] (.aU [.agg (aC (common s g).1),.c (bI (common s g).2)]):=by
 have hg:=h.lt;have hb:=h.xT.1;have cQ:=h.xT.2.1;refine aA.intro func102 rfl rfl rfl (fun ok e=>?_);have C0:=cO s g hg h.cJ
 cases p4:((aa s g).place == 4) with
 | true =>
  have e4:(aa s g).place=4:=by simpa using p4
  have hm:=h.l4 e4;have C1:=AA s g (ag s g).ch hm cQ;have g2:g < (tryLock s g (ag s g).ch).1.gs.length:=by rw [uS];exact hg
  have b2:(tryLock s g (ag s g).ch).1.gs.length≤100000:=by rw [uS];exact hb
  cases ht:(tryLock s g (ag s g).ch).2 with
  | false =>
   have er:common s g=(s,true):=by unfold common;simp [e4,ht]
   rw [er];rw [ht] at C1
   repeat (first | refine au ?_ | intro _)
   exact az func102
  | true =>
   rw [ht] at C1
   cases hk:((ag s g).kind == 6) with
   | true =>
    have ek:(ag s g).kind=6:=by simpa using hk
    have er:common s g=(aT (tryLock s g (ag s g).ch).1 g 21,true):=by unfold common;simp [e4,ht,ek]
    rw [er]
    repeat (first | refine aO (dX (tryLock s g (ag s g).ch).1 g 21 g2 b2) ?_ | refine au ?_ | intro _)
    exact az func102
   | false =>
    have ek:¬ (ag s g).kind=6:=by simpa using hk
    have er:common s g=(aT (tryLock s g (ag s g).ch).1 g 5,true):=by unfold common;simp [e4,ht,ek]
    rw [er]
    repeat (first | refine aO (dX (tryLock s g (ag s g).ch).1 g 5 g2 b2) ?_ | refine au ?_ | intro _)
    exact az func102
 | false =>
 have n4:¬ (aa s g).place=4:=by simpa using p4
 cases AU:((aa s g).place == 12) with
 | true =>
  have qA:(aa s g).place=12:=by simpa using AU
  have hm:=h.AR qA;have er:common s g=(aT (Sx.free s (ag s g).ch) g 13,true):=by unfold common;simp [qA]
  rw [er]
  repeat (first | refine aO (xP s (ag s g).ch hm cQ) ?_ | refine aO (dX (Sx.free s (ag s g).ch) g 13 hg hb) ?_ | refine au ?_ | intro _)
  exact az func102
 | false =>
 have Gg:¬ (aa s g).place=12:=by simpa using AU
 cases AV:((aa s g).place == 13) with
 | true =>
  have oQ:(aa s g).place=13:=by simpa using AV
  have er:common s g=(fH (aT s g 14) g,true):=by unfold common;simp [oQ]
  rw [er]
  repeat (first | refine aO (dX s g 14 hg hb) ?_ | refine aO (AB (aT s g 14) g (by rw [qz];exact hg) (by rw [qz];exact hb)) ?_ | refine au ?_ | intro _)
  exact az func102
 | false =>
 have Gh:¬ (aa s g).place=13:=by simpa using AV
 cases AW:((aa s g).place == 15) with
 | true =>
  have qB:(aa s g).place=15:=by simpa using AW
  obtain ⟨f1,f2,f3,f4⟩:=h.AS qB;have er:common s g=(aT (ah (Sx.cL s g (aa s g).bt) g { aa s g with bt:=-1 }) g 18,true):=by unfold common;simp [qB]
  rw [er]
  repeat (first | refine aO (AQ s g (aa s g).bt f2 f1 f3 f4 h.xT.2.2) ?_ | refine aO (cj (Sx.cL s g (aa s g).bt) g { aa s g with bt:=-1 } (by rw [sO];exact hg) (by rw [sO];exact hb)) ?_ | refine aO (dX (ah (Sx.cL s g (aa s g).bt) g { aa s g with bt:=-1 }) g 18 (by rw [bP,sO];exact hg) (by rw [bP,sO];exact hb)) ?_ | refine au ?_ | intro _)
  exact az func102
 | false =>
 have Gi:¬ (aa s g).place=15:=by simpa using AW
 cases AZ:((aa s g).place == 16) with
 | true =>
  have qC:(aa s g).place=16:=by simpa using AZ
  have hm:=h.Gd qC;have er:common s g=(Sx.an (Sx.free s (ag s g).ch) g,true):=by unfold common;simp [qC]
  rw [er]
  repeat (first | refine aO (xP s (ag s g).ch hm cQ) ?_ | refine aO (sG (Sx.free s (ag s g).ch) g hg hb) ?_ | refine au ?_ | intro _)
  exact az func102
 | false =>
 have Gj:¬ (aa s g).place=16:=by simpa using AZ
 cases A3:((aa s g).place == 17) with
 | true =>
  have n9:(aa s g).place=17:=by simpa using A3
  obtain ⟨a,l,f1,f2,f3,f4⟩:=h.AT n9;have er:common s g=(Sx.an (ah (Sx.ready s a.toNat) g { aa s g with an:=l }) g,true):=by unfold common;simp [n9,f1]
  rw [er];have w0:((aa s g).an.map fun n=>[nI n])[(0:Int).toNat]?=some [nI a]:=by rw [f1];rfl
  have w1:(((aa s g).an.map fun n=>[nI n]).take ((((aa s g).an.map fun n=>[nI n]).length:Int)).toNat).drop (1:Int).toNat=l.map fun n=>[nI n]:=by
   rw [f1];simp;exact List.take_of_length_le (by simp)
  have w2:(1:Int)≤(((aa s g).an.map fun n=>[nI n]).length:Int):=by rw [f1];simp;omega
  have w3:((Sx.ready s a.toNat).gs.length≤100000):=by rw [xU];exact hb
  repeat (first | refine au ?_ | intro _)
  refine J.draw (by kernel_rfl) rfl ?_;refine JW.base (some 6) ?_;refine tk 0 ?_;refine tk 1 ?_;refine tk 2 ?_;refine JD.take 3 rfl rfl (by kernel_rfl) rfl (qb rfl) (Qt.dj rfl rfl (by omega) w0) rfl ?_;refine tk 4 ?_;refine cz 5 (Ge s a f2 f3 hb) ?_;refine jt 6 rfl rfl (Ld.bu rfl rfl rfl (by exact rfl) (by exact rfl)) (fun _=>?_);refine cH ?_
  repeat (first | refine aO (cj (Sx.ready s a.toNat) g { aa s g with an:=l } (by rw [xU];exact hg) w3) ?_ | refine aO (sG (ah (Sx.ready s a.toNat) g { aa s g with an:=l }) g (by rw [bP,xU];exact hg) (by rw [bP];exact w3)) ?_ | (refine K.slice ?_;refine jq rfl rfl rfl ((Qt.j7 rfl rfl rfl (by omega) (by omega) (by omega)).eq (congrArg (fun z=>D.c (A.r 1 z)) w1)) ?_) | (refine K.bi ?_;refine JO.ld (Ld.dU (qb rfl) rfl rfl .read (by (simp;omega))) rfl (fun _=>?_)) | refine au ?_ | intro _)
  exact az func102
 | false =>
  have Gk:¬ (aa s g).place=17:=by simpa using A3
  have er:common s g=(s,false):=by unfold common;simp [n4,Gg,Gh,Gi,Gj,Gk]
  rw [er]
  repeat (first | refine au ?_ | intro _)
  exact az func102
end Fl
end Go.Proofs.YtgjpdogjekmemaaGreat
