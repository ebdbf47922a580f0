/-
  What the laws need, part A26.
  Conditions: none.
-/
import Derived.Test.YtdjhhbpedllnhaaGreatA24
set_option linter.unusedVariables false
set_option linter.unusedSimpArgs false
set_option linter.unnecessarySimpa false
set_option maxHeartbeats 2000000
namespace Go.Proofs.YtdjhhbpedllnhaaGreat
open Go.RowKit
namespace Fl
open Sx Go.Proofs.Tryz
set_option maxRecDepth 100000
structure ji where
 size:Int
 most:Int
 ca:List (List Int)
 bp:List Int
 fresh:Int
def lS (p:ji):List A:=[nI p.size,nI p.most,.r 1 (p.ca.map fun l=>[ints l]),ints p.bp,nI p.fresh]
theorem Xe (l:List Int) (x:Int) (hb:l.length≤100000) :
  Pure prog 263 [.c (ints l),.c (nI x)] (.c (bI (decide (x∈l)))):=by
 refine av.intro func263 rfl rfl rfl (fun ok e=>?_)
 repeat (refine gn ?_)
 refine J.loop (ι:={ k:Nat // ∀ y∈l.take k,x≠y }) (fun p=>[(7,.c (ints l)),(8,.c (nI l.length)),(9,.c (nI p.1)),(1,.c (nI x))]) (fun p=>[]) (fun p=>l.length - p.1) ⟨0,by simp⟩ (fun X h=>h.bO ⟨rfl,rfl,rfl,rfl,trivial⟩) (fun p ih=>?_);obtain ⟨k,hn⟩:=p;dsimp only
 by_cases hk:k < l.length
 ·obtain ⟨y,hy⟩:∃ y,l[k]?=some y:=⟨_,List.getElem?_eq_getElem hk⟩
  have h1:(decide ((k:Int) < (l.length:Int)))=true:=by simpa using hk
  repeat (refine gn ?_)
  refine J.cond rfl (fun h=>?_) (fun h=>?_)
  ·have mF:x=y:=by simpa using h
   have hm:decide (x∈l)=true:=by
    simp only [decide_eq_true_eq];rw [mF];exact List.mem_of_getElem? hy
   rw [hm]
   repeat (refine gn ?_)
   exact aC func263
  ·have mF:x≠y:=by simpa using h
   repeat (refine gn ?_)
   have me:∀ z∈l.take (k + 1),x≠z:=fun z hz=>by rw [take_one hy] at hz;rcases List.mem_append.1 hz with hz | hz;exact hn z hz;simp at hz;rw [hz];exact mF
   refine (ih ⟨k + 1,me⟩ (by (simp;omega))).bO (f:=_) ?_;exact ⟨rfl,rfl,rfl,rfl,trivial⟩
 ·have h1:(decide ((k:Int) < (l.length:Int)))=false:=by simpa using hk
  have hm:decide (x∈l)=false:=by
   simp only [decide_eq_false_iff_not];intro hx;rw [List.take_of_length_le (by omega)] at hn;exact hn x hx rfl
  rw [hm]
  repeat (refine gn ?_)
  exact aC func263
theorem Xf (p:ji) (hb:(p.bp ++ p.ca.flatten).length≤100000) (hc:p.ca.length≤100000) :
  Pure prog 264 [.agg (lS p)] (.c (ints (p.bp ++ p.ca.flatten))):=by
 have tK:p.bp.length + p.ca.flatten.length≤100000:=by simpa using hb
 refine av.intro func264 rfl rfl rfl (fun ok e=>?_)
 repeat (first | (refine K.bi ?_;refine JO.ld (Ld.cB (qb rfl) rfl rfl .read (by (simp;omega))) rfl (fun _=>?_)) | refine ay ?_ | intro _)
 rename_i b1 b2 v1;refine J.loop (ι:=Nat × Value) (fun q=>[(11,.c (.r 1 (p.ca.map fun l=>[ints l]))),(12,.c (nI p.ca.length)),(13,.c (nI q.1)),(3,.c (.v q.2))]) (fun q=>[.row q.2 3 1 ((p.bp ++ (p.ca.take q.1).flatten).map fun n=>[nI n]),.box b1 212 (lS p)]) (fun q=>p.ca.length - q.1) (0,v1) (fun X h=>J.fQ (by simp) (h.bO ⟨rfl,rfl,rfl,rfl,trivial⟩)) (fun q ih=>?_);obtain ⟨k,v⟩:=q
 by_cases hk:k < p.ca.length
 ·obtain ⟨y,hy⟩:∃ y,p.ca[k]?=some y:=⟨_,List.getElem?_eq_getElem hk⟩
  have h1:(decide ((k:Int) < (p.ca.length:Int)))=true:=by simpa using hk
  have e2:=take_one hy;have hlen:(p.ca.take k).flatten.length + y.length≤p.ca.flatten.length:=by
   have:p.ca.flatten=(p.ca.take (k + 1)).flatten ++ (p.ca.drop (k + 1)).flatten:=by rw [← List.flatten_append,List.take_append_drop]
   rw [this,e2];simp [List.flatten_append]
  repeat (first | (refine K.indexAddr ?_;refine jx rfl rfl rfl rfl (by omega) (at_map (at_nat hy)) ?_) | (refine K.bi ?_;refine JO.ld (Ld.cB (qb rfl) rfl rfl .read (by simp only [List.length_map,List.length_append];omega)) rfl (fun _=>?_)) | refine gn ?_)
  rename_i v2;refine J.fQ ?_ ((ih (k + 1,v2) (by (simp;omega))).bO ⟨rfl,rfl,rfl,rfl,trivial⟩);simp only [e2,List.flatten_append,List.flatten_cons,List.flatten_nil,List.append_nil,List.map_append,List.append_assoc]
 ·have h1:(decide ((k:Int) < (p.ca.length:Int)))=false:=by simpa using hk
  repeat (refine gn ?_)
  refine J.j9 2 rfl ?_;refine J.ret func264 rfl (.cons (.tmp rfl) .nil) () (.of_eq ?_) [] .nil rfl rfl;rw [List.take_of_length_le (show p.ca.length≤k by omega)];rfl
def oM (p:ji) (x:Int):Bool:=decide (0≤x) && decide (x < p.fresh) && !decide (x∈p.bp ++ p.ca.flatten)
theorem Xg (p:ji) (x:Int) (hb:(p.bp ++ p.ca.flatten).length≤100000) (hc:p.ca.length≤100000) :
  Pure prog 259 [.agg (lS p),.c (nI x)] (.c (bI (oM p x))):=by
 refine av.intro func259 rfl rfl rfl (fun ok e=>?_)
 cases h1:decide (x ≥ 0) with
 | false =>
  have e1:oM p x=false:=by unfold oM;have:decide (0≤x)=false:=h1;rw [this];rfl
  rw [e1]
  repeat (first | refine ay ?_ | intro _)
  exact aC func259
 | true =>
  cases h2:decide (x < p.fresh) with
  | false =>
   have e1:oM p x=false:=by unfold oM;rw [h2];simp
   rw [e1]
   repeat (first | refine ay ?_ | intro _)
   exact aC func259
  | true =>
   have e1:oM p x=!decide (x∈p.bp ++ p.ca.flatten):=by unfold oM;have:decide (0≤x)=true:=h1;rw [h2,this];rfl
   rw [e1]
   repeat (first | refine aR (Xf p hb hc) ?_ | refine aR (Xe (p.bp ++ p.ca.flatten) x hb) ?_ | refine ay ?_ | intro _)
   exact aC func259
theorem Ng (p:ji) (g:Nat) (l:List Int) (hg:g < p.ca.length) (hc:p.ca.length≤100000) :
  Pure prog 258 [.agg (lS p),.c (nI g),.c (ints l)] (.agg (lS { p with ca:=p.ca.set g l })):=by
 refine av.intro func258 rfl rfl rfl (fun ok e=>?_)
 repeat (first | (refine K.store ?_;refine JO.ld (Ld.gz rfl rfl rfl (by exact rfl) (by (simp;omega))) rfl (fun _=>?_)) | (refine K.indexAddr ?_;refine jq rfl rfl rfl (Qt.aV rfl rfl (by (omega)) (by (simp;omega))) ?_) | (refine K.bi ?_;refine JO.ld (Ld.cB (qb rfl) rfl rfl .read (by (simp;omega))) rfl (fun _=>?_)) | refine ay ?_ | intro _)
 refine J.wF 0 1 2 rfl rfl rfl ?_
 (refine J.ret func258 rfl (.cons (.cell 0 rfl rfl rfl) .nil) () (.of_eq ?_) [] .nil rfl rfl)
 have e1:([] ++ List.map (fun l=>[ints l]) p.ca).set ((g:Int)).toNat [ints l]=(p.ca.set g l).map fun l=>[ints l]:=by simp
 exact congrArg (fun r=>D.agg [nI p.size,nI p.most,.r 1 r,ints p.bp,nI p.fresh]) e1
end Fl
open Go.RowKit
namespace Fl
open Sx Go.Proofs.Tryz
set_option maxRecDepth 100000
def ji.take (p:ji) (g:Nat):ji × Int × Bool :=
 if Po.own p.most.toNat (p.ca.getD g []) p.bp=[] then
  (if p.fresh < p.size then ({ p with bp:=Po.bp p.most.toNat (p.ca.getD g []) p.bp,fresh:=p.fresh + 1 },p.fresh,true) else ({ p with bp:=Po.bp p.most.toNat (p.ca.getD g []) p.bp },0,false))
 else ({ p with ca:=p.ca.set g (Po.own p.most.toNat (p.ca.getD g []) p.bp).dropLast,bp:=Po.bp p.most.toNat (p.ca.getD g []) p.bp },(Po.own p.most.toNat (p.ca.getD g []) p.bp).getLastD 0,true)
theorem GC {α:Type} {l:List α} {g:Nat} {d:α} (h:g < l.length):l[g]?=some (l.getD g d):=by
 rw [List.getD_eq_getElem?_getD,List.getElem?_eq_getElem h];rfl
theorem Nh (M:List Int) {k:Nat} (h:k < M.length):∃ y,M[M.length - (k + 1)]?=some y∧M.reverse.take (k + 1)=M.reverse.take k ++ [y]∧M.take (M.length - k)=M.take (M.length - (k + 1)) ++ [y]:=by
 refine ⟨M[M.length - (k + 1)]'(by omega),List.getElem?_eq_getElem (by omega),?_,?_⟩
 ·rw [List.take_add_one,List.getElem?_reverse h,show M.length - 1 - k=M.length - (k + 1) by omega,List.getElem?_eq_getElem (by omega)];rfl
 ·have e:M.length - k=M.length - (k + 1) + 1:=by omega
  rw [e,List.take_add_one,List.getElem?_eq_getElem (by omega)];rfl
theorem Ni {l:List Int} (h:l≠[]):l[l.length - 1]?=some (l.getLastD 0):=by
 cases l with
 | nil=>exact absurd rfl h
 | cons a l=>rw [List.getLastD_eq_getLast?,List.getLast?_eq_getElem?];simp
theorem Nj {l:List Int} {f:Int→List A} {n:Nat} {m:Int} (h:m=n):((l.map f).take m.toNat).drop (0:Int).toNat=(l.take n).map f:=by
 subst h;simp
def Ap:List A:=vs [.int .i64 0,.int .i64 0,.slice none 0 0,.slice none 0 0,.int .i64 0]
theorem Xh (p:ji) (g:Nat) (hg:g < p.ca.length) (hc:p.ca.length≤100000) (bY:(p.ca.getD g []).length≤100000) (hm:p.bp.length≤100000) (h1:1≤p.most) (h2:p.most≤100000) (hf:0≤p.fresh∧p.fresh≤100000) :
  Pure prog 247 [.agg (lS p),.c (nI g)] (.aZ [.agg (lS (p.take g).1),.c (nI (p.take g).2.1),.c (bI (p.take g).2.2)]):=by
 refine av.intro func247 rfl rfl rfl (fun ok e=>?_);have hq:IntKind.i64.wrap (p.most.tdiv 2)=((p.most.toNat / 2:Nat):Int):=by
  rw [Int.tdiv_eq_ediv_of_nonneg (by omega),eK (by omega) (by omega)];omega
 have t1:(decide ((g:Int) < 0))=false:=by simp
 have t2:(decide ((g:Int) ≥ (p.ca.length:Int)))=false:=by simp;omega
 unfold ji.take;generalize GD:p.ca.getD g []=c at *;have GF:p.ca[g]?=some c:=by rw [← GD];exact GC hg
 repeat (first | (refine K.indexAddr ?_;refine jx rfl rfl rfl rfl (by omega) (at_map (at_nat GF)) ?_) | (refine K.bi ?_;refine JO.ld (Ld.cB (qb rfl) rfl rfl .read (by (simp;omega))) rfl (fun _=>?_)) | refine ay ?_ | intro _)
 rename_i b1 b2 Xi vo Xj vm;refine J.join (ι:=Unit) (fun _=>[(7,.c (ints (Po.own p.most.toNat c p.bp))),(8,.c (ints (Po.bp p.most.toNat c p.bp))),(1,.c (nI g)),(2,.c (.v (.pointer (some ⟨b1,0,none⟩)))),(4,.c (.v (.pointer (some ⟨b2,0,none⟩))))]) (fun _=>[.box b2 212 Ap,.box b1 212 (lS p)]) (fun _=>?_) (fun rest=>?_)
 ·have nY:(Po.own p.most.toNat c p.bp).length≤200000:=by
   unfold Po.own;simp only [List.length_append,List.length_take,List.length_reverse];omega
  generalize Po.own p.most.toNat c p.bp=o at *;generalize Po.bp p.most.toNat c p.bp=m at *
  by_cases ho:o=[]
  ·have u1:(decide ((o.length:Int) > 0))=false:=by simp [ho]
   rw [if_pos ho]
   cases u2:decide (p.fresh < p.size) with
   | true =>
    have u3:p.fresh < p.size:=by simpa using u2
    rw [if_pos u3]
    repeat (first | (refine K.store ?_;refine JO.ld (Ld.di rfl rfl (by exact rfl)) rfl (fun _=>?_)) | refine gn ?_)
    refine J.draw (by kernel_rfl) rfl ?_;refine JW.yE none (.tmp 4) rfl ?_;refine tk 0 ?_;refine tk 1 ?_;refine tk 2 ?_;refine JD.take 3 rfl rfl (by kernel_rfl) rfl (qb rfl) (Qt.cI rfl rfl rfl (eK (by omega) (by omega))) rfl ?_;refine JD.gD (i:=4) (by kernel_rfl) ?_
    (refine JS.st rfl rfl rfl (Ld.bh rfl rfl rfl (by exact rfl) (by exact rfl)) (.nu rfl) (fun _=>?_))
    refine tk 5 ?_;refine tk 6 ?_;refine bX ?_
    repeat (fail)
    (refine J.ret func247 rfl (.cons (.cell 0 rfl rfl rfl) (.cons (.tmp rfl) (.cons (.tmp rfl) .nil))) () (.of_eq ?_) [] .nil rfl rfl)
    show D.aZ [D.agg [nI p.size,nI p.most,_,ints m,nI (p.fresh + 1)],D.c (nI (p.fresh + 1 - 1)),_]=_;rw [show p.fresh + 1 - 1=p.fresh by omega];rfl
   | false =>
    have u3:¬ p.fresh < p.size:=by simpa using u2
    rw [if_neg u3]
    repeat (first | (refine K.store ?_;first | refine JO.ld (Ld.bh rfl rfl rfl (by exact rfl) (by exact rfl)) rfl (fun _=>?_) | refine JO.ld (Ld.di rfl rfl (by exact rfl)) rfl (fun _=>?_)) | refine gn ?_)
    (refine J.ret func247 rfl (.cons (.cell 0 rfl rfl rfl) (.cons (.tmp rfl) (.cons (.tmp rfl) .nil))) () (.of_eq ?_) [] .nil rfl rfl)
    rfl
  ·have abW:1≤o.length:=List.length_pos_iff.2 ho;have u1:(decide ((o.length:Int) > 0))=true:=by simp;omega
   have hcut:((o.map fun n=>[nI n]).take ((o.length:Int) - 1).toNat).drop (0:Int).toNat=o.dropLast.map fun n=>[nI n]:=by
    rw [show ((o.length:Int) - 1).toNat=o.length - 1 by omega,List.dropLast_eq_take];simp
   rw [if_neg ho]
   repeat (first | (refine K.store ?_;refine JO.ld (Ld.di rfl rfl (by exact rfl)) rfl (fun _=>?_)) | (refine K.indexAddr ?_;refine jx rfl rfl rfl rfl (by omega) (at_map (show o[((o.length:Int) - 1).toNat]?=some (o.getLastD 0) by rw [show ((o.length:Int) - 1).toNat=o.length - 1 by omega];exact Ni ho)) ?_) | refine gn ?_)
   refine J.draw (by kernel_rfl) rfl ?_;refine JW.yE none (.tmp 4) rfl ?_;refine tk 0 ?_;refine tk 1 ?_;refine tk 2 ?_;refine tk 3 ?_;refine tk 4 ?_;refine JD.take 5 rfl rfl (by kernel_rfl) rfl (qb rfl) (Qt.cI rfl rfl rfl (eK (by omega) (by omega))) rfl ?_;refine JD.take 6 rfl rfl (by kernel_rfl) rfl (qb rfl) ((Qt.qp rfl rfl rfl (by omega) (by omega) (by simp;omega)).eq (congrArg (fun z=>D.c (A.r 1 z)) hcut)) rfl ?_;refine tk 8 ?_;refine c9 7 (Ng { p with bp:=m } g o.dropLast hg hc) ?_;refine JD.gD (i:=9) (by kernel_rfl) ?_
   (refine JS.st rfl rfl rfl (Ld.bh rfl rfl rfl (by exact rfl) (by exact rfl)) (.nu rfl) (fun _=>?_))
   refine jk 10 rfl rfl rfl rfl (Qt.assign rfl) ?_;refine jk 11 rfl rfl rfl rfl (Qt.assign rfl) ?_;refine bX ?_
   repeat (fail)
   (refine J.ret func247 rfl (.cons (.cell 0 rfl rfl rfl) (.cons (.tmp rfl) (.cons (.tmp rfl) .nil))) () (.of_eq ?_) [] .nil rfl rfl)
   rfl
 ·refine J.cond rfl (fun h=>?_) (fun h=>?_)
  ·have h0:c=[]:=by simpa using h
   have gu:1≤Po.room p.most.toNat:=by unfold Po.room;omega
   have gB:p.most.toNat / 2≤Po.room p.most.toNat:=by unfold Po.room;omega
   have hr3:Po.room p.most.toNat≤1∨Po.room p.most.toNat≤p.most.toNat / 2:=by unfold Po.room;omega
   have e8:A.r 1 ([] ++ p.bp.map fun n=>[nI n])=ints (p.bp.take (p.bp.length - 0)):=by simp;rfl
   refine J.j9 8 rfl ?_;refine J.block ?_;refine J.loop (ι:={ q:Nat × Value // q.1≤p.bp.length∧q.1≤Po.room p.most.toNat }) (fun q=>[(7,.c (.v q.1.2)),(8,.c (ints (p.bp.take (p.bp.length - q.1.1)))),(1,.c (nI g)),(2,.c (.v (.pointer (some ⟨b1,0,none⟩)))),(4,.c (.v (.pointer (some ⟨b2,0,none⟩))))]) (fun q=>[.row q.1.2 3 1 ((p.bp.reverse.take q.1.1).map fun n=>[nI n]),.box b2 212 Ap,.box b1 212 (lS p)]) (fun q=>p.bp.length - q.1.1) ⟨(0,vo),by omega,by omega⟩ (fun X h=>J.fQ (by simp [h0];rfl) (h.bO ⟨rfl,congrArg (fun z=>some (D.c z)) e8,rfl,rfl,rfl,trivial⟩)) (fun q ih=>?_);obtain ⟨⟨k,v⟩,bu,bZ⟩:=q;dsimp only at bu bZ ⊢;have em:(p.bp.take (p.bp.length - k)).length=p.bp.length - k:=by simp
   have eo:((p.bp.reverse.take k).map fun n=>[nI n]).length=k:=by simp;omega
   by_cases tE:k < p.bp.length∧k < Po.room p.most.toNat
   ·obtain ⟨y,y1,y2,y3⟩:=Nh p.bp tE.1;have w1:(decide (((p.bp.take (p.bp.length - k)).length:Int) > 0))=true:=by rw [em];simp;omega
    have y4:(p.bp.take (p.bp.length - k))[(((p.bp.take (p.bp.length - k)).length:Int) - 1).toNat]?=some y:=by
     rw [em,show (((p.bp.length - k:Nat):Int) - 1).toNat=p.bp.length - (k + 1) by omega,List.getElem?_take,if_pos (by omega)];exact y1
    have y5:(((p.bp.take (p.bp.length - k)).map fun n=>[nI n]).take (((p.bp.take (p.bp.length - k)).length:Int) - 1).toNat).drop (0:Int).toNat=(p.bp.take (p.bp.length - (k + 1))).map fun n=>[nI n]:=by
     rw [em,show (((p.bp.length - k:Nat):Int) - 1).toNat=p.bp.length - (k + 1) by omega,← List.map_take,List.take_take,Nat.min_eq_left (by omega)];rfl
    refine J.seq ?_;refine J.join (ι:=Unit) (fun _=>[(7,.c (.v v)),(8,.c (ints (p.bp.take (p.bp.length - k)))),(1,.c (nI g)),(2,.c (.v (.pointer (some ⟨b1,0,none⟩)))),(4,.c (.v (.pointer (some ⟨b2,0,none⟩))))]) (fun _=>[.row v 3 1 ((p.bp.reverse.take k).map fun n=>[nI n]),.box b2 212 Ap,.box b1 212 (lS p)]) (fun _=>?_) (fun Nk=>?_)
    ·repeat (first | (refine K.indexAddr ?_;refine jx rfl rfl rfl rfl (by omega) (at_map y4) ?_) | (refine K.slice ?_;refine jq rfl rfl rfl ((Qt.qp rfl rfl rfl (by omega) (by omega) (by simp only [List.length_map];omega)).eq (congrArg (fun z=>D.c (A.r 1 z)) y5)) ?_) | (refine K.bi ?_;refine JO.ld (Ld.cB (qb rfl) rfl rfl .de (by simp only [List.length_append,List.length_map,List.length_take,List.length_reverse,List.length_cons,List.length_nil];omega)) rfl (fun _=>?_)) | refine ay ?_ | intro _)
     rename_i b7 v7;refine J.drop 1 ?_;refine J.fQ ?_ ((ih ⟨(k + 1,v7),by omega,by omega⟩ (by simp only;omega)).bO ⟨rfl,rfl,rfl,rfl,rfl,trivial⟩);simp only [y2,List.map_append];rfl
    ·refine J.seq ?_;refine J.region ?_
     cases w2:decide ((((p.bp.reverse.take k).map fun n=>[nI n]).length:Int) < ((p.most.toNat / 2:Nat):Int)) with
     | true =>
      repeat (first | (refine K.binOp ?_;refine jq rfl rfl rfl (Qt.quo rfl rfl (by decide) (hq)) ?_) | refine tu ?_)
      refine JO.nil (J.iy rfl (J.skip ?_));exact (Nk ()).bO ⟨rfl,rfl,rfl,rfl,rfl,trivial⟩
     | false =>
      have w3:(decide ((((p.bp.reverse.take k).map fun n=>[nI n]).length:Int) < 1))=true:=by
       rw [eo] at w2 ⊢;simp at w2 ⊢;omega
      repeat (first | (refine K.binOp ?_;refine jq rfl rfl rfl (Qt.quo rfl rfl (by decide) (hq)) ?_) | refine tu ?_)
      refine JO.nil (J.iy rfl (J.skip ?_));exact (Nk ()).bO ⟨rfl,rfl,rfl,rfl,rfl,trivial⟩
   ·have e1:p.bp.reverse.take k=Po.own p.most.toNat c p.bp:=by
     unfold Po.own Po.nB;rw [if_pos h0,h0,List.nil_append];congr 1;omega
    have e2:p.bp.take (p.bp.length - k)=Po.bp p.most.toNat c p.bp:=by
     unfold Po.bp Po.nB;rw [if_pos h0];congr 2;omega
    refine J.seq (J.seq (J.region ?_))
    cases w1:decide (((p.bp.take (p.bp.length - k)).length:Int) > 0) with
    | false =>
     repeat (refine tu ?_)
     refine JO.nil (J.gK rfl ?_)
     repeat (first | refine J.exit rfl ?_ | refine J.inBlock ?_)
     refine J.j9 7 rfl ?_;exact (rest ()).bO ⟨congrArg (fun z=>some (D.c (ints z))) e1,congrArg (fun z=>some (D.c (ints z))) e2,rfl,rfl,rfl,trivial⟩
    | true =>
     have w2:decide ((((p.bp.reverse.take k).map fun n=>[nI n]).length:Int) < ((p.most.toNat / 2:Nat):Int))=false:=by
      rw [eo];rw [em] at w1;simp at w1 ⊢;omega
     have w3:(decide ((((p.bp.reverse.take k).map fun n=>[nI n]).length:Int) < 1))=false:=by
      rw [eo];rw [em] at w1;simp at w1 ⊢;omega
     repeat (first | (refine K.binOp ?_;refine jq rfl rfl rfl (Qt.quo rfl rfl (by decide) (hq)) ?_) | refine tu ?_)
     refine JO.nil (J.gK rfl ?_)
     repeat (first | refine J.exit rfl ?_ | refine J.inBlock ?_)
     refine J.j9 7 rfl ?_;exact (rest ()).bO ⟨congrArg (fun z=>some (D.c (ints z))) e1,congrArg (fun z=>some (D.c (ints z))) e2,rfl,rfl,rfl,trivial⟩
  ·have h0:c≠[]:=by simpa using h
   have e1:Po.own p.most.toNat c p.bp=c:=by unfold Po.own Po.nB;rw [if_neg h0];simp
   have e2:Po.bp p.most.toNat c p.bp=p.bp:=by unfold Po.bp Po.nB;rw [if_neg h0];simp
   refine J.j9 7 rfl ?_;refine J.j9 8 rfl ?_;refine J.skip ?_;exact (rest ()).bO ⟨congrArg (fun z=>some (D.c (ints z))) e1.symm,congrArg (fun z=>some (D.c (ints z))) e2.symm,rfl,rfl,rfl,trivial⟩
end Fl
open Go.RowKit
namespace Fl
open Sx Go.Proofs.Tryz
set_option maxRecDepth 100000
def ji.cy (p:ji) (g:Nat) (x:Int):ji × Bool :=
 if oM p x=true then ({ p with ca:=p.ca.set g ((p.ca.getD g []).take ((p.ca.getD g []).length - Po.eD p.most.toNat (p.ca.getD g [])) ++ [x]),bp:=p.bp ++ (p.ca.getD g []).reverse.take (Po.eD p.most.toNat (p.ca.getD g [])) },true) else (p,false)
theorem Xk (p:ji) (g:Nat) (x:Int) (hg:g < p.ca.length) (hc:p.ca.length≤50000) (bY:(p.ca.getD g []).length≤50000) (hm:p.bp.length≤40000) (ha:(p.bp ++ p.ca.flatten).length≤100000) (h1:1≤p.most) (h2:p.most≤100000) :
  Pure prog 250 [.agg (lS p),.c (nI g),.c (nI x)] (.aZ [.agg (lS (p.cy g x).1),.c (bI (p.cy g x).2)]):=by
 refine av.intro func250 rfl rfl rfl (fun ok e=>?_);have hq:IntKind.i64.wrap (p.most.tdiv 2)=((p.most.toNat / 2:Nat):Int):=by
  rw [Int.tdiv_eq_ediv_of_nonneg (by omega),eK (by omega) (by omega)];omega
 have t1:(decide ((g:Int) < 0))=false:=by simp
 have t2:(decide ((g:Int) ≥ (p.ca.length:Int)))=false:=by simp;omega
 have hC:=Xg p x ha (by omega)
 cases qL:oM p x with
 | false =>
  rw [qL] at hC;have er:p.cy g x=(p,false):=by unfold ji.cy;rw [qL];rfl
  rw [er]
  repeat (first | (refine K.store ?_;refine JO.ld (Ld.bh rfl rfl rfl (by exact rfl) (by exact rfl)) rfl (fun _=>?_)) | refine ay ?_ | intro _)
  (refine J.ret func250 rfl (.cons (.cell 0 rfl rfl rfl) (.cons (.tmp rfl) .nil)) () (.of_eq ?_) [] .nil rfl rfl)
  rfl
 | true =>
 rw [qL] at hC;have er:p.cy g x=({ p with ca:=p.ca.set g ((p.ca.getD g []).take ((p.ca.getD g []).length - Po.eD p.most.toNat (p.ca.getD g [])) ++ [x]),bp:=p.bp ++ (p.ca.getD g []).reverse.take (Po.eD p.most.toNat (p.ca.getD g [])) },true):=by unfold ji.cy;rw [if_pos qL]
 rw [er];clear er;generalize GD:p.ca.getD g []=c at *;have GF:p.ca[g]?=some c:=by rw [← GD];exact GC hg
 repeat (first | (refine K.indexAddr ?_;refine jx rfl rfl rfl rfl (by omega) (at_map (at_nat GF)) ?_) | (refine K.bi ?_;refine JO.ld (Ld.cB (qb rfl) rfl rfl .read (by (simp;omega))) rfl (fun _=>?_)) | refine ay ?_ | intro _)
 rename_i b1 b2 Xi vo Xj vm;refine J.join (ι:=Value × Value) (fun q=>[(8,.c (.v q.1)),(9,.c (.v q.2)),(1,.c (nI g)),(2,.c (nI x)),(3,.c (.v (.pointer (some ⟨b1,0,none⟩)))),(6,.c (.v (.pointer (some ⟨b2,0,none⟩))))]) (fun q=>[.row q.1 3 1 ((c.take (c.length - Po.eD p.most.toNat c)).map fun n=>[nI n]),.row q.2 3 1 ((p.bp ++ c.reverse.take (Po.eD p.most.toNat c)).map fun n=>[nI n]),.box b2 212 Ap,.box b1 212 (lS p)]) (fun q=>?_) (fun rest=>?_)
 ·obtain ⟨v8,v9⟩:=q;dsimp only;have nY:(c.take (c.length - Po.eD p.most.toNat c)).length≤50000:=by simp;omega
  generalize c.take (c.length - Po.eD p.most.toNat c)=o at *;generalize p.bp ++ c.reverse.take (Po.eD p.most.toNat c)=m at *
  repeat (first | (refine K.store ?_;refine JO.ld (Ld.di rfl rfl (by exact rfl)) rfl (fun _=>?_)) | refine gn ?_)
  refine J.IZ 9 3 3 rfl rfl rfl ?_;refine J.draw (by kernel_rfl) rfl ?_;refine JW.yE (some 7) (.tmp 8) rfl ?_;refine tk 0 ?_;refine tk 1 ?_;refine tk 2 ?_;refine tk 3 ?_;refine jl 4 rfl rfl rfl rfl (Ld.fO (qb rfl) rfl rfl rfl rfl rfl) .none (fun _=>?_);refine jl 5 rfl rfl rfl rfl (Ld.fP (qb rfl) rfl rfl .de (by (simp;omega))) (.uM rfl) (fun _=>?_);refine jl 6 rfl rfl rfl rfl (Ld.pure (Ng { p with bp:=m } g (o ++ [x]) hg (show p.ca.length≤100000 by omega)) (qb rfl) rfl (by repeat (first | exact aW.nil | refine aW.cons (eU.agg (by repeat (first | exact .nil | refine .cons .refl ?_))) ?_ | refine aW.cons eU.refl ?_ | refine aW.cons (eU.c mc.snoc) ?_))) .none (fun _=>?_);refine jt 7 rfl rfl (Ld.bh rfl rfl rfl (by exact rfl) (by exact rfl)) (fun _=>?_);refine JW.base none ?_;refine jk 8 rfl rfl rfl rfl (Qt.assign rfl) ?_;refine bX ?_
  repeat (fail)
  (refine J.ret func250 rfl (.cons (.cell 1 rfl rfl rfl) (.cons (.tmp rfl) .nil)) () (.of_eq ?_) [] .nil rfl rfl)
  rfl
 ·refine J.cond rfl (fun h=>?_) (fun h=>?_)
  ·have h0:(c.length:Int)=p.most:=by simpa using h
   have hp:Po.eD p.most.toNat c=c.length - p.most.toNat / 2:=by unfold Po.eD;rw [if_pos (by omega)]
   refine J.pull 1 rfl ?_;refine J.block ?_;refine J.loop (ι:={ q:Nat × Value × Value // q.1≤c.length - p.most.toNat / 2 }) (fun q=>[(8,.c (.v q.1.2.1)),(9,.c (.v q.1.2.2)),(1,.c (nI g)),(2,.c (nI x)),(3,.c (.v (.pointer (some ⟨b1,0,none⟩)))),(6,.c (.v (.pointer (some ⟨b2,0,none⟩))))]) (fun q=>[.row q.1.2.1 3 1 ((c.take (c.length - q.1.1)).map fun n=>[nI n]),.row q.1.2.2 3 1 ((p.bp ++ c.reverse.take q.1.1).map fun n=>[nI n]),.box b2 212 Ap,.box b1 212 (lS p)]) (fun q=>c.length - q.1.1) ⟨(0,vo,vm),by omega⟩ (fun X h=>J.fQ (by simp;rfl) (h.bO ⟨rfl,rfl,rfl,rfl,rfl,rfl,trivial⟩)) (fun q ih=>?_);obtain ⟨⟨k,v,u⟩,hk⟩:=q;dsimp only at hk ⊢;have eo:((c.take (c.length - k)).map fun n=>[nI n]).length=c.length - k:=by simp
   by_cases tE:k < c.length - p.most.toNat / 2
   ·obtain ⟨y,y1,y2,y3⟩:=Nh c (show k < c.length by omega);have w1:(decide ((((c.take (c.length - k)).map fun n=>[nI n]).length:Int) > ((p.most.toNat / 2:Nat):Int)))=true:=by rw [eo];simp;omega
    have y4:((c.take (c.length - k)).map fun n=>[nI n])[((((c.take (c.length - k)).map fun n=>[nI n]).length:Int) - 1).toNat]?=some [nI y]:=by
     rw [eo,show (((c.length - k:Nat):Int) - 1).toNat=c.length - (k + 1) by omega];exact at_map (by rw [List.getElem?_take,if_pos (by omega)];exact y1)
    have y5:(((c.take (c.length - k)).map fun n=>[nI n]).take ((((c.take (c.length - k)).map fun n=>[nI n]).length:Int) - 1).toNat).drop (0:Int).toNat=(c.take (c.length - (k + 1))).map fun n=>[nI n]:=by
     rw [eo,show (((c.length - k:Nat):Int) - 1).toNat=c.length - (k + 1) by omega,← List.map_take,List.take_take,Nat.min_eq_left (by omega)];rfl
    repeat (first | (refine K.load ?_;((refine jq rfl rfl rfl (Qt.bM rfl (y4) (by exact rfl)) ?_))) | (refine K.indexAddr ?_;refine jq rfl rfl rfl (Qt.aV rfl rfl (by omega) (by omega)) ?_) | (refine K.binOp ?_;refine jq rfl rfl rfl (Qt.quo rfl rfl (by decide) (hq)) ?_) | (refine K.slice ?_;refine JO.ld (IY (qb rfl) rfl rfl rfl (by (omega)) (by (omega)) (by (omega)) (y5)) rfl (fun _=>?_)) | (refine K.bi ?_;refine JO.ld (Ld.cB (qb rfl) rfl rfl .de (by simp only [List.length_append,List.length_map,List.length_take,List.length_reverse,List.length_cons,List.length_nil];omega)) rfl (fun _=>?_)) | refine ay ?_ | intro _)
    rename_i b5 u5 v5;refine J.dF 2 ?_;refine J.fQ ?_ ((ih ⟨(k + 1,v5,u5),by omega⟩ (by simp only;omega)).bO ⟨rfl,rfl,rfl,rfl,rfl,rfl,trivial⟩);simp only [y2,List.map_append,List.append_assoc];rfl
   ·have bZ:k=Po.eD p.most.toNat c:=by omega
    have w1:(decide ((((c.take (c.length - k)).map fun n=>[nI n]).length:Int) > ((p.most.toNat / 2:Nat):Int)))=false:=by rw [eo];simp;omega
    refine J.seq (J.seq (J.region ?_))
    repeat (first | (refine K.binOp ?_;refine jq rfl rfl rfl (Qt.quo rfl rfl (by decide) (hq)) ?_) | refine tu ?_)
    refine JO.nil (J.gK rfl ?_)
    repeat (first | refine J.exit rfl ?_ | refine J.inBlock ?_)
    subst bZ;exact (rest (v,u)).bO ⟨rfl,rfl,rfl,rfl,rfl,rfl,trivial⟩
  ·have h0:¬ (c.length:Int)=p.most:=by simpa using h
   have hp:Po.eD p.most.toNat c=0:=by unfold Po.eD;rw [if_neg (by omega)]
   refine J.pull 1 rfl ?_;refine J.skip ?_;refine J.fQ ?_ ((rest (vo,vm)).bO ⟨rfl,rfl,rfl,rfl,rfl,rfl,trivial⟩);rw [hp];simp;rfl
end Fl
open Go.RowKit
namespace Fl
open Sx Go.Proofs.Tryz
set_option maxRecDepth 100000
def mB (s:ah):ji:=⟨s.dh,s.bP,s.cache,s.middle,s.fresh⟩
def Aq (s:ah) (p:ji):ah:={ s with cache:=p.ca,middle:=p.bp,fresh:=p.fresh }
theorem Xl (s:ah) (g:Nat) (h1:1≤s.bP):aQ s g=(Aq s ((mB s).take g).1,((mB s).take g).2.1,((mB s).take g).2.2):=by
 unfold aQ ji.take mB;dsimp only
 by_cases h:Po.own s.bP.toNat (s.cache.getD g []) s.middle=[]
 ·obtain ⟨e1,e2⟩:=Po.I9 (show 1≤s.bP.toNat by omega) h;have em:Po.bp s.bP.toNat (s.cache.getD g []) s.middle=s.middle:=by unfold Po.bp;rw [e2];simp
  rw [if_pos h,if_pos h,em]
  by_cases h2:s.fresh < s.dh
  ·rw [if_pos h2,if_pos h2];rfl
  ·rw [if_neg h2,if_neg h2];rfl
 ·rw [if_neg h,if_neg h];rfl
theorem Xm (s:ah) (x:Int):gX s x=oM (mB s) x:=by
 unfold gX oM uO mB;rw [List.contains_eq_mem]
theorem Xn (s:ah) (g:Nat) (x:Int):eE s g x=Aq s ((mB s).cy g x).1:=by
 unfold eE ji.cy;rw [Xm]
 by_cases h:oM (mB s) x=true
 ·rw [if_pos h,if_pos h];rfl
 ·rw [if_neg h,if_neg h];rfl
theorem Nl (s:ah):Pure prog 248 [.agg (aD s)] (.agg (lS (mB s))):=by
 refine av.intro func248 rfl rfl rfl (fun ok e=>?_)
 repeat (first | refine ay ?_ | intro _)
 exact aC func248
theorem Nm (s:ah) (p:ji):Pure prog 249 [.agg (aD s),.agg (lS p)] (.agg (aD (Aq s p))):=by
 refine av.intro func249 rfl rfl rfl (fun ok e=>?_)
 repeat (first | refine ay ?_ | intro _)
 exact aC func249
structure oN (s:ah):Prop where
 c1:s.cache.length≤50000
 c2:∀ g:Nat,(s.cache.getD g []).length≤50000
 c3:s.middle.length≤40000
 c4:(s.middle ++ s.cache.flatten).length≤100000
 c5:1≤s.bP∧s.bP≤100000
 c6:0≤s.fresh∧s.fresh≤100000
theorem Nn (s:ah) (g:Nat) (hg:g < s.cache.length) (hb:oN s) :
  Pure prog 214 [.agg (aD s),.c (nI g)] (.aZ [.agg (aD (aQ s g).1),.c (nI (aQ s g).2.1),.c (bI (aQ s g).2.2)]):=by
 rw [Xl s g hb.c5.1];refine av.intro func214 rfl rfl rfl (fun ok e=>?_)
 repeat (first | refine aR (Nl s) ?_ | refine aR (Xh (mB s) g hg (Nat.le_trans hb.c1 (by omega)) (Nat.le_trans (hb.c2 g) (by omega)) (Nat.le_trans hb.c3 (by omega)) hb.c5.1 hb.c5.2 hb.c6) ?_ | refine aR (Nm s ((mB s).take g).1) ?_ | refine ay ?_ | intro _)
 exact aC func214
theorem No (s:ah) (g:Nat) (x:Int) (hg:g < s.cache.length) (hb:oN s) (h0:0≤x) (hx:x < s.aB.length) (hs:s.aB.length≤100000) :
  Pure prog 217 [.agg (aD s),.c (nI g),.c (nI x)] (.agg (aD (Sx.cy s g x))):=by
 have er:Sx.cy s g x=aN (Aq s ((mB s).cy g x).1) x fB:=by unfold Sx.cy;rw [Xn]
 rw [er];refine av.intro func217 rfl rfl rfl (fun ok e=>?_)
 repeat (first | refine aR (Nl s) ?_ | refine aR (Xk (mB s) g x hg hb.c1 (hb.c2 g) hb.c3 hb.c4 hb.c5.1 hb.c5.2) ?_ | refine aR (Nm s ((mB s).cy g x).1) ?_ | refine aR (wY (Aq s ((mB s).cy g x).1) x fB h0 hx hs) ?_ | refine ay ?_ | intro _)
 exact aC func217
end Fl
open Go.RowKit
namespace Fl
open Sx Go.Proofs.Tryz
set_option maxRecDepth 100000
structure xE (s:ah) (g:Nat):Prop where
 lt:g < s.gs.length
 dm:0≤(aa s g).at_
 GG:Few s
 l4:(aa s g).place=4→aL s (ag s g).ch=true
 CX:(aa s g).place=12→aL s (ag s g).ch=true
 CY:(aa s g).place=15→oN s∧g < s.cache.length∧0≤(aa s g).aI∧(aa s g).aI < s.aB.length
 Xo:(aa s g).place=16→aL s (ag s g).ch=true
 CZ:(aa s g).place=17→∃ a l,(aa s g).ak=a :: l∧0≤a∧a < s.gs.length∧l.length≤50000
theorem Xp (s:ah) (g:Int) (h0:0≤g) (hg:g < s.gs.length) (hb:s.gs.length≤100000) :
  Pure prog 219 [.agg (aD s),.c (nI g)] (.agg (aD (Sx.ready s g.toNat))):=by
 have:=Ux s g.toNat (by omega) hb
 rwa [← M7 h0] at this
theorem GH (s:ah) (g:Nat):(Sx.ready s g).gs.length=s.gs.length:=by simp [Sx.ready,ai]
theorem xF (s:ah) (g:Nat) (p:Int):(Sx.aG s g p).gs.length=s.gs.length:=by simp [Sx.aG,ai]
theorem Xq (s:ah) (ch:Int):(Sx.free s ch).gs=s.gs:=rfl
theorem C6 (s:ah) (g:Nat) (ch:Int):(Sx.tryLock s g ch).1.gs=s.gs:=by unfold Sx.tryLock;split <;> rfl
theorem Ar (s:ah) (g:Nat) (x:Int):(Sx.cy s g x).gs=s.gs:=by unfold Sx.cy eE;split <;> rfl
theorem uh {s s':ah} (h:s'.gs=s.gs) (g:Nat):aa s' g=aa s g:=by unfold aa;rw [h]
theorem fV (s:ah) (g:Nat) (h:xE s g) :
  Pure prog 168 [.agg (aD s),.c (nI g)] (.aZ [.agg (aD (common s g).1),.c (bI (common s g).2)]):=by
 have hg:=h.lt;have hb:=h.GG.1;have dM:=h.GG.2.1;refine av.intro func168 rfl rfl rfl (fun ok e=>?_);have C0:=dH s g hg h.dm
 cases p4:((aa s g).place == 4) with
 | true =>
  have e4:(aa s g).place=4:=by simpa using p4
  have hm:=h.l4 e4;have C1:=KY s g (ag s g).ch hm dM;have g2:g < (Sx.tryLock s g (ag s g).ch).1.gs.length:=by rw [C6];exact hg
  have b2:(Sx.tryLock s g (ag s g).ch).1.gs.length≤100000:=by rw [C6];exact hb
  cases ht:(Sx.tryLock s g (ag s g).ch).2 with
  | false =>
   have er:common s g=(s,true):=by unfold common;simp [e4,ht]
   rw [er];rw [ht] at C1
   repeat (first | refine ay ?_ | intro _)
   exact aC func168
  | true =>
   rw [ht] at C1
   cases hk:((ag s g).kind == 6) with
   | true =>
    have ek:(ag s g).kind=6:=by simpa using hk
    have er:common s g=(Sx.aG (Sx.tryLock s g (ag s g).ch).1 g 21,true):=by unfold common;simp [e4,ht,ek]
    rw [er]
    repeat (first | refine aR (fU (Sx.tryLock s g (ag s g).ch).1 g 21 g2 b2) ?_ | refine ay ?_ | intro _)
    exact aC func168
   | false =>
    have ek:¬ (ag s g).kind=6:=by simpa using hk
    have er:common s g=(Sx.aG (Sx.tryLock s g (ag s g).ch).1 g 5,true):=by unfold common;simp [e4,ht,ek]
    rw [er]
    repeat (first | refine aR (fU (Sx.tryLock s g (ag s g).ch).1 g 5 g2 b2) ?_ | refine ay ?_ | intro _)
    exact aC func168
 | false =>
 have n4:¬ (aa s g).place=4:=by simpa using p4
 cases As:((aa s g).place == 12) with
 | true =>
  have sG:(aa s g).place=12:=by simpa using As
  have hm:=h.CX sG;have er:common s g=(Sx.aG (Sx.free s (ag s g).ch) g 13,true):=by unfold common;simp [sG]
  rw [er]
  repeat (first | refine aR (FF s (ag s g).ch hm dM) ?_ | refine aR (fU (Sx.free s (ag s g).ch) g 13 hg hb) ?_ | refine ay ?_ | intro _)
  exact aC func168
 | false =>
 have GI:¬ (aa s g).place=12:=by simpa using As
 cases At:((aa s g).place == 13) with
 | true =>
  have sH:(aa s g).place=13:=by simpa using At
  have er:common s g=(Sx.fF (Sx.aG s g 14) g,true):=by unfold common;simp [sH]
  rw [er]
  repeat (first | refine aR (fU s g 14 hg hb) ?_ | refine aR (KZ (Sx.aG s g 14) g (by rw [xF];exact hg) (by rw [xF];exact hb)) ?_ | refine ay ?_ | intro _)
  exact aC func168
 | false =>
 have GJ:¬ (aa s g).place=13:=by simpa using At
 cases Au:((aa s g).place == 15) with
 | true =>
  have sJ:(aa s g).place=15:=by simpa using Au
  obtain ⟨f1,f2,f3,f4⟩:=h.CY sJ;have er:common s g=(Sx.aG (ai (Sx.cy s g (aa s g).aI) g { aa s g with aI:=-1 }) g 18,true):=by unfold common;simp [sJ]
  rw [er]
  repeat (first | refine aR (No s g (aa s g).aI f2 f1 f3 f4 h.GG.2.2) ?_ | refine aR (cS (Sx.cy s g (aa s g).aI) g { aa s g with aI:=-1 } (by rw [Ar];exact hg) (by rw [Ar];exact hb)) ?_ | refine aR (fU (ai (Sx.cy s g (aa s g).aI) g { aa s g with aI:=-1 }) g 18 (by rw [cz,Ar];exact hg) (by rw [cz,Ar];exact hb)) ?_ | refine ay ?_ | intro _)
  exact aC func168
 | false =>
 have GK:¬ (aa s g).place=15:=by simpa using Au
 cases Av:((aa s g).place == 16) with
 | true =>
  have sK:(aa s g).place=16:=by simpa using Av
  have hm:=h.Xo sK;have er:common s g=(Sx.ak (Sx.free s (ag s g).ch) g,true):=by unfold common;simp [sK]
  rw [er]
  repeat (first | refine aR (FF s (ag s g).ch hm dM) ?_ | refine aR (zq (Sx.free s (ag s g).ch) g hg hb) ?_ | refine ay ?_ | intro _)
  exact aC func168
 | false =>
 have GL:¬ (aa s g).place=16:=by simpa using Av
 cases Aw:((aa s g).place == 17) with
 | true =>
  have pS:(aa s g).place=17:=by simpa using Aw
  obtain ⟨a,l,f1,f2,f3,f4⟩:=h.CZ pS;have er:common s g=(Sx.ak (ai (Sx.ready s a.toNat) g { aa s g with ak:=l }) g,true):=by unfold common;simp [pS,f1]
  rw [er];have w0:((aa s g).ak.map fun n=>[nI n])[(0:Int).toNat]?=some [nI a]:=by rw [f1];rfl
  have w1:(((aa s g).ak.map fun n=>[nI n]).take ((((aa s g).ak.map fun n=>[nI n]).length:Int)).toNat).drop (1:Int).toNat=l.map fun n=>[nI n]:=by
   rw [f1];simp;exact List.take_of_length_le (by simp)
  have w2:(1:Int)≤(((aa s g).ak.map fun n=>[nI n]).length:Int):=by rw [f1];simp;omega
  have w3:((Sx.ready s a.toNat).gs.length≤100000):=by rw [GH];exact hb
  repeat (first | refine ay ?_ | intro _)
  refine J.draw (by kernel_rfl) rfl ?_;refine JW.base (some 6) ?_;refine tk 0 ?_;refine tk 1 ?_;refine tk 2 ?_;refine JD.take 3 rfl rfl (by kernel_rfl) rfl (qb rfl) (Qt.dc rfl rfl (by omega) w0) rfl ?_;refine tk 4 ?_;refine c9 5 (Xp s a f2 f3 hb) ?_;refine jt 6 rfl rfl (Ld.bh rfl rfl rfl (by exact rfl) (by exact rfl)) (fun _=>?_);refine cu ?_
  repeat (first | refine aR (cS (Sx.ready s a.toNat) g { aa s g with ak:=l } (by rw [GH];exact hg) w3) ?_ | refine aR (zq (ai (Sx.ready s a.toNat) g { aa s g with ak:=l }) g (by rw [cz,GH];exact hg) (by rw [cz];exact w3)) ?_ | (refine K.slice ?_;refine jq rfl rfl rfl ((Qt.qp rfl rfl rfl (by omega) (by omega) (by omega)).eq (congrArg (fun z=>D.c (A.r 1 z)) w1)) ?_) | (refine K.bi ?_;refine JO.ld (Ld.fP (qb rfl) rfl rfl .read (by (simp;omega))) rfl (fun _=>?_)) | refine ay ?_ | intro _)
  exact aC func168
 | false =>
  have GM:¬ (aa s g).place=17:=by simpa using Aw
  have er:common s g=(s,false):=by unfold common;simp [n4,GI,GJ,GK,GL,GM]
  rw [er]
  repeat (first | refine ay ?_ | intro _)
  exact aC func168
end Fl
end Go.Proofs.YtdjhhbpedllnhaaGreat
