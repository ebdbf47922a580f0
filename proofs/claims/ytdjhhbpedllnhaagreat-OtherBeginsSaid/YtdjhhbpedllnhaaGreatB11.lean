/-
  What the laws need, part B11.
  Conditions: none.
-/
import Derived.Test.YtdjhhbpedllnhaaGreatB9
set_option linter.unusedVariables false
set_option linter.unusedSimpArgs false
set_option linter.unnecessarySimpa false
set_option maxHeartbeats 2000000
namespace Go.Proofs.YtdjhhbpedllnhaaGreat
open Go.RowKit
namespace Fl
open Sx Go.Proofs.Tryz
set_option maxRecDepth 100000
structure jf where
 size:Int
 most:Int
 ca:List (List Int)
 bH:List Int
 fresh:Int
def kV (p:jf):List A:=[nI p.size,nI p.most,.r 1 (p.ca.map fun l=>[ints l]),ints p.bH,nI p.fresh]
theorem SH (l:List Int) (x:Int) (hb:l.length≤100000) :
  Pure prog 263 [.c (ints l),.c (nI x)] (.c (bI (decide (x∈l)))):=by
 refine an.intro func263 rfl rfl rfl (fun ok e=>?_)
 repeat (refine gn ?_)
 refine J.loop (ι:={ k:Nat // ∀ y∈l.take k,x≠y }) (fun p=>[(7,.c (ints l)),(8,.c (nI l.length)),(9,.c (nI p.1)),(1,.c (nI x))]) (fun p=>[]) (fun p=>l.length - p.1) ⟨0,by simp⟩ (fun X h=>h.aW ⟨rfl,rfl,rfl,rfl,trivial⟩) (fun p ih=>?_);obtain ⟨k,hn⟩:=p;dsimp only
 by_cases hk:k < l.length
 ·obtain ⟨y,hy⟩:∃ y,l[k]?=some y:=⟨_,List.getElem?_eq_getElem hk⟩
  have h1:(decide ((k:Int) < (l.length:Int)))=true:=by simpa using hk
  repeat (refine gn ?_)
  refine J.cond rfl (fun h=>?_) (fun h=>?_)
  ·have lS:x=y:=by simpa using h
   have hm:decide (x∈l)=true:=by
    simp only [decide_eq_true_eq];rw [lS];exact List.mem_of_getElem? hy
   rw [hm]
   repeat (refine gn ?_)
   exact aD func263
  ·have lS:x≠y:=by simpa using h
   repeat (refine gn ?_)
   have kK:∀ z∈l.take (k + 1),x≠z:=fun z hz=>by rw [take_one hy] at hz;rcases List.mem_append.1 hz with hz | hz;exact hn z hz;simp at hz;rw [hz];exact lS
   refine (ih ⟨k + 1,kK⟩ (by (simp;omega))).aW (f:=_) ?_;exact ⟨rfl,rfl,rfl,rfl,trivial⟩
 ·have h1:(decide ((k:Int) < (l.length:Int)))=false:=by simpa using hk
  have hm:decide (x∈l)=false:=by
   simp only [decide_eq_false_iff_not];intro hx;rw [List.take_of_length_le (by omega)] at hn;exact hn x hx rfl
  rw [hm]
  repeat (refine gn ?_)
  exact aD func263
theorem SI (p:jf) (hb:(p.bH ++ p.ca.flatten).length≤100000) (hc:p.ca.length≤100000) :
  Pure prog 264 [.agg (kV p)] (.c (ints (p.bH ++ p.ca.flatten))):=by
 have Ya:p.bH.length + p.ca.flatten.length≤100000:=by simpa using hb
 refine an.intro func264 rfl rfl rfl (fun ok e=>?_)
 repeat (first | (refine K.bi ?_;refine JO.ld (Ld.cy (qb rfl) rfl rfl .read (by (simp;omega))) rfl (fun _=>?_)) | refine ay ?_ | intro _)
 rename_i b1 b2 v1;refine J.loop (ι:=Nat × Value) (fun q=>[(11,.c (.r 1 (p.ca.map fun l=>[ints l]))),(12,.c (nI p.ca.length)),(13,.c (nI q.1)),(3,.c (.v q.2))]) (fun q=>[.row q.2 3 1 ((p.bH ++ (p.ca.take q.1).flatten).map fun n=>[nI n]),.box b1 212 (kV p)]) (fun q=>p.ca.length - q.1) (0,v1) (fun X h=>J.dN (by simp) (h.aW ⟨rfl,rfl,rfl,rfl,trivial⟩)) (fun q ih=>?_);obtain ⟨k,v⟩:=q
 by_cases hk:k < p.ca.length
 ·obtain ⟨y,hy⟩:∃ y,p.ca[k]?=some y:=⟨_,List.getElem?_eq_getElem hk⟩
  have h1:(decide ((k:Int) < (p.ca.length:Int)))=true:=by simpa using hk
  have e2:=take_one hy;have hlen:(p.ca.take k).flatten.length + y.length≤p.ca.flatten.length:=by
   have:p.ca.flatten=(p.ca.take (k + 1)).flatten ++ (p.ca.drop (k + 1)).flatten:=by rw [← List.flatten_append,List.take_append_drop]
   rw [this,e2];simp [List.flatten_append]
  repeat (first | (refine K.indexAddr ?_;refine jx rfl rfl rfl rfl (by omega) (at_map (at_nat hy)) ?_) | (refine K.bi ?_;refine JO.ld (Ld.cy (qb rfl) rfl rfl .read (by simp only [List.length_map,List.length_append];omega)) rfl (fun _=>?_)) | refine gn ?_)
  rename_i v2;refine J.dN ?_ ((ih (k + 1,v2) (by (simp;omega))).aW ⟨rfl,rfl,rfl,rfl,trivial⟩);simp only [e2,List.flatten_append,List.flatten_cons,List.flatten_nil,List.append_nil,List.map_append,List.append_assoc]
 ·have h1:(decide ((k:Int) < (p.ca.length:Int)))=false:=by simpa using hk
  repeat (refine gn ?_)
  refine J.ji 2 rfl ?_;refine J.ret func264 rfl (.cons (.tmp rfl) .nil) () (.of_eq ?_) [] .nil rfl rfl;rw [List.take_of_length_le (show p.ca.length≤k by omega)];rfl
def ot (p:jf) (x:Int):Bool:=decide (0≤x) && decide (x < p.fresh) && !decide (x∈p.bH ++ p.ca.flatten)
theorem SJ (p:jf) (x:Int) (hb:(p.bH ++ p.ca.flatten).length≤100000) (hc:p.ca.length≤100000) :
  Pure prog 259 [.agg (kV p),.c (nI x)] (.c (bI (ot p x))):=by
 refine an.intro func259 rfl rfl rfl (fun ok e=>?_)
 cases h1:decide (x ≥ 0) with
 | false =>
  have e1:ot p x=false:=by unfold ot;have:decide (0≤x)=false:=h1;rw [this];rfl
  rw [e1]
  repeat (first | refine ay ?_ | intro _)
  exact aD func259
 | true =>
  cases h2:decide (x < p.fresh) with
  | false =>
   have e1:ot p x=false:=by unfold ot;rw [h2];simp
   rw [e1]
   repeat (first | refine ay ?_ | intro _)
   exact aD func259
  | true =>
   have e1:ot p x=!decide (x∈p.bH ++ p.ca.flatten):=by unfold ot;have:decide (0≤x)=true:=h1;rw [h2,this];rfl
   rw [e1]
   repeat (first | refine aX (SI p hb hc) ?_ | refine aX (SH (p.bH ++ p.ca.flatten) x hb) ?_ | refine ay ?_ | intro _)
   exact aD func259
theorem Kh (p:jf) (g:Nat) (l:List Int) (hg:g < p.ca.length) (hc:p.ca.length≤100000) :
  Pure prog 258 [.agg (kV p),.c (nI g),.c (ints l)] (.agg (kV { p with ca:=p.ca.set g l })):=by
 refine an.intro func258 rfl rfl rfl (fun ok e=>?_)
 repeat (first | (refine K.store ?_;refine JO.ld (Ld.eK rfl rfl rfl (by exact rfl) (by (simp;omega))) rfl (fun _=>?_)) | (refine K.indexAddr ?_;refine jq rfl rfl rfl (Qt.aI rfl rfl (by (omega)) (by (simp;omega))) ?_) | (refine K.bi ?_;refine JO.ld (Ld.cy (qb rfl) rfl rfl .read (by (simp;omega))) rfl (fun _=>?_)) | refine ay ?_ | intro _)
 refine J.vn 0 1 2 rfl rfl rfl ?_
 (refine J.ret func258 rfl (.cons (.cell 0 rfl rfl rfl) .nil) () (.of_eq ?_) [] .nil rfl rfl)
 have e1:([] ++ List.map (fun l=>[ints l]) p.ca).set ((g:Int)).toNat [ints l]=(p.ca.set g l).map fun l=>[ints l]:=by simp
 exact congrArg (fun r=>D.agg [nI p.size,nI p.most,.r 1 r,ints p.bH,nI p.fresh]) e1
end Fl
open Go.RowKit
namespace Fl
open Sx Go.Proofs.Tryz
set_option maxRecDepth 100000
def jf.take (p:jf) (g:Nat):jf × Int × Bool :=
 if Po.own p.most.toNat (p.ca.getD g []) p.bH=[] then
  (if p.fresh < p.size then ({ p with bH:=Po.bH p.most.toNat (p.ca.getD g []) p.bH,fresh:=p.fresh + 1 },p.fresh,true) else ({ p with bH:=Po.bH p.most.toNat (p.ca.getD g []) p.bH },0,false))
 else ({ p with ca:=p.ca.set g (Po.own p.most.toNat (p.ca.getD g []) p.bH).dropLast,bH:=Po.bH p.most.toNat (p.ca.getD g []) p.bH },(Po.own p.most.toNat (p.ca.getD g []) p.bH).getLastD 0,true)
theorem E7 {α:Type} {l:List α} {g:Nat} {d:α} (h:g < l.length):l[g]?=some (l.getD g d):=by
 rw [List.getD_eq_getElem?_getD,List.getElem?_eq_getElem h];rfl
theorem Ki (M:List Int) {k:Nat} (h:k < M.length):∃ y,M[M.length - (k + 1)]?=some y∧M.reverse.take (k + 1)=M.reverse.take k ++ [y]∧M.take (M.length - k)=M.take (M.length - (k + 1)) ++ [y]:=by
 refine ⟨M[M.length - (k + 1)]'(by omega),List.getElem?_eq_getElem (by omega),?_,?_⟩
 ·rw [List.take_add_one,List.getElem?_reverse h,show M.length - 1 - k=M.length - (k + 1) by omega,List.getElem?_eq_getElem (by omega)];rfl
 ·have e:M.length - k=M.length - (k + 1) + 1:=by omega
  rw [e,List.take_add_one,List.getElem?_eq_getElem (by omega)];rfl
theorem Kj {l:List Int} (h:l≠[]):l[l.length - 1]?=some (l.getLastD 0):=by
 cases l with
 | nil=>exact absurd rfl h
 | cons a l=>rw [List.getLastD_eq_getLast?,List.getLast?_eq_getElem?];simp
theorem Kk {l:List Int} {f:Int→List A} {n:Nat} {m:Int} (h:m=n):((l.map f).take m.toNat).drop (0:Int).toNat=(l.take n).map f:=by
 subst h;simp
def zc:List A:=vs [.int .i64 0,.int .i64 0,.slice none 0 0,.slice none 0 0,.int .i64 0]
theorem SK (p:jf) (g:Nat) (hg:g < p.ca.length) (hc:p.ca.length≤100000) (cF:(p.ca.getD g []).length≤100000) (hm:p.bH.length≤100000) (h1:1≤p.most) (h2:p.most≤100000) (hf:0≤p.fresh∧p.fresh≤100000) :
  Pure prog 247 [.agg (kV p),.c (nI g)] (.bp [.agg (kV (p.take g).1),.c (nI (p.take g).2.1),.c (bI (p.take g).2.2)]):=by
 refine an.intro func247 rfl rfl rfl (fun ok e=>?_);have hq:IntKind.i64.wrap (p.most.tdiv 2)=((p.most.toNat / 2:Nat):Int):=by
  rw [Int.tdiv_eq_ediv_of_nonneg (by omega),dJ (by omega) (by omega)];omega
 have t1:(decide ((g:Int) < 0))=false:=by simp
 have t2:(decide ((g:Int) ≥ (p.ca.length:Int)))=false:=by simp;omega
 unfold jf.take;generalize E8:p.ca.getD g []=c at *;have E9:p.ca[g]?=some c:=by rw [← E8];exact E7 hg
 repeat (first | (refine K.indexAddr ?_;refine jx rfl rfl rfl rfl (by omega) (at_map (at_nat E9)) ?_) | (refine K.bi ?_;refine JO.ld (Ld.cy (qb rfl) rfl rfl .read (by (simp;omega))) rfl (fun _=>?_)) | refine ay ?_ | intro _)
 rename_i b1 b2 SL vo SM vm;refine J.join (ι:=Unit) (fun _=>[(7,.c (ints (Po.own p.most.toNat c p.bH))),(8,.c (ints (Po.bH p.most.toNat c p.bH))),(1,.c (nI g)),(2,.c (.v (.pointer (some ⟨b1,0,none⟩)))),(4,.c (.v (.pointer (some ⟨b2,0,none⟩))))]) (fun _=>[.box b2 212 zc,.box b1 212 (kV p)]) (fun _=>?_) (fun rest=>?_)
 ·have qF:(Po.own p.most.toNat c p.bH).length≤200000:=by
   unfold Po.own;simp only [List.length_append,List.length_take,List.length_reverse];omega
  generalize Po.own p.most.toNat c p.bH=o at *;generalize Po.bH p.most.toNat c p.bH=m at *
  by_cases ho:o=[]
  ·have u1:(decide ((o.length:Int) > 0))=false:=by simp [ho]
   rw [if_pos ho]
   cases u2:decide (p.fresh < p.size) with
   | true =>
    have u3:p.fresh < p.size:=by simpa using u2
    rw [if_pos u3]
    repeat (first | (refine K.store ?_;refine JO.ld (Ld.cY rfl rfl (by exact rfl)) rfl (fun _=>?_)) | refine gn ?_)
    refine J.draw (by kernel_rfl) rfl ?_;refine JW.sv none (.tmp 4) rfl ?_;refine tk 0 ?_;refine tk 1 ?_;refine tk 2 ?_;refine JD.take 3 rfl rfl (by kernel_rfl) rfl (qb rfl) (Qt.cJ rfl rfl rfl (dJ (by omega) (by omega))) rfl ?_;refine JD.gU (i:=4) (by kernel_rfl) ?_
    (refine JS.st rfl rfl rfl (Ld.bq rfl rfl rfl (by exact rfl) (by exact rfl)) (.lA rfl) (fun _=>?_))
    refine tk 5 ?_;refine tk 6 ?_;refine bE ?_
    repeat (fail)
    (refine J.ret func247 rfl (.cons (.cell 0 rfl rfl rfl) (.cons (.tmp rfl) (.cons (.tmp rfl) .nil))) () (.of_eq ?_) [] .nil rfl rfl)
    show D.bp [D.agg [nI p.size,nI p.most,_,ints m,nI (p.fresh + 1)],D.c (nI (p.fresh + 1 - 1)),_]=_;rw [show p.fresh + 1 - 1=p.fresh by omega];rfl
   | false =>
    have u3:¬ p.fresh < p.size:=by simpa using u2
    rw [if_neg u3]
    repeat (first | (refine K.store ?_;first | refine JO.ld (Ld.bq rfl rfl rfl (by exact rfl) (by exact rfl)) rfl (fun _=>?_) | refine JO.ld (Ld.cY rfl rfl (by exact rfl)) rfl (fun _=>?_)) | refine gn ?_)
    (refine J.ret func247 rfl (.cons (.cell 0 rfl rfl rfl) (.cons (.tmp rfl) (.cons (.tmp rfl) .nil))) () (.of_eq ?_) [] .nil rfl rfl)
    rfl
  ·have Yb:1≤o.length:=List.length_pos_iff.2 ho;have u1:(decide ((o.length:Int) > 0))=true:=by simp;omega
   have hcut:((o.map fun n=>[nI n]).take ((o.length:Int) - 1).toNat).drop (0:Int).toNat=o.dropLast.map fun n=>[nI n]:=by
    rw [show ((o.length:Int) - 1).toNat=o.length - 1 by omega,List.dropLast_eq_take];simp
   rw [if_neg ho]
   repeat (first | (refine K.store ?_;refine JO.ld (Ld.cY rfl rfl (by exact rfl)) rfl (fun _=>?_)) | (refine K.indexAddr ?_;refine jx rfl rfl rfl rfl (by omega) (at_map (show o[((o.length:Int) - 1).toNat]?=some (o.getLastD 0) by rw [show ((o.length:Int) - 1).toNat=o.length - 1 by omega];exact Kj ho)) ?_) | refine gn ?_)
   refine J.draw (by kernel_rfl) rfl ?_;refine JW.sv none (.tmp 4) rfl ?_;refine tk 0 ?_;refine tk 1 ?_;refine tk 2 ?_;refine tk 3 ?_;refine tk 4 ?_;refine JD.take 5 rfl rfl (by kernel_rfl) rfl (qb rfl) (Qt.cJ rfl rfl rfl (dJ (by omega) (by omega))) rfl ?_;refine JD.take 6 rfl rfl (by kernel_rfl) rfl (qb rfl) ((Qt.pX rfl rfl rfl (by omega) (by omega) (by simp;omega)).eq (congrArg (fun z=>D.c (A.r 1 z)) hcut)) rfl ?_;refine tk 8 ?_;refine dA 7 (Kh { p with bH:=m } g o.dropLast hg hc) ?_;refine JD.gU (i:=9) (by kernel_rfl) ?_
   (refine JS.st rfl rfl rfl (Ld.bq rfl rfl rfl (by exact rfl) (by exact rfl)) (.lA rfl) (fun _=>?_))
   refine jk 10 rfl rfl rfl rfl (Qt.assign rfl) ?_;refine jk 11 rfl rfl rfl rfl (Qt.assign rfl) ?_;refine bE ?_
   repeat (fail)
   (refine J.ret func247 rfl (.cons (.cell 0 rfl rfl rfl) (.cons (.tmp rfl) (.cons (.tmp rfl) .nil))) () (.of_eq ?_) [] .nil rfl rfl)
   rfl
 ·refine J.cond rfl (fun h=>?_) (fun h=>?_)
  ·have h0:c=[]:=by simpa using h
   have Yc:1≤Po.room p.most.toNat:=by unfold Po.room;omega
   have ki:p.most.toNat / 2≤Po.room p.most.toNat:=by unfold Po.room;omega
   have Yd:Po.room p.most.toNat≤1∨Po.room p.most.toNat≤p.most.toNat / 2:=by unfold Po.room;omega
   have e8:A.r 1 ([] ++ p.bH.map fun n=>[nI n])=ints (p.bH.take (p.bH.length - 0)):=by simp;rfl
   refine J.ji 8 rfl ?_;refine J.block ?_;refine J.loop (ι:={ q:Nat × Value // q.1≤p.bH.length∧q.1≤Po.room p.most.toNat }) (fun q=>[(7,.c (.v q.1.2)),(8,.c (ints (p.bH.take (p.bH.length - q.1.1)))),(1,.c (nI g)),(2,.c (.v (.pointer (some ⟨b1,0,none⟩)))),(4,.c (.v (.pointer (some ⟨b2,0,none⟩))))]) (fun q=>[.row q.1.2 3 1 ((p.bH.reverse.take q.1.1).map fun n=>[nI n]),.box b2 212 zc,.box b1 212 (kV p)]) (fun q=>p.bH.length - q.1.1) ⟨(0,vo),by omega,by omega⟩ (fun X h=>J.dN (by simp [h0];rfl) (h.aW ⟨rfl,congrArg (fun z=>some (D.c z)) e8,rfl,rfl,rfl,trivial⟩)) (fun q ih=>?_);obtain ⟨⟨k,v⟩,bQ,bF⟩:=q;dsimp only at bQ bF ⊢;have em:(p.bH.take (p.bH.length - k)).length=p.bH.length - k:=by simp
   have eo:((p.bH.reverse.take k).map fun n=>[nI n]).length=k:=by simp;omega
   by_cases sC:k < p.bH.length∧k < Po.room p.most.toNat
   ·obtain ⟨y,y1,y2,y3⟩:=Ki p.bH sC.1;have w1:(decide (((p.bH.take (p.bH.length - k)).length:Int) > 0))=true:=by rw [em];simp;omega
    have y4:(p.bH.take (p.bH.length - k))[(((p.bH.take (p.bH.length - k)).length:Int) - 1).toNat]?=some y:=by
     rw [em,show (((p.bH.length - k:Nat):Int) - 1).toNat=p.bH.length - (k + 1) by omega,List.getElem?_take,if_pos (by omega)];exact y1
    have y5:(((p.bH.take (p.bH.length - k)).map fun n=>[nI n]).take (((p.bH.take (p.bH.length - k)).length:Int) - 1).toNat).drop (0:Int).toNat=(p.bH.take (p.bH.length - (k + 1))).map fun n=>[nI n]:=by
     rw [em,show (((p.bH.length - k:Nat):Int) - 1).toNat=p.bH.length - (k + 1) by omega,← List.map_take,List.take_take,Nat.min_eq_left (by omega)];rfl
    refine J.seq ?_;refine J.join (ι:=Unit) (fun _=>[(7,.c (.v v)),(8,.c (ints (p.bH.take (p.bH.length - k)))),(1,.c (nI g)),(2,.c (.v (.pointer (some ⟨b1,0,none⟩)))),(4,.c (.v (.pointer (some ⟨b2,0,none⟩))))]) (fun _=>[.row v 3 1 ((p.bH.reverse.take k).map fun n=>[nI n]),.box b2 212 zc,.box b1 212 (kV p)]) (fun _=>?_) (fun Kl=>?_)
    ·repeat (first | (refine K.indexAddr ?_;refine jx rfl rfl rfl rfl (by omega) (at_map y4) ?_) | (refine K.slice ?_;refine jq rfl rfl rfl ((Qt.pX rfl rfl rfl (by omega) (by omega) (by simp only [List.length_map];omega)).eq (congrArg (fun z=>D.c (A.r 1 z)) y5)) ?_) | (refine K.bi ?_;refine JO.ld (Ld.cy (qb rfl) rfl rfl .dj (by simp only [List.length_append,List.length_map,List.length_take,List.length_reverse,List.length_cons,List.length_nil];omega)) rfl (fun _=>?_)) | refine ay ?_ | intro _)
     rename_i b7 v7;refine J.drop 1 ?_;refine J.dN ?_ ((ih ⟨(k + 1,v7),by omega,by omega⟩ (by simp only;omega)).aW ⟨rfl,rfl,rfl,rfl,rfl,trivial⟩);simp only [y2,List.map_append];rfl
    ·refine J.seq ?_;refine J.region ?_
     cases w2:decide ((((p.bH.reverse.take k).map fun n=>[nI n]).length:Int) < ((p.most.toNat / 2:Nat):Int)) with
     | true =>
      repeat (first | (refine K.binOp ?_;refine jq rfl rfl rfl (Qt.quo rfl rfl (by decide) (hq)) ?_) | refine oJ ?_)
      refine JO.nil (J.gK rfl (J.skip ?_));exact (Kl ()).aW ⟨rfl,rfl,rfl,rfl,rfl,trivial⟩
     | false =>
      have w3:(decide ((((p.bH.reverse.take k).map fun n=>[nI n]).length:Int) < 1))=true:=by
       rw [eo] at w2 ⊢;simp at w2 ⊢;omega
      repeat (first | (refine K.binOp ?_;refine jq rfl rfl rfl (Qt.quo rfl rfl (by decide) (hq)) ?_) | refine oJ ?_)
      refine JO.nil (J.gK rfl (J.skip ?_));exact (Kl ()).aW ⟨rfl,rfl,rfl,rfl,rfl,trivial⟩
   ·have e1:p.bH.reverse.take k=Po.own p.most.toNat c p.bH:=by
     unfold Po.own Po.nM;rw [if_pos h0,h0,List.nil_append];congr 1;omega
    have e2:p.bH.take (p.bH.length - k)=Po.bH p.most.toNat c p.bH:=by
     unfold Po.bH Po.nM;rw [if_pos h0];congr 2;omega
    refine J.seq (J.seq (J.region ?_))
    cases w1:decide (((p.bH.take (p.bH.length - k)).length:Int) > 0) with
    | false =>
     repeat (refine oJ ?_)
     refine JO.nil (J.fT rfl ?_)
     repeat (first | refine J.exit rfl ?_ | refine J.inBlock ?_)
     refine J.ji 7 rfl ?_;exact (rest ()).aW ⟨congrArg (fun z=>some (D.c (ints z))) e1,congrArg (fun z=>some (D.c (ints z))) e2,rfl,rfl,rfl,trivial⟩
    | true =>
     have w2:decide ((((p.bH.reverse.take k).map fun n=>[nI n]).length:Int) < ((p.most.toNat / 2:Nat):Int))=false:=by
      rw [eo];rw [em] at w1;simp at w1 ⊢;omega
     have w3:(decide ((((p.bH.reverse.take k).map fun n=>[nI n]).length:Int) < 1))=false:=by
      rw [eo];rw [em] at w1;simp at w1 ⊢;omega
     repeat (first | (refine K.binOp ?_;refine jq rfl rfl rfl (Qt.quo rfl rfl (by decide) (hq)) ?_) | refine oJ ?_)
     refine JO.nil (J.fT rfl ?_)
     repeat (first | refine J.exit rfl ?_ | refine J.inBlock ?_)
     refine J.ji 7 rfl ?_;exact (rest ()).aW ⟨congrArg (fun z=>some (D.c (ints z))) e1,congrArg (fun z=>some (D.c (ints z))) e2,rfl,rfl,rfl,trivial⟩
  ·have h0:c≠[]:=by simpa using h
   have e1:Po.own p.most.toNat c p.bH=c:=by unfold Po.own Po.nM;rw [if_neg h0];simp
   have e2:Po.bH p.most.toNat c p.bH=p.bH:=by unfold Po.bH Po.nM;rw [if_neg h0];simp
   refine J.ji 7 rfl ?_;refine J.ji 8 rfl ?_;refine J.skip ?_;exact (rest ()).aW ⟨congrArg (fun z=>some (D.c (ints z))) e1.symm,congrArg (fun z=>some (D.c (ints z))) e2.symm,rfl,rfl,rfl,trivial⟩
end Fl
open Go.RowKit
namespace Fl
open Sx Go.Proofs.Tryz
set_option maxRecDepth 100000
def jf.cz (p:jf) (g:Nat) (x:Int):jf × Bool :=
 if ot p x=true then ({ p with ca:=p.ca.set g ((p.ca.getD g []).take ((p.ca.getD g []).length - Po.ez p.most.toNat (p.ca.getD g [])) ++ [x]),bH:=p.bH ++ (p.ca.getD g []).reverse.take (Po.ez p.most.toNat (p.ca.getD g [])) },true) else (p,false)
theorem SN (p:jf) (g:Nat) (x:Int) (hg:g < p.ca.length) (hc:p.ca.length≤50000) (cF:(p.ca.getD g []).length≤50000) (hm:p.bH.length≤40000) (ha:(p.bH ++ p.ca.flatten).length≤100000) (h1:1≤p.most) (h2:p.most≤100000) :
  Pure prog 250 [.agg (kV p),.c (nI g),.c (nI x)] (.bp [.agg (kV (p.cz g x).1),.c (bI (p.cz g x).2)]):=by
 refine an.intro func250 rfl rfl rfl (fun ok e=>?_);have hq:IntKind.i64.wrap (p.most.tdiv 2)=((p.most.toNat / 2:Nat):Int):=by
  rw [Int.tdiv_eq_ediv_of_nonneg (by omega),dJ (by omega) (by omega)];omega
 have t1:(decide ((g:Int) < 0))=false:=by simp
 have t2:(decide ((g:Int) ≥ (p.ca.length:Int)))=false:=by simp;omega
 have hC:=SJ p x ha (by omega)
 cases BE:ot p x with
 | false =>
  rw [BE] at hC;have er:p.cz g x=(p,false):=by unfold jf.cz;rw [BE];rfl
  rw [er]
  repeat (first | (refine K.store ?_;refine JO.ld (Ld.bq rfl rfl rfl (by exact rfl) (by exact rfl)) rfl (fun _=>?_)) | refine ay ?_ | intro _)
  (refine J.ret func250 rfl (.cons (.cell 0 rfl rfl rfl) (.cons (.tmp rfl) .nil)) () (.of_eq ?_) [] .nil rfl rfl)
  rfl
 | true =>
 rw [BE] at hC;have er:p.cz g x=({ p with ca:=p.ca.set g ((p.ca.getD g []).take ((p.ca.getD g []).length - Po.ez p.most.toNat (p.ca.getD g [])) ++ [x]),bH:=p.bH ++ (p.ca.getD g []).reverse.take (Po.ez p.most.toNat (p.ca.getD g [])) },true):=by unfold jf.cz;rw [if_pos BE]
 rw [er];clear er;generalize E8:p.ca.getD g []=c at *;have E9:p.ca[g]?=some c:=by rw [← E8];exact E7 hg
 repeat (first | (refine K.indexAddr ?_;refine jx rfl rfl rfl rfl (by omega) (at_map (at_nat E9)) ?_) | (refine K.bi ?_;refine JO.ld (Ld.cy (qb rfl) rfl rfl .read (by (simp;omega))) rfl (fun _=>?_)) | refine ay ?_ | intro _)
 rename_i b1 b2 SL vo SM vm;refine J.join (ι:=Value × Value) (fun q=>[(8,.c (.v q.1)),(9,.c (.v q.2)),(1,.c (nI g)),(2,.c (nI x)),(3,.c (.v (.pointer (some ⟨b1,0,none⟩)))),(6,.c (.v (.pointer (some ⟨b2,0,none⟩))))]) (fun q=>[.row q.1 3 1 ((c.take (c.length - Po.ez p.most.toNat c)).map fun n=>[nI n]),.row q.2 3 1 ((p.bH ++ c.reverse.take (Po.ez p.most.toNat c)).map fun n=>[nI n]),.box b2 212 zc,.box b1 212 (kV p)]) (fun q=>?_) (fun rest=>?_)
 ·obtain ⟨v8,v9⟩:=q;dsimp only;have qF:(c.take (c.length - Po.ez p.most.toNat c)).length≤50000:=by simp;omega
  generalize c.take (c.length - Po.ez p.most.toNat c)=o at *;generalize p.bH ++ c.reverse.take (Po.ez p.most.toNat c)=m at *
  repeat (first | (refine K.store ?_;refine JO.ld (Ld.cY rfl rfl (by exact rfl)) rfl (fun _=>?_)) | refine gn ?_)
  refine J.G3 9 3 3 rfl rfl rfl ?_;refine J.draw (by kernel_rfl) rfl ?_;refine JW.sv (some 7) (.tmp 8) rfl ?_;refine tk 0 ?_;refine tk 1 ?_;refine tk 2 ?_;refine tk 3 ?_;refine jl 4 rfl rfl rfl rfl (Ld.fM (qb rfl) rfl rfl rfl rfl rfl) .none (fun _=>?_);refine jl 5 rfl rfl rfl rfl (Ld.fO (qb rfl) rfl rfl .dj (by (simp;omega))) (.pW rfl) (fun _=>?_);refine jl 6 rfl rfl rfl rfl (Ld.pure (Kh { p with bH:=m } g (o ++ [x]) hg (show p.ca.length≤100000 by omega)) (qb rfl) rfl (by repeat (first | exact aJ.nil | refine aJ.cons (dU.agg (by repeat (first | exact .nil | refine .cons .refl ?_))) ?_ | refine aJ.cons dU.refl ?_ | refine aJ.cons (dU.c lf.snoc) ?_))) .none (fun _=>?_);refine jt 7 rfl rfl (Ld.bq rfl rfl rfl (by exact rfl) (by exact rfl)) (fun _=>?_);refine JW.base none ?_;refine jk 8 rfl rfl rfl rfl (Qt.assign rfl) ?_;refine bE ?_
  repeat (fail)
  (refine J.ret func250 rfl (.cons (.cell 1 rfl rfl rfl) (.cons (.tmp rfl) .nil)) () (.of_eq ?_) [] .nil rfl rfl)
  rfl
 ·refine J.cond rfl (fun h=>?_) (fun h=>?_)
  ·have h0:(c.length:Int)=p.most:=by simpa using h
   have hp:Po.ez p.most.toNat c=c.length - p.most.toNat / 2:=by unfold Po.ez;rw [if_pos (by omega)]
   refine J.pull 1 rfl ?_;refine J.block ?_;refine J.loop (ι:={ q:Nat × Value × Value // q.1≤c.length - p.most.toNat / 2 }) (fun q=>[(8,.c (.v q.1.2.1)),(9,.c (.v q.1.2.2)),(1,.c (nI g)),(2,.c (nI x)),(3,.c (.v (.pointer (some ⟨b1,0,none⟩)))),(6,.c (.v (.pointer (some ⟨b2,0,none⟩))))]) (fun q=>[.row q.1.2.1 3 1 ((c.take (c.length - q.1.1)).map fun n=>[nI n]),.row q.1.2.2 3 1 ((p.bH ++ c.reverse.take q.1.1).map fun n=>[nI n]),.box b2 212 zc,.box b1 212 (kV p)]) (fun q=>c.length - q.1.1) ⟨(0,vo,vm),by omega⟩ (fun X h=>J.dN (by simp;rfl) (h.aW ⟨rfl,rfl,rfl,rfl,rfl,rfl,trivial⟩)) (fun q ih=>?_);obtain ⟨⟨k,v,u⟩,hk⟩:=q;dsimp only at hk ⊢;have eo:((c.take (c.length - k)).map fun n=>[nI n]).length=c.length - k:=by simp
   by_cases sC:k < c.length - p.most.toNat / 2
   ·obtain ⟨y,y1,y2,y3⟩:=Ki c (show k < c.length by omega);have w1:(decide ((((c.take (c.length - k)).map fun n=>[nI n]).length:Int) > ((p.most.toNat / 2:Nat):Int)))=true:=by rw [eo];simp;omega
    have y4:((c.take (c.length - k)).map fun n=>[nI n])[((((c.take (c.length - k)).map fun n=>[nI n]).length:Int) - 1).toNat]?=some [nI y]:=by
     rw [eo,show (((c.length - k:Nat):Int) - 1).toNat=c.length - (k + 1) by omega];exact at_map (by rw [List.getElem?_take,if_pos (by omega)];exact y1)
    have y5:(((c.take (c.length - k)).map fun n=>[nI n]).take ((((c.take (c.length - k)).map fun n=>[nI n]).length:Int) - 1).toNat).drop (0:Int).toNat=(c.take (c.length - (k + 1))).map fun n=>[nI n]:=by
     rw [eo,show (((c.length - k:Nat):Int) - 1).toNat=c.length - (k + 1) by omega,← List.map_take,List.take_take,Nat.min_eq_left (by omega)];rfl
    repeat (first | (refine K.load ?_;((refine jq rfl rfl rfl (Qt.aL rfl (y4) (by exact rfl)) ?_))) | (refine K.indexAddr ?_;refine jq rfl rfl rfl (Qt.aI rfl rfl (by omega) (by omega)) ?_) | (refine K.binOp ?_;refine jq rfl rfl rfl (Qt.quo rfl rfl (by decide) (hq)) ?_) | (refine K.slice ?_;refine JO.ld (xR (qb rfl) rfl rfl rfl (by (omega)) (by (omega)) (by (omega)) (y5)) rfl (fun _=>?_)) | (refine K.bi ?_;refine JO.ld (Ld.cy (qb rfl) rfl rfl .dj (by simp only [List.length_append,List.length_map,List.length_take,List.length_reverse,List.length_cons,List.length_nil];omega)) rfl (fun _=>?_)) | refine ay ?_ | intro _)
    rename_i b5 u5 v5;refine J.cS 2 ?_;refine J.dN ?_ ((ih ⟨(k + 1,v5,u5),by omega⟩ (by simp only;omega)).aW ⟨rfl,rfl,rfl,rfl,rfl,rfl,trivial⟩);simp only [y2,List.map_append,List.append_assoc];rfl
   ·have bF:k=Po.ez p.most.toNat c:=by omega
    have w1:(decide ((((c.take (c.length - k)).map fun n=>[nI n]).length:Int) > ((p.most.toNat / 2:Nat):Int)))=false:=by rw [eo];simp;omega
    refine J.seq (J.seq (J.region ?_))
    repeat (first | (refine K.binOp ?_;refine jq rfl rfl rfl (Qt.quo rfl rfl (by decide) (hq)) ?_) | refine oJ ?_)
    refine JO.nil (J.fT rfl ?_)
    repeat (first | refine J.exit rfl ?_ | refine J.inBlock ?_)
    subst bF;exact (rest (v,u)).aW ⟨rfl,rfl,rfl,rfl,rfl,rfl,trivial⟩
  ·have h0:¬ (c.length:Int)=p.most:=by simpa using h
   have hp:Po.ez p.most.toNat c=0:=by unfold Po.ez;rw [if_neg (by omega)]
   refine J.pull 1 rfl ?_;refine J.skip ?_;refine J.dN ?_ ((rest (vo,vm)).aW ⟨rfl,rfl,rfl,rfl,rfl,rfl,trivial⟩);rw [hp];simp;rfl
end Fl
open Go.RowKit
namespace Fl
open Sx Go.Proofs.Tryz
set_option maxRecDepth 100000
def lO (s:ah):jf:=⟨s.dx,s.bX,s.cache,s.middle,s.fresh⟩
def ze (s:ah) (p:jf):ah:={ s with cache:=p.ca,middle:=p.bH,fresh:=p.fresh }
theorem SQ (s:ah) (g:Nat) (h1:1≤s.bX):bn s g=(ze s ((lO s).take g).1,((lO s).take g).2.1,((lO s).take g).2.2):=by
 unfold bn jf.take lO;dsimp only
 by_cases h:Po.own s.bX.toNat (s.cache.getD g []) s.middle=[]
 ·obtain ⟨e1,e2⟩:=Po.Dw (show 1≤s.bX.toNat by omega) h;have em:Po.bH s.bX.toNat (s.cache.getD g []) s.middle=s.middle:=by unfold Po.bH;rw [e2];simp
  rw [if_pos h,if_pos h,em]
  by_cases h2:s.fresh < s.dx
  ·rw [if_pos h2,if_pos h2];rfl
  ·rw [if_neg h2,if_neg h2];rfl
 ·rw [if_neg h,if_neg h];rfl
theorem SS (s:ah) (x:Int):gM s x=ot (lO s) x:=by
 unfold gM ot tX lO;rw [List.contains_eq_mem]
theorem SU (s:ah) (g:Nat) (x:Int):dO s g x=ze s ((lO s).cz g x).1:=by
 unfold dO jf.cz;rw [SS]
 by_cases h:ot (lO s) x=true
 ·rw [if_pos h,if_pos h];rfl
 ·rw [if_neg h,if_neg h];rfl
theorem Km (s:ah):Pure prog 248 [.agg (aC s)] (.agg (kV (lO s))):=by
 refine an.intro func248 rfl rfl rfl (fun ok e=>?_)
 repeat (first | refine ay ?_ | intro _)
 exact aD func248
theorem Kn (s:ah) (p:jf):Pure prog 249 [.agg (aC s),.agg (kV p)] (.agg (aC (ze s p))):=by
 refine an.intro func249 rfl rfl rfl (fun ok e=>?_)
 repeat (first | refine ay ?_ | intro _)
 exact aD func249
structure ou (s:ah):Prop where
 c1:s.cache.length≤50000
 c2:∀ g:Nat,(s.cache.getD g []).length≤50000
 c3:s.middle.length≤40000
 c4:(s.middle ++ s.cache.flatten).length≤100000
 c5:1≤s.bX∧s.bX≤100000
 c6:0≤s.fresh∧s.fresh≤100000
theorem Ko (s:ah) (g:Nat) (hg:g < s.cache.length) (hb:ou s) :
  Pure prog 214 [.agg (aC s),.c (nI g)] (.bp [.agg (aC (bn s g).1),.c (nI (bn s g).2.1),.c (bI (bn s g).2.2)]):=by
 rw [SQ s g hb.c5.1];refine an.intro func214 rfl rfl rfl (fun ok e=>?_)
 repeat (first | refine aX (Km s) ?_ | refine aX (SK (lO s) g hg (Nat.le_trans hb.c1 (by omega)) (Nat.le_trans (hb.c2 g) (by omega)) (Nat.le_trans hb.c3 (by omega)) hb.c5.1 hb.c5.2 hb.c6) ?_ | refine aX (Kn s ((lO s).take g).1) ?_ | refine ay ?_ | intro _)
 exact aD func214
theorem Kp (s:ah) (g:Nat) (x:Int) (hg:g < s.cache.length) (hb:ou s) (h0:0≤x) (hx:x < s.aA.length) (hs:s.aA.length≤100000) :
  Pure prog 217 [.agg (aC s),.c (nI g),.c (nI x)] (.agg (aC (Sx.cz s g x))):=by
 have er:Sx.cz s g x=aV (ze s ((lO s).cz g x).1) x fB:=by unfold Sx.cz;rw [SU]
 rw [er];refine an.intro func217 rfl rfl rfl (fun ok e=>?_)
 repeat (first | refine aX (Km s) ?_ | refine aX (SN (lO s) g x hg hb.c1 (hb.c2 g) hb.c3 hb.c4 hb.c5.1 hb.c5.2) ?_ | refine aX (Kn s ((lO s).cz g x).1) ?_ | refine aX (vY (ze s ((lO s).cz g x).1) x fB h0 hx hs) ?_ | refine ay ?_ | intro _)
 exact aD func217
end Fl
open Go.RowKit
namespace Fl
open Sx Go.Proofs.Tryz
set_option maxRecDepth 100000
structure wJ (s:ah) (g:Nat):Prop where
 lt:g < s.gs.length
 dD:0≤(aa s g).at_
 Fa:Few s
 l4:(aa s g).place=4→aT s (ag s g).ch=true
 BF:(aa s g).place=12→aT s (ag s g).ch=true
 BH:(aa s g).place=15→ou s∧g < s.cache.length∧0≤(aa s g).bh∧(aa s g).bh < s.aA.length
 SV:(aa s g).place=16→aT s (ag s g).ch=true
 BI:(aa s g).place=17→∃ a l,(aa s g).au=a :: l∧0≤a∧a < s.gs.length∧l.length≤50000
theorem SW (s:ah) (g:Int) (h0:0≤g) (hg:g < s.gs.length) (hb:s.gs.length≤100000) :
  Pure prog 219 [.agg (aC s),.c (nI g)] (.agg (aC (Sx.ready s g.toNat))):=by
 have:=Qc s g.toNat (by omega) hb
 rwa [← J6 h0] at this
theorem Fb (s:ah) (g:Nat):(Sx.ready s g).gs.length=s.gs.length:=by simp [Sx.ready,ai]
theorem wK (s:ah) (g:Nat) (p:Int):(Sx.aS s g p).gs.length=s.gs.length:=by simp [Sx.aS,ai]
theorem SX (s:ah) (ch:Int):(Sx.free s ch).gs=s.gs:=rfl
theorem BJ (s:ah) (g:Nat) (ch:Int):(Sx.tryLock s g ch).1.gs=s.gs:=by unfold Sx.tryLock;split <;> rfl
theorem zf (s:ah) (g:Nat) (x:Int):(Sx.cz s g x).gs=s.gs:=by unfold Sx.cz dO;split <;> rfl
theorem sY {s s':ah} (h:s'.gs=s.gs) (g:Nat):aa s' g=aa s g:=by unfold aa;rw [h]
theorem fS (s:ah) (g:Nat) (h:wJ s g) :
  Pure prog 168 [.agg (aC s),.c (nI g)] (.bp [.agg (aC (common s g).1),.c (bI (common s g).2)]):=by
 have hg:=h.lt;have hb:=h.Fa.1;have dL:=h.Fa.2.1;refine an.intro func168 rfl rfl rfl (fun ok e=>?_);have C0:=dI s g hg h.dD
 cases p4:((aa s g).place == 4) with
 | true =>
  have e4:(aa s g).place=4:=by simpa using p4
  have hm:=h.l4 e4;have C1:=IJ s g (ag s g).ch hm dL;have g2:g < (Sx.tryLock s g (ag s g).ch).1.gs.length:=by rw [BJ];exact hg
  have b2:(Sx.tryLock s g (ag s g).ch).1.gs.length≤100000:=by rw [BJ];exact hb
  cases ht:(Sx.tryLock s g (ag s g).ch).2 with
  | false =>
   have er:common s g=(s,true):=by unfold common;simp [e4,ht]
   rw [er];rw [ht] at C1
   repeat (first | refine ay ?_ | intro _)
   exact aD func168
  | true =>
   rw [ht] at C1
   cases hk:((ag s g).kind == 6) with
   | true =>
    have ek:(ag s g).kind=6:=by simpa using hk
    have er:common s g=(Sx.aS (Sx.tryLock s g (ag s g).ch).1 g 21,true):=by unfold common;simp [e4,ht,ek]
    rw [er]
    repeat (first | refine aX (fQ (Sx.tryLock s g (ag s g).ch).1 g 21 g2 b2) ?_ | refine ay ?_ | intro _)
    exact aD func168
   | false =>
    have ek:¬ (ag s g).kind=6:=by simpa using hk
    have er:common s g=(Sx.aS (Sx.tryLock s g (ag s g).ch).1 g 5,true):=by unfold common;simp [e4,ht,ek]
    rw [er]
    repeat (first | refine aX (fQ (Sx.tryLock s g (ag s g).ch).1 g 5 g2 b2) ?_ | refine ay ?_ | intro _)
    exact aD func168
 | false =>
 have n4:¬ (aa s g).place=4:=by simpa using p4
 cases zg:((aa s g).place == 12) with
 | true =>
  have rM:(aa s g).place=12:=by simpa using zg
  have hm:=h.BF rM;have er:common s g=(Sx.aS (Sx.free s (ag s g).ch) g 13,true):=by unfold common;simp [rM]
  rw [er]
  repeat (first | refine aX (Em s (ag s g).ch hm dL) ?_ | refine aX (fQ (Sx.free s (ag s g).ch) g 13 hg hb) ?_ | refine ay ?_ | intro _)
  exact aD func168
 | false =>
 have Fc:¬ (aa s g).place=12:=by simpa using zg
 cases zh:((aa s g).place == 13) with
 | true =>
  have oX:(aa s g).place=13:=by simpa using zh
  have er:common s g=(Sx.gi (Sx.aS s g 14) g,true):=by unfold common;simp [oX]
  rw [er]
  repeat (first | refine aX (fQ s g 14 hg hb) ?_ | refine aX (IK (Sx.aS s g 14) g (by rw [wK];exact hg) (by rw [wK];exact hb)) ?_ | refine ay ?_ | intro _)
  exact aD func168
 | false =>
 have BK:¬ (aa s g).place=13:=by simpa using zh
 cases zi:((aa s g).place == 15) with
 | true =>
  have rN:(aa s g).place=15:=by simpa using zi
  obtain ⟨f1,f2,f3,f4⟩:=h.BH rN;have er:common s g=(Sx.aS (ai (Sx.cz s g (aa s g).bh) g { aa s g with bh:=-1 }) g 18,true):=by unfold common;simp [rN]
  rw [er]
  repeat (first | refine aX (Kp s g (aa s g).bh f2 f1 f3 f4 h.Fa.2.2) ?_ | refine aX (cV (Sx.cz s g (aa s g).bh) g { aa s g with bh:=-1 } (by rw [zf];exact hg) (by rw [zf];exact hb)) ?_ | refine aX (fQ (ai (Sx.cz s g (aa s g).bh) g { aa s g with bh:=-1 }) g 18 (by rw [cD,zf];exact hg) (by rw [cD,zf];exact hb)) ?_ | refine ay ?_ | intro _)
  exact aD func168
 | false =>
 have Ff:¬ (aa s g).place=15:=by simpa using zi
 cases zj:((aa s g).place == 16) with
 | true =>
  have rO:(aa s g).place=16:=by simpa using zj
  have hm:=h.SV rO;have er:common s g=(Sx.au (Sx.free s (ag s g).ch) g,true):=by unfold common;simp [rO]
  rw [er]
  repeat (first | refine aX (Em s (ag s g).ch hm dL) ?_ | refine aX (yG (Sx.free s (ag s g).ch) g hg hb) ?_ | refine ay ?_ | intro _)
  exact aD func168
 | false =>
 have Fg:¬ (aa s g).place=16:=by simpa using zj
 cases zm:((aa s g).place == 17) with
 | true =>
  have nu:(aa s g).place=17:=by simpa using zm
  obtain ⟨a,l,f1,f2,f3,f4⟩:=h.BI nu;have er:common s g=(Sx.au (ai (Sx.ready s a.toNat) g { aa s g with au:=l }) g,true):=by unfold common;simp [nu,f1]
  rw [er];have w0:((aa s g).au.map fun n=>[nI n])[(0:Int).toNat]?=some [nI a]:=by rw [f1];rfl
  have w1:(((aa s g).au.map fun n=>[nI n]).take ((((aa s g).au.map fun n=>[nI n]).length:Int)).toNat).drop (1:Int).toNat=l.map fun n=>[nI n]:=by
   rw [f1];simp;exact List.take_of_length_le (by simp)
  have w2:(1:Int)≤(((aa s g).au.map fun n=>[nI n]).length:Int):=by rw [f1];simp;omega
  have w3:((Sx.ready s a.toNat).gs.length≤100000):=by rw [Fb];exact hb
  repeat (first | refine ay ?_ | intro _)
  refine J.draw (by kernel_rfl) rfl ?_;refine JW.base (some 6) ?_;refine tk 0 ?_;refine tk 1 ?_;refine tk 2 ?_;refine JD.take 3 rfl rfl (by kernel_rfl) rfl (qb rfl) (Qt.cI rfl rfl (by omega) w0) rfl ?_;refine tk 4 ?_;refine dA 5 (SW s a f2 f3 hb) ?_;refine jt 6 rfl rfl (Ld.bq rfl rfl rfl (by exact rfl) (by exact rfl)) (fun _=>?_);refine bR ?_
  repeat (first | refine aX (cV (Sx.ready s a.toNat) g { aa s g with au:=l } (by rw [Fb];exact hg) w3) ?_ | refine aX (yG (ai (Sx.ready s a.toNat) g { aa s g with au:=l }) g (by rw [cD,Fb];exact hg) (by rw [cD];exact w3)) ?_ | (refine K.slice ?_;refine jq rfl rfl rfl ((Qt.pX rfl rfl rfl (by omega) (by omega) (by omega)).eq (congrArg (fun z=>D.c (A.r 1 z)) w1)) ?_) | (refine K.bi ?_;refine JO.ld (Ld.fO (qb rfl) rfl rfl .read (by (simp;omega))) rfl (fun _=>?_)) | refine ay ?_ | intro _)
  exact aD func168
 | false =>
  have BL:¬ (aa s g).place=17:=by simpa using zm
  have er:common s g=(s,false):=by unfold common;simp [n4,Fc,BK,Ff,Fg,BL]
  rw [er]
  repeat (first | refine ay ?_ | intro _)
  exact aD func168
end Fl
end Go.Proofs.YtdjhhbpedllnhaaGreat
