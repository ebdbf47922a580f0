/-
  What the laws need, part A26.
  Conditions: none.
-/
import Derived.Test.YtofnbflkhgammaaGreatA24
set_option linter.unusedVariables false
set_option linter.unusedSimpArgs false
set_option linter.unnecessarySimpa false
set_option maxHeartbeats 2000000
namespace Go.Proofs.YtofnbflkhgammaaGreat
open Go.RowKit
namespace Fl
set_option maxRecDepth 100000
structure iN where
 size:Int
 most:Int
 ca:List (List Int)
 aW:List Int
 fresh:Int
def kR (p:iN):List A:=[nI p.size,nI p.most,.r 1 (p.ca.map fun l=>[ints l]),ints p.aW,nI p.fresh]
theorem WU (l:List Int) (x:Int) (hb:l.length≤100000) :
  Pure Tryz.prog 212 [.c (ints l),.c (nI x)] (.c (bI (decide (x∈l)))):=by
 refine aq.intro Tryz.func212 rfl rfl rfl (fun ok e=>?_)
 repeat (refine gn ?_)
 refine J.loop (ι:={ k:Nat // ∀ y∈l.take k,x≠y }) (fun p=>[(7,.c (ints l)),(8,.c (nI l.length)),(9,.c (nI p.1)),(1,.c (nI x))]) (fun p=>[]) (fun p=>l.length - p.1) ⟨0,by simp⟩ (fun X h=>h.aU ⟨rfl,rfl,rfl,rfl,trivial⟩) (fun p ih=>?_);obtain ⟨k,hn⟩:=p;dsimp only
 by_cases hk:k < l.length
 ·obtain ⟨y,hy⟩:∃ y,l[k]?=some y:=⟨_,List.getElem?_eq_getElem hk⟩
  have h1:(decide ((k:Int) < (l.length:Int)))=true:=by simpa using hk
  repeat (refine gn ?_)
  refine J.cond rfl (fun h=>?_) (fun h=>?_)
  ·have lI:x=y:=by simpa using h
   have hm:decide (x∈l)=true:=by
    simp only [decide_eq_true_eq];rw [lI];exact List.mem_of_getElem? hy
   rw [hm]
   repeat (refine gn ?_)
   exact az Tryz.func212
  ·have lI:x≠y:=by simpa using h
   repeat (refine gn ?_)
   have kY:∀ z∈l.take (k + 1),x≠z:=fun z hz=>by rw [take_one hy] at hz;rcases List.mem_append.1 hz with hz | hz;exact hn z hz;simp at hz;rw [hz];exact lI
   refine (ih ⟨k + 1,kY⟩ (by (simp;omega))).aU (f:=_) ?_;exact ⟨rfl,rfl,rfl,rfl,trivial⟩
 ·have h1:(decide ((k:Int) < (l.length:Int)))=false:=by simpa using hk
  have hm:decide (x∈l)=false:=by
   simp only [decide_eq_false_iff_not];intro hx;rw [List.take_of_length_le (by omega)] at hn;exact hn x hx rfl
  rw [hm]
  repeat (refine gn ?_)
  exact az Tryz.func212
theorem WV (p:iN) (hb:(p.aW ++ p.ca.flatten).length≤100000) (hc:p.ca.length≤100000) :
  Pure Tryz.prog 213 [.agg (kR p)] (.c (ints (p.aW ++ p.ca.flatten))):=by
 have AG:p.aW.length + p.ca.flatten.length≤100000:=by simpa using hb
 refine aq.intro Tryz.func213 rfl rfl rfl (fun ok e=>?_)
 repeat (first | (refine K.bi ?_;refine JO.ld (Ld.bY (qb rfl) rfl rfl .read (by (simp;omega))) rfl (fun _=>?_)) | refine au ?_ | intro _)
 rename_i b1 b2 v1;refine J.loop (ι:=Nat × Value) (fun q=>[(11,.c (.r 1 (p.ca.map fun l=>[ints l]))),(12,.c (nI p.ca.length)),(13,.c (nI q.1)),(3,.c (.v q.2))]) (fun q=>[.row q.2 3 1 ((p.aW ++ (p.ca.take q.1).flatten).map fun n=>[nI n]),.box b1 166 (kR p)]) (fun q=>p.ca.length - q.1) (0,v1) (fun X h=>J.dZ (by simp) (h.aU ⟨rfl,rfl,rfl,rfl,trivial⟩)) (fun q ih=>?_);obtain ⟨k,v⟩:=q
 by_cases hk:k < p.ca.length
 ·obtain ⟨y,hy⟩:∃ y,p.ca[k]?=some y:=⟨_,List.getElem?_eq_getElem hk⟩
  have h1:(decide ((k:Int) < (p.ca.length:Int)))=true:=by simpa using hk
  have e2:=take_one hy;have hlen:(p.ca.take k).flatten.length + y.length≤p.ca.flatten.length:=by
   have:p.ca.flatten=(p.ca.take (k + 1)).flatten ++ (p.ca.drop (k + 1)).flatten:=by rw [← List.flatten_append,List.take_append_drop]
   rw [this,e2];simp [List.flatten_append]
  repeat (first | (refine K.indexAddr ?_;refine jx rfl rfl rfl rfl (by omega) (at_map (at_nat hy)) ?_) | (refine K.bi ?_;refine JO.ld (Ld.bY (qb rfl) rfl rfl .read (by simp only [List.length_map,List.length_append];omega)) rfl (fun _=>?_)) | refine gn ?_)
  rename_i v2;refine J.dZ ?_ ((ih (k + 1,v2) (by (simp;omega))).aU ⟨rfl,rfl,rfl,rfl,trivial⟩);simp only [e2,List.flatten_append,List.flatten_cons,List.flatten_nil,List.append_nil,List.map_append,List.append_assoc]
 ·have h1:(decide ((k:Int) < (p.ca.length:Int)))=false:=by simpa using hk
  repeat (refine gn ?_)
  refine J.jE 2 rfl ?_;refine J.ret Tryz.func213 rfl (.cons (.tmp rfl) .nil) () (.of_eq ?_) [] .nil rfl rfl;rw [List.take_of_length_le (show p.ca.length≤k by omega)];rfl
def oq (p:iN) (x:Int):Bool:=decide (0≤x) && decide (x < p.fresh) && !decide (x∈p.aW ++ p.ca.flatten)
theorem WW (p:iN) (x:Int) (hb:(p.aW ++ p.ca.flatten).length≤100000) (hc:p.ca.length≤100000) :
  Pure Tryz.prog 180 [.agg (kR p),.c (nI x)] (.c (bI (oq p x))):=by
 refine aq.intro Tryz.func180 rfl rfl rfl (fun ok e=>?_)
 cases h1:decide (x ≥ 0) with
 | false =>
  have e1:oq p x=false:=by unfold oq;have:decide (0≤x)=false:=h1;rw [this];rfl
  rw [e1]
  repeat (first | refine au ?_ | intro _)
  exact az Tryz.func180
 | true =>
  cases h2:decide (x < p.fresh) with
  | false =>
   have e1:oq p x=false:=by unfold oq;rw [h2];simp
   rw [e1]
   repeat (first | refine au ?_ | intro _)
   exact az Tryz.func180
  | true =>
   have e1:oq p x=!decide (x∈p.aW ++ p.ca.flatten):=by unfold oq;have:decide (0≤x)=true:=h1;rw [h2,this];rfl
   rw [e1]
   repeat (first | refine aJ (WV p hb hc) ?_ | refine aJ (WU (p.aW ++ p.ca.flatten) x hb) ?_ | refine au ?_ | intro _)
   exact az Tryz.func180
theorem Mu (p:iN) (g:Nat) (l:List Int) (hg:g < p.ca.length) (hc:p.ca.length≤100000) :
  Pure Tryz.prog 181 [.agg (kR p),.c (nI g),.c (ints l)] (.agg (kR { p with ca:=p.ca.set g l })):=by
 refine aq.intro Tryz.func181 rfl rfl rfl (fun ok e=>?_)
 repeat (first | (refine K.store ?_;refine JO.ld (Ld.fO rfl rfl rfl (by exact rfl) (by (simp;omega))) rfl (fun _=>?_)) | (refine K.indexAddr ?_;refine jq rfl rfl rfl (Qt.bF rfl rfl (by (omega)) (by (simp;omega))) ?_) | (refine K.bi ?_;refine JO.ld (Ld.bY (qb rfl) rfl rfl .read (by (simp;omega))) rfl (fun _=>?_)) | refine au ?_ | intro _)
 refine J.ve 0 1 2 rfl rfl rfl ?_
 (refine J.ret Tryz.func181 rfl (.cons (.cell 0 rfl rfl rfl) .nil) () (.of_eq ?_) [] .nil rfl rfl)
 have e1:([] ++ List.map (fun l=>[ints l]) p.ca).set ((g:Int)).toNat [ints l]=(p.ca.set g l).map fun l=>[ints l]:=by simp
 exact congrArg (fun r=>D.agg [nI p.size,nI p.most,.r 1 r,ints p.aW,nI p.fresh]) e1
end Fl
open Go.RowKit
namespace Fl
set_option maxRecDepth 100000
def iN.take (p:iN) (g:Nat):iN × Int × Bool :=
 if Po.own p.most.toNat (p.ca.getD g []) p.aW=[] then
  (if p.fresh < p.size then ({ p with aW:=Po.aW p.most.toNat (p.ca.getD g []) p.aW,fresh:=p.fresh + 1 },p.fresh,true) else ({ p with aW:=Po.aW p.most.toNat (p.ca.getD g []) p.aW },0,false))
 else ({ p with ca:=p.ca.set g (Po.own p.most.toNat (p.ca.getD g []) p.aW).dropLast,aW:=Po.aW p.most.toNat (p.ca.getD g []) p.aW },(Po.own p.most.toNat (p.ca.getD g []) p.aW).getLastD 0,true)
theorem FN {α:Type} {l:List α} {g:Nat} {d:α} (h:g < l.length):l[g]?=some (l.getD g d):=by
 rw [List.getD_eq_getElem?_getD,List.getElem?_eq_getElem h];rfl
theorem Mv (M:List Int) {k:Nat} (h:k < M.length):∃ y,M[M.length - (k + 1)]?=some y∧M.reverse.take (k + 1)=M.reverse.take k ++ [y]∧M.take (M.length - k)=M.take (M.length - (k + 1)) ++ [y]:=by
 refine ⟨M[M.length - (k + 1)]'(by omega),List.getElem?_eq_getElem (by omega),?_,?_⟩
 ·rw [List.take_add_one,List.getElem?_reverse h,show M.length - 1 - k=M.length - (k + 1) by omega,List.getElem?_eq_getElem (by omega)];rfl
 ·have e:M.length - k=M.length - (k + 1) + 1:=by omega
  rw [e,List.take_add_one,List.getElem?_eq_getElem (by omega)];rfl
theorem Mw {l:List Int} (h:l≠[]):l[l.length - 1]?=some (l.getLastD 0):=by
 cases l with
 | nil=>exact absurd rfl h
 | cons a l=>rw [List.getLastD_eq_getLast?,List.getLast?_eq_getElem?];simp
theorem Mx {l:List Int} {f:Int→List A} {n:Nat} {m:Int} (h:m=n):((l.map f).take m.toNat).drop (0:Int).toNat=(l.take n).map f:=by
 subst h;simp
def zg:List A:=vs [.int .i64 0,.int .i64 0,.slice none 0 0,.slice none 0 0,.int .i64 0]
theorem WX (p:iN) (g:Nat) (hg:g < p.ca.length) (hc:p.ca.length≤100000) (bQ:(p.ca.getD g []).length≤100000) (hm:p.aW.length≤100000) (h1:1≤p.most) (h2:p.most≤100000) (hf:0≤p.fresh∧p.fresh≤100000) :
  Pure Tryz.prog 216 [.agg (kR p),.c (nI g)] (.aV [.agg (kR (p.take g).1),.c (nI (p.take g).2.1),.c (bI (p.take g).2.2)]):=by
 refine aq.intro Tryz.func216 rfl rfl rfl (fun ok e=>?_);have hq:IntKind.i64.wrap (p.most.tdiv 2)=((p.most.toNat / 2:Nat):Int):=by
  rw [Int.tdiv_eq_ediv_of_nonneg (by omega),fJ (by omega) (by omega)];omega
 have t1:(decide ((g:Int) < 0))=false:=by simp
 have t2:(decide ((g:Int) ≥ (p.ca.length:Int)))=false:=by simp;omega
 unfold iN.take;generalize FO:p.ca.getD g []=c at *;have FP:p.ca[g]?=some c:=by rw [← FO];exact FN hg
 repeat (first | (refine K.indexAddr ?_;refine jx rfl rfl rfl rfl (by omega) (at_map (at_nat FP)) ?_) | (refine K.bi ?_;refine JO.ld (Ld.bY (qb rfl) rfl rfl .read (by (simp;omega))) rfl (fun _=>?_)) | refine au ?_ | intro _)
 rename_i b1 b2 WY vo WZ vm;refine J.join (ι:=Unit) (fun _=>[(7,.c (ints (Po.own p.most.toNat c p.aW))),(8,.c (ints (Po.aW p.most.toNat c p.aW))),(1,.c (nI g)),(2,.c (.v (.pointer (some ⟨b1,0,none⟩)))),(4,.c (.v (.pointer (some ⟨b2,0,none⟩))))]) (fun _=>[.box b2 166 zg,.box b1 166 (kR p)]) (fun _=>?_) (fun rest=>?_)
 ·have mh:(Po.own p.most.toNat c p.aW).length≤200000:=by
   unfold Po.own;simp only [List.length_append,List.length_take,List.length_reverse];omega
  generalize Po.own p.most.toNat c p.aW=o at *;generalize Po.aW p.most.toNat c p.aW=m at *
  by_cases ho:o=[]
  ·have u1:(decide ((o.length:Int) > 0))=false:=by simp [ho]
   rw [if_pos ho]
   cases u2:decide (p.fresh < p.size) with
   | true =>
    have u3:p.fresh < p.size:=by simpa using u2
    rw [if_pos u3]
    repeat (first | (refine K.store ?_;refine JO.ld (Ld.cG rfl rfl (by exact rfl)) rfl (fun _=>?_)) | refine gn ?_)
    refine J.draw (by kernel_rfl) rfl ?_;refine JW.xA none (.tmp 4) rfl ?_;refine tk 0 ?_;refine tk 1 ?_;refine tk 2 ?_;refine JD.take 3 rfl rfl (by kernel_rfl) rfl (qb rfl) (Qt.cP rfl rfl rfl (fJ (by omega) (by omega))) rfl ?_;refine JD.bk (i:=4) (by kernel_rfl) ?_
    (refine JS.st rfl rfl rfl (Ld.aP rfl rfl rfl (by exact rfl) (by exact rfl)) (.mz rfl) (fun _=>?_))
    refine tk 5 ?_;refine tk 6 ?_;refine bH ?_
    repeat (fail)
    (refine J.ret Tryz.func216 rfl (.cons (.cell 0 rfl rfl rfl) (.cons (.tmp rfl) (.cons (.tmp rfl) .nil))) () (.of_eq ?_) [] .nil rfl rfl)
    show D.aV [D.agg [nI p.size,nI p.most,_,ints m,nI (p.fresh + 1)],D.c (nI (p.fresh + 1 - 1)),_]=_;rw [show p.fresh + 1 - 1=p.fresh by omega];rfl
   | false =>
    have u3:¬ p.fresh < p.size:=by simpa using u2
    rw [if_neg u3]
    repeat (first | (refine K.store ?_;first | refine JO.ld (Ld.aP rfl rfl rfl (by exact rfl) (by exact rfl)) rfl (fun _=>?_) | refine JO.ld (Ld.cG rfl rfl (by exact rfl)) rfl (fun _=>?_)) | refine gn ?_)
    (refine J.ret Tryz.func216 rfl (.cons (.cell 0 rfl rfl rfl) (.cons (.tmp rfl) (.cons (.tmp rfl) .nil))) () (.of_eq ?_) [] .nil rfl rfl)
    rfl
  ·have aar:1≤o.length:=List.length_pos_iff.2 ho;have u1:(decide ((o.length:Int) > 0))=true:=by simp;omega
   have hcut:((o.map fun n=>[nI n]).take ((o.length:Int) - 1).toNat).drop (0:Int).toNat=o.dropLast.map fun n=>[nI n]:=by
    rw [show ((o.length:Int) - 1).toNat=o.length - 1 by omega,List.dropLast_eq_take];simp
   rw [if_neg ho]
   repeat (first | (refine K.store ?_;refine JO.ld (Ld.cG rfl rfl (by exact rfl)) rfl (fun _=>?_)) | (refine K.indexAddr ?_;refine jx rfl rfl rfl rfl (by omega) (at_map (show o[((o.length:Int) - 1).toNat]?=some (o.getLastD 0) by rw [show ((o.length:Int) - 1).toNat=o.length - 1 by omega];exact Mw ho)) ?_) | refine gn ?_)
   refine J.draw (by kernel_rfl) rfl ?_;refine JW.xA none (.tmp 4) rfl ?_;refine tk 0 ?_;refine tk 1 ?_;refine tk 2 ?_;refine tk 3 ?_;refine tk 4 ?_;refine JD.take 5 rfl rfl (by kernel_rfl) rfl (qb rfl) (Qt.cP rfl rfl rfl (fJ (by omega) (by omega))) rfl ?_;refine JD.take 6 rfl rfl (by kernel_rfl) rfl (qb rfl) ((Qt.pK rfl rfl rfl (by omega) (by omega) (by simp;omega)).eq (congrArg (fun z=>D.c (A.r 1 z)) hcut)) rfl ?_;refine tk 8 ?_;refine cU 7 (Mu { p with aW:=m } g o.dropLast hg hc) ?_;refine JD.bk (i:=9) (by kernel_rfl) ?_
   (refine JS.st rfl rfl rfl (Ld.aP rfl rfl rfl (by exact rfl) (by exact rfl)) (.mz rfl) (fun _=>?_))
   refine jk 10 rfl rfl rfl rfl (Qt.assign rfl) ?_;refine jk 11 rfl rfl rfl rfl (Qt.assign rfl) ?_;refine bH ?_
   repeat (fail)
   (refine J.ret Tryz.func216 rfl (.cons (.cell 0 rfl rfl rfl) (.cons (.tmp rfl) (.cons (.tmp rfl) .nil))) () (.of_eq ?_) [] .nil rfl rfl)
   rfl
 ·refine J.cond rfl (fun h=>?_) (fun h=>?_)
  ·have h0:c=[]:=by simpa using h
   have nL:1≤Po.room p.most.toNat:=by unfold Po.room;omega
   have fS:p.most.toNat / 2≤Po.room p.most.toNat:=by unfold Po.room;omega
   have hr3:Po.room p.most.toNat≤1∨Po.room p.most.toNat≤p.most.toNat / 2:=by unfold Po.room;omega
   have e8:A.r 1 ([] ++ p.aW.map fun n=>[nI n])=ints (p.aW.take (p.aW.length - 0)):=by simp;rfl
   refine J.jE 8 rfl ?_;refine J.block ?_;refine J.loop (ι:={ q:Nat × Value // q.1≤p.aW.length∧q.1≤Po.room p.most.toNat }) (fun q=>[(7,.c (.v q.1.2)),(8,.c (ints (p.aW.take (p.aW.length - q.1.1)))),(1,.c (nI g)),(2,.c (.v (.pointer (some ⟨b1,0,none⟩)))),(4,.c (.v (.pointer (some ⟨b2,0,none⟩))))]) (fun q=>[.row q.1.2 3 1 ((p.aW.reverse.take q.1.1).map fun n=>[nI n]),.box b2 166 zg,.box b1 166 (kR p)]) (fun q=>p.aW.length - q.1.1) ⟨(0,vo),by omega,by omega⟩ (fun X h=>J.dZ (by simp [h0];rfl) (h.aU ⟨rfl,congrArg (fun z=>some (D.c z)) e8,rfl,rfl,rfl,trivial⟩)) (fun q ih=>?_);obtain ⟨⟨k,v⟩,aS,aR⟩:=q;dsimp only at aS aR ⊢;have em:(p.aW.take (p.aW.length - k)).length=p.aW.length - k:=by simp
   have eo:((p.aW.reverse.take k).map fun n=>[nI n]).length=k:=by simp;omega
   by_cases sF:k < p.aW.length∧k < Po.room p.most.toNat
   ·obtain ⟨y,y1,y2,y3⟩:=Mv p.aW sF.1;have w1:(decide (((p.aW.take (p.aW.length - k)).length:Int) > 0))=true:=by rw [em];simp;omega
    have y4:(p.aW.take (p.aW.length - k))[(((p.aW.take (p.aW.length - k)).length:Int) - 1).toNat]?=some y:=by
     rw [em,show (((p.aW.length - k:Nat):Int) - 1).toNat=p.aW.length - (k + 1) by omega,List.getElem?_take,if_pos (by omega)];exact y1
    have y5:(((p.aW.take (p.aW.length - k)).map fun n=>[nI n]).take (((p.aW.take (p.aW.length - k)).length:Int) - 1).toNat).drop (0:Int).toNat=(p.aW.take (p.aW.length - (k + 1))).map fun n=>[nI n]:=by
     rw [em,show (((p.aW.length - k:Nat):Int) - 1).toNat=p.aW.length - (k + 1) by omega,← List.map_take,List.take_take,Nat.min_eq_left (by omega)];rfl
    refine J.seq ?_;refine J.join (ι:=Unit) (fun _=>[(7,.c (.v v)),(8,.c (ints (p.aW.take (p.aW.length - k)))),(1,.c (nI g)),(2,.c (.v (.pointer (some ⟨b1,0,none⟩)))),(4,.c (.v (.pointer (some ⟨b2,0,none⟩))))]) (fun _=>[.row v 3 1 ((p.aW.reverse.take k).map fun n=>[nI n]),.box b2 166 zg,.box b1 166 (kR p)]) (fun _=>?_) (fun rest2=>?_)
    ·repeat (first | (refine K.indexAddr ?_;refine jx rfl rfl rfl rfl (by omega) (at_map y4) ?_) | (refine K.slice ?_;refine jq rfl rfl rfl ((Qt.pK rfl rfl rfl (by omega) (by omega) (by simp only [List.length_map];omega)).eq (congrArg (fun z=>D.c (A.r 1 z)) y5)) ?_) | (refine K.bi ?_;refine JO.ld (Ld.bY (qb rfl) rfl rfl .cR (by simp only [List.length_append,List.length_map,List.length_take,List.length_reverse,List.length_cons,List.length_nil];omega)) rfl (fun _=>?_)) | refine au ?_ | intro _)
     rename_i b7 v7;refine J.drop 1 ?_;refine J.dZ ?_ ((ih ⟨(k + 1,v7),by omega,by omega⟩ (by simp only;omega)).aU ⟨rfl,rfl,rfl,rfl,rfl,trivial⟩);simp only [y2,List.map_append];rfl
    ·refine J.seq ?_;refine J.region ?_
     cases w2:decide ((((p.aW.reverse.take k).map fun n=>[nI n]).length:Int) < ((p.most.toNat / 2:Nat):Int)) with
     | true =>
      repeat (first | (refine K.binOp ?_;refine jq rfl rfl rfl (Qt.quo rfl rfl (by decide) (hq)) ?_) | refine vl ?_)
      refine JO.nil (J.eN rfl (J.skip ?_));exact (rest2 ()).aU ⟨rfl,rfl,rfl,rfl,rfl,trivial⟩
     | false =>
      have w3:(decide ((((p.aW.reverse.take k).map fun n=>[nI n]).length:Int) < 1))=true:=by
       rw [eo] at w2 ⊢;simp at w2 ⊢;omega
      repeat (first | (refine K.binOp ?_;refine jq rfl rfl rfl (Qt.quo rfl rfl (by decide) (hq)) ?_) | refine vl ?_)
      refine JO.nil (J.eN rfl (J.skip ?_));exact (rest2 ()).aU ⟨rfl,rfl,rfl,rfl,rfl,trivial⟩
   ·have e1:p.aW.reverse.take k=Po.own p.most.toNat c p.aW:=by
     unfold Po.own Po.qM;rw [if_pos h0,h0,List.nil_append];congr 1;omega
    have e2:p.aW.take (p.aW.length - k)=Po.aW p.most.toNat c p.aW:=by
     unfold Po.aW Po.qM;rw [if_pos h0];congr 2;omega
    refine J.seq (J.seq (J.region ?_))
    cases w1:decide (((p.aW.take (p.aW.length - k)).length:Int) > 0) with
    | false =>
     repeat (refine vl ?_)
     refine JO.nil (J.ez rfl ?_)
     repeat (first | refine J.exit rfl ?_ | refine J.inBlock ?_)
     refine J.jE 7 rfl ?_;exact (rest ()).aU ⟨congrArg (fun z=>some (D.c (ints z))) e1,congrArg (fun z=>some (D.c (ints z))) e2,rfl,rfl,rfl,trivial⟩
    | true =>
     have w2:decide ((((p.aW.reverse.take k).map fun n=>[nI n]).length:Int) < ((p.most.toNat / 2:Nat):Int))=false:=by
      rw [eo];rw [em] at w1;simp at w1 ⊢;omega
     have w3:(decide ((((p.aW.reverse.take k).map fun n=>[nI n]).length:Int) < 1))=false:=by
      rw [eo];rw [em] at w1;simp at w1 ⊢;omega
     repeat (first | (refine K.binOp ?_;refine jq rfl rfl rfl (Qt.quo rfl rfl (by decide) (hq)) ?_) | refine vl ?_)
     refine JO.nil (J.ez rfl ?_)
     repeat (first | refine J.exit rfl ?_ | refine J.inBlock ?_)
     refine J.jE 7 rfl ?_;exact (rest ()).aU ⟨congrArg (fun z=>some (D.c (ints z))) e1,congrArg (fun z=>some (D.c (ints z))) e2,rfl,rfl,rfl,trivial⟩
  ·have h0:c≠[]:=by simpa using h
   have e1:Po.own p.most.toNat c p.aW=c:=by unfold Po.own Po.qM;rw [if_neg h0];simp
   have e2:Po.aW p.most.toNat c p.aW=p.aW:=by unfold Po.aW Po.qM;rw [if_neg h0];simp
   refine J.jE 7 rfl ?_;refine J.jE 8 rfl ?_;refine J.skip ?_;exact (rest ()).aU ⟨congrArg (fun z=>some (D.c (ints z))) e1.symm,congrArg (fun z=>some (D.c (ints z))) e2.symm,rfl,rfl,rfl,trivial⟩
end Fl
end Go.Proofs.YtofnbflkhgammaaGreat
