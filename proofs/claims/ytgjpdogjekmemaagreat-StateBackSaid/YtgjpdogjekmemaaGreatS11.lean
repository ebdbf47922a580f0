/-
  What the laws need, part S11.
  Conditions: none.
-/
import Derived.Test.YtgjpdogjekmemaaGreatS9
set_option linter.unusedVariables false
set_option linter.unusedSimpArgs false
set_option linter.unnecessarySimpa false
set_option maxHeartbeats 2000000
namespace Go.Proofs.YtgjpdogjekmemaaGreat
open Go.RowKit
namespace Fl
open Sx Go.Proofs.Tryz
set_option maxRecDepth 100000
structure gM where
 size:Int
 most:Int
 ca:List (List Int)
 aW:List Int
 fresh:Int
def jF (p:gM):List A:=[nI p.size,nI p.most,.r 1 (p.ca.map fun l=>[ints l]),ints p.aW,nI p.fresh]
theorem MW (l:List Int) (x:Int) (hb:l.length≤100000) :
  Pure prog 176 [.c (ints l),.c (nI x)] (.c (bI (decide (x∈l)))):=by
 refine aq.intro func176 rfl rfl rfl (fun ok e=>?_)
 repeat (refine gn ?_)
 refine J.loop (ι:={ k:Nat // ∀ y∈l.take k,x≠y }) (fun p=>[(7,.c (ints l)),(8,.c (nI l.length)),(9,.c (nI p.1)),(1,.c (nI x))]) (fun p=>[]) (fun p=>l.length - p.1) ⟨0,by simp⟩ (fun X h=>h.aQ ⟨rfl,rfl,rfl,rfl,trivial⟩) (fun p ih=>?_);obtain ⟨k,hn⟩:=p;dsimp only
 by_cases hk:k < l.length
 ·obtain ⟨y,hy⟩:∃ y,l[k]?=some y:=⟨_,List.getElem?_eq_getElem hk⟩
  have h1:(decide ((k:Int) < (l.length:Int)))=true:=by simpa using hk
  repeat (refine gn ?_)
  refine J.cond rfl (fun h=>?_) (fun h=>?_)
  ·have kC:x=y:=by simpa using h
   have hm:decide (x∈l)=true:=by
    simp only [decide_eq_true_eq];rw [kC];exact List.mem_of_getElem? hy
   rw [hm]
   repeat (refine gn ?_)
   exact aA func176
  ·have kC:x≠y:=by simpa using h
   repeat (refine gn ?_)
   have oS:∀ z∈l.take (k + 1),x≠z:=fun z hz=>by rw [take_one hy] at hz;rcases List.mem_append.1 hz with hz | hz;exact hn z hz;simp at hz;rw [hz];exact kC
   refine (ih ⟨k + 1,oS⟩ (by (simp;omega))).aQ (f:=_) ?_;exact ⟨rfl,rfl,rfl,rfl,trivial⟩
 ·have h1:(decide ((k:Int) < (l.length:Int)))=false:=by simpa using hk
  have hm:decide (x∈l)=false:=by
   simp only [decide_eq_false_iff_not];intro hx;rw [List.take_of_length_le (by omega)] at hn;exact hn x hx rfl
  rw [hm]
  repeat (refine gn ?_)
  exact aA func176
theorem MX (p:gM) (hb:(p.aW ++ p.ca.flatten).length≤100000) (hc:p.ca.length≤100000) :
  Pure prog 177 [.agg (jF p)] (.c (ints (p.aW ++ p.ca.flatten))):=by
 have QY:p.aW.length + p.ca.flatten.length≤100000:=by simpa using hb
 refine aq.intro func177 rfl rfl rfl (fun ok e=>?_)
 repeat (first | (refine K.bi ?_;refine JO.ld (Ld.bH (qb rfl) rfl rfl .read (by (simp;omega))) rfl (fun _=>?_)) | refine av ?_ | intro _)
 rename_i b1 b2 v1;refine J.loop (ι:=Nat × Value) (fun q=>[(11,.c (.r 1 (p.ca.map fun l=>[ints l]))),(12,.c (nI p.ca.length)),(13,.c (nI q.1)),(3,.c (.v q.2))]) (fun q=>[.row q.2 3 1 ((p.aW ++ (p.ca.take q.1).flatten).map fun n=>[nI n]),.box b1 204 (jF p)]) (fun q=>p.ca.length - q.1) (0,v1) (fun X h=>J.dj (by simp) (h.aQ ⟨rfl,rfl,rfl,rfl,trivial⟩)) (fun q ih=>?_);obtain ⟨k,v⟩:=q
 by_cases hk:k < p.ca.length
 ·obtain ⟨y,hy⟩:∃ y,p.ca[k]?=some y:=⟨_,List.getElem?_eq_getElem hk⟩
  have h1:(decide ((k:Int) < (p.ca.length:Int)))=true:=by simpa using hk
  have e2:=take_one hy;have hlen:(p.ca.take k).flatten.length + y.length≤p.ca.flatten.length:=by
   have:p.ca.flatten=(p.ca.take (k + 1)).flatten ++ (p.ca.drop (k + 1)).flatten:=by rw [← List.flatten_append,List.take_append_drop]
   rw [this,e2];simp [List.flatten_append]
  repeat (first | (refine K.indexAddr ?_;refine jx rfl rfl rfl rfl (by omega) (at_map (at_nat hy)) ?_) | (refine K.bi ?_;refine JO.ld (Ld.bH (qb rfl) rfl rfl .read (by simp only [List.length_map,List.length_append];omega)) rfl (fun _=>?_)) | refine gn ?_)
  rename_i v2;refine J.dj ?_ ((ih (k + 1,v2) (by (simp;omega))).aQ ⟨rfl,rfl,rfl,rfl,trivial⟩);simp only [e2,List.flatten_append,List.flatten_cons,List.flatten_nil,List.append_nil,List.map_append,List.append_assoc]
 ·have h1:(decide ((k:Int) < (p.ca.length:Int)))=false:=by simpa using hk
  repeat (refine gn ?_)
  refine J.gG 2 rfl ?_;refine J.ret func177 rfl (.cons (.tmp rfl) .nil) () (.of_eq ?_) [] .nil rfl rfl;rw [List.take_of_length_le (show p.ca.length≤k by omega)];rfl
def lP (p:gM) (x:Int):Bool:=decide (0≤x) && decide (x < p.fresh) && !decide (x∈p.aW ++ p.ca.flatten)
theorem MY (p:gM) (x:Int) (hb:(p.aW ++ p.ca.flatten).length≤100000) (hc:p.ca.length≤100000) :
  Pure prog 174 [.agg (jF p),.c (nI x)] (.c (bI (lP p x))):=by
 refine aq.intro func174 rfl rfl rfl (fun ok e=>?_)
 cases h1:decide (x ≥ 0) with
 | false =>
  have e1:lP p x=false:=by unfold lP;have:decide (0≤x)=false:=h1;rw [this];rfl
  rw [e1]
  repeat (first | refine av ?_ | intro _)
  exact aA func174
 | true =>
  cases h2:decide (x < p.fresh) with
  | false =>
   have e1:lP p x=false:=by unfold lP;rw [h2];simp
   rw [e1]
   repeat (first | refine av ?_ | intro _)
   exact aA func174
  | true =>
   have e1:lP p x=!decide (x∈p.aW ++ p.ca.flatten):=by unfold lP;have:decide (0≤x)=true:=h1;rw [h2,this];rfl
   rw [e1]
   repeat (first | refine aI (MX p hb hc) ?_ | refine aI (MW (p.aW ++ p.ca.flatten) x hb) ?_ | refine av ?_ | intro _)
   exact aA func174
theorem EV (p:gM) (g:Nat) (l:List Int) (hg:g < p.ca.length) (hc:p.ca.length≤100000) :
  Pure prog 175 [.agg (jF p),.c (nI g),.c (ints l)] (.agg (jF { p with ca:=p.ca.set g l })):=by
 refine aq.intro func175 rfl rfl rfl (fun ok e=>?_)
 repeat (first | (refine K.store ?_;refine JO.ld (Ld.dV rfl rfl rfl (by exact rfl) (by (simp;omega))) rfl (fun _=>?_)) | (refine K.indexAddr ?_;refine jq rfl rfl rfl (Qt.cB rfl rfl (by (omega)) (by (simp;omega))) ?_) | (refine K.bi ?_;refine JO.ld (Ld.bH (qb rfl) rfl rfl .read (by (simp;omega))) rfl (fun _=>?_)) | refine av ?_ | intro _)
 refine J.rH 0 1 2 rfl rfl rfl ?_
 (refine J.ret func175 rfl (.cons (.cell 0 rfl rfl rfl) .nil) () (.of_eq ?_) [] .nil rfl rfl)
 have e1:([] ++ List.map (fun l=>[ints l]) p.ca).set ((g:Int)).toNat [ints l]=(p.ca.set g l).map fun l=>[ints l]:=by simp
 exact congrArg (fun r=>D.agg [nI p.size,nI p.most,.r 1 r,ints p.aW,nI p.fresh]) e1
end Fl
open Go.RowKit
namespace Fl
open Sx Go.Proofs.Tryz
set_option maxRecDepth 100000
def gM.take (p:gM) (g:Nat):gM × Int × Bool :=
 if Po.own p.most.toNat (p.ca.getD g []) p.aW=[] then
  (if p.fresh < p.size then ({ p with aW:=Po.aW p.most.toNat (p.ca.getD g []) p.aW,fresh:=p.fresh + 1 },p.fresh,true) else ({ p with aW:=Po.aW p.most.toNat (p.ca.getD g []) p.aW },0,false))
 else ({ p with ca:=p.ca.set g (Po.own p.most.toNat (p.ca.getD g []) p.aW).dropLast,aW:=Po.aW p.most.toNat (p.ca.getD g []) p.aW },(Po.own p.most.toNat (p.ca.getD g []) p.aW).getLastD 0,true)
theorem Ap {α:Type} {l:List α} {g:Nat} {d:α} (h:g < l.length):l[g]?=some (l.getD g d):=by
 rw [List.getD_eq_getElem?_getD,List.getElem?_eq_getElem h];rfl
theorem EW (M:List Int) {k:Nat} (h:k < M.length):∃ y,M[M.length - (k + 1)]?=some y∧M.reverse.take (k + 1)=M.reverse.take k ++ [y]∧M.take (M.length - k)=M.take (M.length - (k + 1)) ++ [y]:=by
 refine ⟨M[M.length - (k + 1)]'(by omega),List.getElem?_eq_getElem (by omega),?_,?_⟩
 ·rw [List.take_add_one,List.getElem?_reverse h,show M.length - 1 - k=M.length - (k + 1) by omega,List.getElem?_eq_getElem (by omega)];rfl
 ·have e:M.length - k=M.length - (k + 1) + 1:=by omega
  rw [e,List.take_add_one,List.getElem?_eq_getElem (by omega)];rfl
theorem EX {l:List Int} (h:l≠[]):l[l.length - 1]?=some (l.getLastD 0):=by
 cases l with
 | nil=>exact absurd rfl h
 | cons a l=>rw [List.getLastD_eq_getLast?,List.getLast?_eq_getElem?];simp
theorem EY {l:List Int} {f:Int→List A} {n:Nat} {m:Int} (h:m=n):((l.map f).take m.toNat).drop (0:Int).toNat=(l.take n).map f:=by
 subst h;simp
def vj:List A:=vs [.int .i64 0,.int .i64 0,.slice none 0 0,.slice none 0 0,.int .i64 0]
theorem MZ (p:gM) (g:Nat) (hg:g < p.ca.length) (hc:p.ca.length≤100000) (bU:(p.ca.getD g []).length≤100000) (hm:p.aW.length≤100000) (h1:1≤p.most) (h2:p.most≤100000) (hf:0≤p.fresh∧p.fresh≤100000) :
  Pure prog 169 [.agg (jF p),.c (nI g)] (.aY [.agg (jF (p.take g).1),.c (nI (p.take g).2.1),.c (bI (p.take g).2.2)]):=by
 refine aq.intro func169 rfl rfl rfl (fun ok e=>?_);have hq:IntKind.i64.wrap (p.most.tdiv 2)=((p.most.toNat / 2:Nat):Int):=by
  rw [Int.tdiv_eq_ediv_of_nonneg (by omega),fq (by omega) (by omega)];omega
 have t1:(decide ((g:Int) < 0))=false:=by simp
 have t2:(decide ((g:Int) ≥ (p.ca.length:Int)))=false:=by simp;omega
 unfold gM.take;generalize Aq:p.ca.getD g []=c at *;have Ar:p.ca[g]?=some c:=by rw [← Aq];exact Ap hg
 repeat (first | (refine K.indexAddr ?_;refine jx rfl rfl rfl rfl (by omega) (at_map (at_nat Ar)) ?_) | (refine K.bi ?_;refine JO.ld (Ld.bH (qb rfl) rfl rfl .read (by (simp;omega))) rfl (fun _=>?_)) | refine av ?_ | intro _)
 rename_i b1 b2 M0 vo M1 vm;refine J.join (ι:=Unit) (fun _=>[(7,.c (ints (Po.own p.most.toNat c p.aW))),(8,.c (ints (Po.aW p.most.toNat c p.aW))),(1,.c (nI g)),(2,.c (.v (.pointer (some ⟨b1,0,none⟩)))),(4,.c (.v (.pointer (some ⟨b2,0,none⟩))))]) (fun _=>[.box b2 204 vj,.box b1 204 (jF p)]) (fun _=>?_) (fun rest=>?_)
 ·have nF:(Po.own p.most.toNat c p.aW).length≤200000:=by
   unfold Po.own;simp only [List.length_append,List.length_take,List.length_reverse];omega
  generalize Po.own p.most.toNat c p.aW=o at *;generalize Po.aW p.most.toNat c p.aW=m at *
  by_cases ho:o=[]
  ·have u1:(decide ((o.length:Int) > 0))=false:=by simp [ho]
   rw [if_pos ho]
   cases u2:decide (p.fresh < p.size) with
   | true =>
    have u3:p.fresh < p.size:=by simpa using u2
    rw [if_pos u3]
    repeat (first | (refine K.store ?_;refine JO.ld (Ld.cr rfl rfl (by exact rfl)) rfl (fun _=>?_)) | refine gn ?_)
    refine J.draw (by kernel_rfl) rfl ?_;refine JW.tU none (.tmp 4) rfl ?_;refine tk 0 ?_;refine tk 1 ?_;refine tk 2 ?_;refine JD.take 3 rfl rfl (by kernel_rfl) rfl (qb rfl) (Qt.dy rfl rfl rfl (fq (by omega) (by omega))) rfl ?_;refine JD.fR (i:=4) (by kernel_rfl) ?_
    (refine JS.st rfl rfl rfl (Ld.aT rfl rfl rfl (by exact rfl) (by exact rfl)) (.ig rfl) (fun _=>?_))
    refine tk 5 ?_;refine tk 6 ?_;refine bP ?_
    repeat (fail)
    (refine J.ret func169 rfl (.cons (.cell 0 rfl rfl rfl) (.cons (.tmp rfl) (.cons (.tmp rfl) .nil))) () (.of_eq ?_) [] .nil rfl rfl)
    show D.aY [D.agg [nI p.size,nI p.most,_,ints m,nI (p.fresh + 1)],D.c (nI (p.fresh + 1 - 1)),_]=_;rw [show p.fresh + 1 - 1=p.fresh by omega];rfl
   | false =>
    have u3:¬ p.fresh < p.size:=by simpa using u2
    rw [if_neg u3]
    repeat (first | (refine K.store ?_;first | refine JO.ld (Ld.aT rfl rfl rfl (by exact rfl) (by exact rfl)) rfl (fun _=>?_) | refine JO.ld (Ld.cr rfl rfl (by exact rfl)) rfl (fun _=>?_)) | refine gn ?_)
    (refine J.ret func169 rfl (.cons (.cell 0 rfl rfl rfl) (.cons (.tmp rfl) (.cons (.tmp rfl) .nil))) () (.of_eq ?_) [] .nil rfl rfl)
    rfl
  ·have QZ:1≤o.length:=List.length_pos_iff.2 ho;have u1:(decide ((o.length:Int) > 0))=true:=by simp;omega
   have hcut:((o.map fun n=>[nI n]).take ((o.length:Int) - 1).toNat).drop (0:Int).toNat=o.dropLast.map fun n=>[nI n]:=by
    rw [show ((o.length:Int) - 1).toNat=o.length - 1 by omega,List.dropLast_eq_take];simp
   rw [if_neg ho]
   repeat (first | (refine K.store ?_;refine JO.ld (Ld.cr rfl rfl (by exact rfl)) rfl (fun _=>?_)) | (refine K.indexAddr ?_;refine jx rfl rfl rfl rfl (by omega) (at_map (show o[((o.length:Int) - 1).toNat]?=some (o.getLastD 0) by rw [show ((o.length:Int) - 1).toNat=o.length - 1 by omega];exact EX ho)) ?_) | refine gn ?_)
   refine J.draw (by kernel_rfl) rfl ?_;refine JW.tU none (.tmp 4) rfl ?_;refine tk 0 ?_;refine tk 1 ?_;refine tk 2 ?_;refine tk 3 ?_;refine tk 4 ?_;refine JD.take 5 rfl rfl (by kernel_rfl) rfl (qb rfl) (Qt.dy rfl rfl rfl (fq (by omega) (by omega))) rfl ?_;refine JD.take 6 rfl rfl (by kernel_rfl) rfl (qb rfl) ((Qt.mX rfl rfl rfl (by omega) (by omega) (by simp;omega)).eq (congrArg (fun z=>D.c (A.r 1 z)) hcut)) rfl ?_;refine tk 8 ?_;refine cI 7 (EV { p with aW:=m } g o.dropLast hg hc) ?_;refine JD.fR (i:=9) (by kernel_rfl) ?_
   (refine JS.st rfl rfl rfl (Ld.aT rfl rfl rfl (by exact rfl) (by exact rfl)) (.ig rfl) (fun _=>?_))
   refine jk 10 rfl rfl rfl rfl (Qt.assign rfl) ?_;refine jk 11 rfl rfl rfl rfl (Qt.assign rfl) ?_;refine bP ?_
   repeat (fail)
   (refine J.ret func169 rfl (.cons (.cell 0 rfl rfl rfl) (.cons (.tmp rfl) (.cons (.tmp rfl) .nil))) () (.of_eq ?_) [] .nil rfl rfl)
   rfl
 ·refine J.cond rfl (fun h=>?_) (fun h=>?_)
  ·have h0:c=[]:=by simpa using h
   have Q0:1≤Po.room p.most.toNat:=by unfold Po.room;omega
   have iX:p.most.toNat / 2≤Po.room p.most.toNat:=by unfold Po.room;omega
   have Q1:Po.room p.most.toNat≤1∨Po.room p.most.toNat≤p.most.toNat / 2:=by unfold Po.room;omega
   have e8:A.r 1 ([] ++ p.aW.map fun n=>[nI n])=ints (p.aW.take (p.aW.length - 0)):=by simp;rfl
   refine J.gG 8 rfl ?_;refine J.block ?_;refine J.loop (ι:={ q:Nat × Value // q.1≤p.aW.length∧q.1≤Po.room p.most.toNat }) (fun q=>[(7,.c (.v q.1.2)),(8,.c (ints (p.aW.take (p.aW.length - q.1.1)))),(1,.c (nI g)),(2,.c (.v (.pointer (some ⟨b1,0,none⟩)))),(4,.c (.v (.pointer (some ⟨b2,0,none⟩))))]) (fun q=>[.row q.1.2 3 1 ((p.aW.reverse.take q.1.1).map fun n=>[nI n]),.box b2 204 vj,.box b1 204 (jF p)]) (fun q=>p.aW.length - q.1.1) ⟨(0,vo),by omega,by omega⟩ (fun X h=>J.dj (by simp [h0];rfl) (h.aQ ⟨rfl,congrArg (fun z=>some (D.c z)) e8,rfl,rfl,rfl,trivial⟩)) (fun q ih=>?_);obtain ⟨⟨k,v⟩,aV,aN⟩:=q;dsimp only at aV aN ⊢;have em:(p.aW.take (p.aW.length - k)).length=p.aW.length - k:=by simp
   have eo:((p.aW.reverse.take k).map fun n=>[nI n]).length=k:=by simp;omega
   by_cases uD:k < p.aW.length∧k < Po.room p.most.toNat
   ·obtain ⟨y,y1,y2,y3⟩:=EW p.aW uD.1;have w1:(decide (((p.aW.take (p.aW.length - k)).length:Int) > 0))=true:=by rw [em];simp;omega
    have y4:(p.aW.take (p.aW.length - k))[(((p.aW.take (p.aW.length - k)).length:Int) - 1).toNat]?=some y:=by
     rw [em,show (((p.aW.length - k:Nat):Int) - 1).toNat=p.aW.length - (k + 1) by omega,List.getElem?_take,if_pos (by omega)];exact y1
    have y5:(((p.aW.take (p.aW.length - k)).map fun n=>[nI n]).take (((p.aW.take (p.aW.length - k)).length:Int) - 1).toNat).drop (0:Int).toNat=(p.aW.take (p.aW.length - (k + 1))).map fun n=>[nI n]:=by
     rw [em,show (((p.aW.length - k:Nat):Int) - 1).toNat=p.aW.length - (k + 1) by omega,← List.map_take,List.take_take,Nat.min_eq_left (by omega)];rfl
    refine J.seq ?_;refine J.join (ι:=Unit) (fun _=>[(7,.c (.v v)),(8,.c (ints (p.aW.take (p.aW.length - k)))),(1,.c (nI g)),(2,.c (.v (.pointer (some ⟨b1,0,none⟩)))),(4,.c (.v (.pointer (some ⟨b2,0,none⟩))))]) (fun _=>[.row v 3 1 ((p.aW.reverse.take k).map fun n=>[nI n]),.box b2 204 vj,.box b1 204 (jF p)]) (fun _=>?_) (fun EZ=>?_)
    ·repeat (first | (refine K.indexAddr ?_;refine jx rfl rfl rfl rfl (by omega) (at_map y4) ?_) | (refine K.slice ?_;refine jq rfl rfl rfl ((Qt.mX rfl rfl rfl (by omega) (by omega) (by simp only [List.length_map];omega)).eq (congrArg (fun z=>D.c (A.r 1 z)) y5)) ?_) | (refine K.bi ?_;refine JO.ld (Ld.bH (qb rfl) rfl rfl .bV (by simp only [List.length_append,List.length_map,List.length_take,List.length_reverse,List.length_cons,List.length_nil];omega)) rfl (fun _=>?_)) | refine av ?_ | intro _)
     rename_i b7 v7;refine J.drop 1 ?_;refine J.dj ?_ ((ih ⟨(k + 1,v7),by omega,by omega⟩ (by simp only;omega)).aQ ⟨rfl,rfl,rfl,rfl,rfl,trivial⟩);simp only [y2,List.map_append];rfl
    ·refine J.seq ?_;refine J.region ?_
     cases w2:decide ((((p.aW.reverse.take k).map fun n=>[nI n]).length:Int) < ((p.most.toNat / 2:Nat):Int)) with
     | true =>
      repeat (first | (refine K.binOp ?_;refine jq rfl rfl rfl (Qt.quo rfl rfl (by decide) (hq)) ?_) | refine tW ?_)
      refine JO.nil (J.fI rfl (J.skip ?_));exact (EZ ()).aQ ⟨rfl,rfl,rfl,rfl,rfl,trivial⟩
     | false =>
      have w3:(decide ((((p.aW.reverse.take k).map fun n=>[nI n]).length:Int) < 1))=true:=by
       rw [eo] at w2 ⊢;simp at w2 ⊢;omega
      repeat (first | (refine K.binOp ?_;refine jq rfl rfl rfl (Qt.quo rfl rfl (by decide) (hq)) ?_) | refine tW ?_)
      refine JO.nil (J.fI rfl (J.skip ?_));exact (EZ ()).aQ ⟨rfl,rfl,rfl,rfl,rfl,trivial⟩
   ·have e1:p.aW.reverse.take k=Po.own p.most.toNat c p.aW:=by
     unfold Po.own Po.oo;rw [if_pos h0,h0,List.nil_append];congr 1;omega
    have e2:p.aW.take (p.aW.length - k)=Po.aW p.most.toNat c p.aW:=by
     unfold Po.aW Po.oo;rw [if_pos h0];congr 2;omega
    refine J.seq (J.seq (J.region ?_))
    cases w1:decide (((p.aW.take (p.aW.length - k)).length:Int) > 0) with
    | false =>
     repeat (refine tW ?_)
     refine JO.nil (J.eW rfl ?_)
     repeat (first | refine J.exit rfl ?_ | refine J.inBlock ?_)
     refine J.gG 7 rfl ?_;exact (rest ()).aQ ⟨congrArg (fun z=>some (D.c (ints z))) e1,congrArg (fun z=>some (D.c (ints z))) e2,rfl,rfl,rfl,trivial⟩
    | true =>
     have w2:decide ((((p.aW.reverse.take k).map fun n=>[nI n]).length:Int) < ((p.most.toNat / 2:Nat):Int))=false:=by
      rw [eo];rw [em] at w1;simp at w1 ⊢;omega
     have w3:(decide ((((p.aW.reverse.take k).map fun n=>[nI n]).length:Int) < 1))=false:=by
      rw [eo];rw [em] at w1;simp at w1 ⊢;omega
     repeat (first | (refine K.binOp ?_;refine jq rfl rfl rfl (Qt.quo rfl rfl (by decide) (hq)) ?_) | refine tW ?_)
     refine JO.nil (J.eW rfl ?_)
     repeat (first | refine J.exit rfl ?_ | refine J.inBlock ?_)
     refine J.gG 7 rfl ?_;exact (rest ()).aQ ⟨congrArg (fun z=>some (D.c (ints z))) e1,congrArg (fun z=>some (D.c (ints z))) e2,rfl,rfl,rfl,trivial⟩
  ·have h0:c≠[]:=by simpa using h
   have e1:Po.own p.most.toNat c p.aW=c:=by unfold Po.own Po.oo;rw [if_neg h0];simp
   have e2:Po.aW p.most.toNat c p.aW=p.aW:=by unfold Po.aW Po.oo;rw [if_neg h0];simp
   refine J.gG 7 rfl ?_;refine J.gG 8 rfl ?_;refine J.skip ?_;exact (rest ()).aQ ⟨congrArg (fun z=>some (D.c (ints z))) e1.symm,congrArg (fun z=>some (D.c (ints z))) e2.symm,rfl,rfl,rfl,trivial⟩
end Fl
open Go.RowKit
namespace Fl
open Sx Go.Proofs.Tryz
set_option maxRecDepth 100000
def gM.cR (p:gM) (g:Nat) (x:Int):gM × Bool :=
 if lP p x=true then ({ p with ca:=p.ca.set g ((p.ca.getD g []).take ((p.ca.getD g []).length - Po.eu p.most.toNat (p.ca.getD g [])) ++ [x]),aW:=p.aW ++ (p.ca.getD g []).reverse.take (Po.eu p.most.toNat (p.ca.getD g [])) },true) else (p,false)
theorem M3 (p:gM) (g:Nat) (x:Int) (hg:g < p.ca.length) (hc:p.ca.length≤50000) (bU:(p.ca.getD g []).length≤50000) (hm:p.aW.length≤40000) (ha:(p.aW ++ p.ca.flatten).length≤100000) (h1:1≤p.most) (h2:p.most≤100000) :
  Pure prog 166 [.agg (jF p),.c (nI g),.c (nI x)] (.aY [.agg (jF (p.cR g x).1),.c (bI (p.cR g x).2)]):=by
 refine aq.intro func166 rfl rfl rfl (fun ok e=>?_);have hq:IntKind.i64.wrap (p.most.tdiv 2)=((p.most.toNat / 2:Nat):Int):=by
  rw [Int.tdiv_eq_ediv_of_nonneg (by omega),fq (by omega) (by omega)];omega
 have t1:(decide ((g:Int) < 0))=false:=by simp
 have t2:(decide ((g:Int) ≥ (p.ca.length:Int)))=false:=by simp;omega
 have hC:=MY p x ha (by omega)
 cases xm:lP p x with
 | false =>
  rw [xm] at hC;have er:p.cR g x=(p,false):=by unfold gM.cR;rw [xm];rfl
  rw [er]
  repeat (first | (refine K.store ?_;refine JO.ld (Ld.aT rfl rfl rfl (by exact rfl) (by exact rfl)) rfl (fun _=>?_)) | refine av ?_ | intro _)
  (refine J.ret func166 rfl (.cons (.cell 0 rfl rfl rfl) (.cons (.tmp rfl) .nil)) () (.of_eq ?_) [] .nil rfl rfl)
  rfl
 | true =>
 rw [xm] at hC;have er:p.cR g x=({ p with ca:=p.ca.set g ((p.ca.getD g []).take ((p.ca.getD g []).length - Po.eu p.most.toNat (p.ca.getD g [])) ++ [x]),aW:=p.aW ++ (p.ca.getD g []).reverse.take (Po.eu p.most.toNat (p.ca.getD g [])) },true):=by unfold gM.cR;rw [if_pos xm]
 rw [er];clear er;generalize Aq:p.ca.getD g []=c at *;have Ar:p.ca[g]?=some c:=by rw [← Aq];exact Ap hg
 repeat (first | (refine K.indexAddr ?_;refine jx rfl rfl rfl rfl (by omega) (at_map (at_nat Ar)) ?_) | (refine K.bi ?_;refine JO.ld (Ld.bH (qb rfl) rfl rfl .read (by (simp;omega))) rfl (fun _=>?_)) | refine av ?_ | intro _)
 rename_i b1 b2 M0 vo M1 vm;refine J.join (ι:=Value × Value) (fun q=>[(8,.c (.v q.1)),(9,.c (.v q.2)),(1,.c (nI g)),(2,.c (nI x)),(3,.c (.v (.pointer (some ⟨b1,0,none⟩)))),(6,.c (.v (.pointer (some ⟨b2,0,none⟩))))]) (fun q=>[.row q.1 3 1 ((c.take (c.length - Po.eu p.most.toNat c)).map fun n=>[nI n]),.row q.2 3 1 ((p.aW ++ c.reverse.take (Po.eu p.most.toNat c)).map fun n=>[nI n]),.box b2 204 vj,.box b1 204 (jF p)]) (fun q=>?_) (fun rest=>?_)
 ·obtain ⟨v8,v9⟩:=q;dsimp only;have nF:(c.take (c.length - Po.eu p.most.toNat c)).length≤50000:=by simp;omega
  generalize c.take (c.length - Po.eu p.most.toNat c)=o at *;generalize p.aW ++ c.reverse.take (Po.eu p.most.toNat c)=m at *
  repeat (first | (refine K.store ?_;refine JO.ld (Ld.cr rfl rfl (by exact rfl)) rfl (fun _=>?_)) | refine gn ?_)
  refine J.BE 9 3 3 rfl rfl rfl ?_;refine J.draw (by kernel_rfl) rfl ?_;refine JW.tU (some 7) (.tmp 8) rfl ?_;refine tk 0 ?_;refine tk 1 ?_;refine tk 2 ?_;refine tk 3 ?_;refine jl 4 rfl rfl rfl rfl (Ld.dZ (qb rfl) rfl rfl rfl rfl rfl) .none (fun _=>?_);refine jl 5 rfl rfl rfl rfl (Ld.eB (qb rfl) rfl rfl .bV (by (simp;omega))) (.oU rfl) (fun _=>?_);refine jl 6 rfl rfl rfl rfl (Ld.pure (EV { p with aW:=m } g (o ++ [x]) hg (show p.ca.length≤100000 by omega)) (qb rfl) rfl (by repeat (first | exact br.nil | refine br.cons (c9.agg (by repeat (first | exact .nil | refine .cons .refl ?_))) ?_ | refine br.cons c9.refl ?_ | refine br.cons (c9.c j5.snoc) ?_))) .none (fun _=>?_);refine jt 7 rfl rfl (Ld.aT rfl rfl rfl (by exact rfl) (by exact rfl)) (fun _=>?_);refine JW.base none ?_;refine jk 8 rfl rfl rfl rfl (Qt.assign rfl) ?_;refine bP ?_
  repeat (fail)
  (refine J.ret func166 rfl (.cons (.cell 1 rfl rfl rfl) (.cons (.tmp rfl) .nil)) () (.of_eq ?_) [] .nil rfl rfl)
  rfl
 ·refine J.cond rfl (fun h=>?_) (fun h=>?_)
  ·have h0:(c.length:Int)=p.most:=by simpa using h
   have hp:Po.eu p.most.toNat c=c.length - p.most.toNat / 2:=by unfold Po.eu;rw [if_pos (by omega)]
   refine J.pull 1 rfl ?_;refine J.block ?_;refine J.loop (ι:={ q:Nat × Value × Value // q.1≤c.length - p.most.toNat / 2 }) (fun q=>[(8,.c (.v q.1.2.1)),(9,.c (.v q.1.2.2)),(1,.c (nI g)),(2,.c (nI x)),(3,.c (.v (.pointer (some ⟨b1,0,none⟩)))),(6,.c (.v (.pointer (some ⟨b2,0,none⟩))))]) (fun q=>[.row q.1.2.1 3 1 ((c.take (c.length - q.1.1)).map fun n=>[nI n]),.row q.1.2.2 3 1 ((p.aW ++ c.reverse.take q.1.1).map fun n=>[nI n]),.box b2 204 vj,.box b1 204 (jF p)]) (fun q=>c.length - q.1.1) ⟨(0,vo,vm),by omega⟩ (fun X h=>J.dj (by simp;rfl) (h.aQ ⟨rfl,rfl,rfl,rfl,rfl,rfl,trivial⟩)) (fun q ih=>?_);obtain ⟨⟨k,v,u⟩,hk⟩:=q;dsimp only at hk ⊢;have eo:((c.take (c.length - k)).map fun n=>[nI n]).length=c.length - k:=by simp
   by_cases uD:k < c.length - p.most.toNat / 2
   ·obtain ⟨y,y1,y2,y3⟩:=EW c (show k < c.length by omega);have w1:(decide ((((c.take (c.length - k)).map fun n=>[nI n]).length:Int) > ((p.most.toNat / 2:Nat):Int)))=true:=by rw [eo];simp;omega
    have y4:((c.take (c.length - k)).map fun n=>[nI n])[((((c.take (c.length - k)).map fun n=>[nI n]).length:Int) - 1).toNat]?=some [nI y]:=by
     rw [eo,show (((c.length - k:Nat):Int) - 1).toNat=c.length - (k + 1) by omega];exact at_map (by rw [List.getElem?_take,if_pos (by omega)];exact y1)
    have y5:(((c.take (c.length - k)).map fun n=>[nI n]).take ((((c.take (c.length - k)).map fun n=>[nI n]).length:Int) - 1).toNat).drop (0:Int).toNat=(c.take (c.length - (k + 1))).map fun n=>[nI n]:=by
     rw [eo,show (((c.length - k:Nat):Int) - 1).toNat=c.length - (k + 1) by omega,← List.map_take,List.take_take,Nat.min_eq_left (by omega)];rfl
    repeat (first | (refine K.load ?_;((refine jq rfl rfl rfl (Qt.dx rfl (y4) (by exact rfl)) ?_))) | (refine K.indexAddr ?_;refine jq rfl rfl rfl (Qt.cB rfl rfl (by omega) (by omega)) ?_) | (refine K.binOp ?_;refine jq rfl rfl rfl (Qt.quo rfl rfl (by decide) (hq)) ?_) | (refine K.slice ?_;refine JO.ld (Hr (qb rfl) rfl rfl rfl (by (omega)) (by (omega)) (by (omega)) (y5)) rfl (fun _=>?_)) | (refine K.bi ?_;refine JO.ld (Ld.bH (qb rfl) rfl rfl .bV (by simp only [List.length_append,List.length_map,List.length_take,List.length_reverse,List.length_cons,List.length_nil];omega)) rfl (fun _=>?_)) | refine av ?_ | intro _)
    rename_i b5 u5 v5;refine J.eI 2 ?_;refine J.dj ?_ ((ih ⟨(k + 1,v5,u5),by omega⟩ (by simp only;omega)).aQ ⟨rfl,rfl,rfl,rfl,rfl,rfl,trivial⟩);simp only [y2,List.map_append,List.append_assoc];rfl
   ·have aN:k=Po.eu p.most.toNat c:=by omega
    have w1:(decide ((((c.take (c.length - k)).map fun n=>[nI n]).length:Int) > ((p.most.toNat / 2:Nat):Int)))=false:=by rw [eo];simp;omega
    refine J.seq (J.seq (J.region ?_))
    repeat (first | (refine K.binOp ?_;refine jq rfl rfl rfl (Qt.quo rfl rfl (by decide) (hq)) ?_) | refine tW ?_)
    refine JO.nil (J.eW rfl ?_)
    repeat (first | refine J.exit rfl ?_ | refine J.inBlock ?_)
    subst aN;exact (rest (v,u)).aQ ⟨rfl,rfl,rfl,rfl,rfl,rfl,trivial⟩
  ·have h0:¬ (c.length:Int)=p.most:=by simpa using h
   have hp:Po.eu p.most.toNat c=0:=by unfold Po.eu;rw [if_neg (by omega)]
   refine J.pull 1 rfl ?_;refine J.skip ?_;refine J.dj ?_ ((rest (vo,vm)).aQ ⟨rfl,rfl,rfl,rfl,rfl,rfl,trivial⟩);rw [hp];simp;rfl
end Fl
open Go.RowKit
namespace Fl
open Sx Go.Proofs.Tryz
set_option maxRecDepth 100000
def jX (s:ah):gM:=⟨s.cY,s.bM,s.cache,s.middle,s.fresh⟩
def vk (s:ah) (p:gM):ah:={ s with cache:=p.ca,middle:=p.aW,fresh:=p.fresh }
theorem M4 (s:ah) (g:Nat) (h1:1≤s.bM):bw s g=(vk s ((jX s).take g).1,((jX s).take g).2.1,((jX s).take g).2.2):=by
 unfold bw gM.take jX;dsimp only
 by_cases h:Po.own s.bM.toNat (s.cache.getD g []) s.middle=[]
 ·obtain ⟨e1,e2⟩:=Po.BN (show 1≤s.bM.toNat by omega) h;have em:Po.aW s.bM.toNat (s.cache.getD g []) s.middle=s.middle:=by unfold Po.aW;rw [e2];simp
  rw [if_pos h,if_pos h,em]
  by_cases h2:s.fresh < s.cY
  ·rw [if_pos h2,if_pos h2];rfl
  ·rw [if_neg h2,if_neg h2];rfl
 ·rw [if_neg h,if_neg h];rfl
theorem M5 (s:ah) (x:Int):fS s x=lP (jX s) x:=by
 unfold fS lP vY jX;rw [List.contains_eq_mem]
theorem M6 (s:ah) (g:Nat) (x:Int):jO s g x=vk s ((jX s).cR g x).1:=by
 unfold jO gM.cR;rw [M5]
 by_cases h:lP (jX s) x=true
 ·rw [if_pos h,if_pos h];rfl
 ·rw [if_neg h,if_neg h];rfl
theorem E0 (s:ah):Pure prog 167 [.agg (az s)] (.agg (jF (jX s))):=by
 refine aq.intro func167 rfl rfl rfl (fun ok e=>?_)
 repeat (first | refine av ?_ | intro _)
 exact aA func167
theorem E1 (s:ah) (p:gM):Pure prog 168 [.agg (az s),.agg (jF p)] (.agg (az (vk s p))):=by
 refine aq.intro func168 rfl rfl rfl (fun ok e=>?_)
 repeat (first | refine av ?_ | intro _)
 exact aA func168
structure lQ (s:ah):Prop where
 c1:s.cache.length≤50000
 c2:∀ g:Nat,(s.cache.getD g []).length≤50000
 c3:s.middle.length≤40000
 c4:(s.middle ++ s.cache.flatten).length≤100000
 c5:1≤s.bM∧s.bM≤100000
 c6:0≤s.fresh∧s.fresh≤100000
theorem E2 (s:ah) (g:Nat) (hg:g < s.cache.length) (hb:lQ s) :
  Pure prog 152 [.agg (az s),.c (nI g)] (.aY [.agg (az (bw s g).1),.c (nI (bw s g).2.1),.c (bI (bw s g).2.2)]):=by
 rw [M4 s g hb.c5.1];refine aq.intro func152 rfl rfl rfl (fun ok e=>?_)
 repeat (first | refine aI (E0 s) ?_ | refine aI (MZ (jX s) g hg (Nat.le_trans hb.c1 (by omega)) (Nat.le_trans (hb.c2 g) (by omega)) (Nat.le_trans hb.c3 (by omega)) hb.c5.1 hb.c5.2 hb.c6) ?_ | refine aI (E1 s ((jX s).take g).1) ?_ | refine av ?_ | intro _)
 exact aA func152
theorem E3 (s:ah) (g:Nat) (x:Int) (hg:g < s.cache.length) (hb:lQ s) (h0:0≤x) (hx:x < s.aD.length) (hs:s.aD.length≤100000) :
  Pure prog 148 [.agg (az s),.c (nI g),.c (nI x)] (.agg (az (Sx.cR s g x))):=by
 have er:Sx.cR s g x=bg (vk s ((jX s).cR g x).1) x dX:=by unfold Sx.cR;rw [M6]
 rw [er];refine aq.intro func148 rfl rfl rfl (fun ok e=>?_)
 repeat (first | refine aI (E0 s) ?_ | refine aI (M3 (jX s) g x hg hb.c1 (hb.c2 g) hb.c3 hb.c4 hb.c5.1 hb.c5.2) ?_ | refine aI (E1 s ((jX s).cR g x).1) ?_ | refine aI (sH (vk s ((jX s).cR g x).1) x dX h0 hx hs) ?_ | refine av ?_ | intro _)
 exact aA func148
end Fl
open Go.RowKit
namespace Fl
open Sx Go.Proofs.Tryz
set_option maxRecDepth 100000
structure sJ (s:ah) (g:Nat):Prop where
 lt:g < s.gs.length
 cL:0≤(aa s g).at_
 As:Few s
 l4:(aa s g).place=4→aM s (ag s g).ch=true
 E4:(aa s g).place=12→aM s (ag s g).ch=true
 E5:(aa s g).place=15→lQ s∧g < s.cache.length∧0≤(aa s g).bq∧(aa s g).bq < s.aD.length
 M7:(aa s g).place=16→aM s (ag s g).ch=true
 E6:(aa s g).place=17→∃ a l,(aa s g).an=a :: l∧0≤a∧a < s.gs.length∧l.length≤50000
theorem M8 (s:ah) (g:Int) (h0:0≤g) (hg:g < s.gs.length) (hb:s.gs.length≤100000) :
  Pure prog 149 [.agg (az s),.c (nI g)] (.agg (az (Sx.ready s g.toNat))):=by
 have:=Mn s g.toNat (by omega) hb
 rwa [← EO h0] at this
theorem At (s:ah) (g:Nat):(Sx.ready s g).gs.length=s.gs.length:=by simp [Sx.ready,ai]
theorem sK (s:ah) (g:Nat) (p:Int):(aO s g p).gs.length=s.gs.length:=by simp [aO,ai]
theorem M9 (s:ah) (ch:Int):(Sx.free s ch).gs=s.gs:=rfl
theorem xo (s:ah) (g:Nat) (ch:Int):(tryLock s g ch).1.gs=s.gs:=by unfold tryLock;split <;> rfl
theorem vn (s:ah) (g:Nat) (x:Int):(Sx.cR s g x).gs=s.gs:=by unfold Sx.cR jO;split <;> rfl
theorem pY {s s':ah} (h:s'.gs=s.gs) (g:Nat):aa s' g=aa s g:=by unfold aa;rw [h]
theorem ep (s:ah) (g:Nat) (h:sJ s g) :
  Pure prog 102 [.agg (az s),.c (nI g)] (.aY [.agg (az (common s g).1),.c (bI (common s g).2)]):=by
 have hg:=h.lt;have hb:=h.As.1;have cW:=h.As.2.1;refine aq.intro func102 rfl rfl rfl (fun ok e=>?_);have C0:=cU s g hg h.cL
 cases p4:((aa s g).place == 4) with
 | true =>
  have e4:(aa s g).place=4:=by simpa using p4
  have hm:=h.l4 e4;have C1:=EF s g (ag s g).ch hm cW;have g2:g < (tryLock s g (ag s g).ch).1.gs.length:=by rw [xo];exact hg
  have b2:(tryLock s g (ag s g).ch).1.gs.length≤100000:=by rw [xo];exact hb
  cases ht:(tryLock s g (ag s g).ch).2 with
  | false =>
   have er:common s g=(s,true):=by unfold common;simp [e4,ht]
   rw [er];rw [ht] at C1
   repeat (first | refine av ?_ | intro _)
   exact aA func102
  | true =>
   rw [ht] at C1
   cases hk:((ag s g).kind == 6) with
   | true =>
    have ek:(ag s g).kind=6:=by simpa using hk
    have er:common s g=(aO (tryLock s g (ag s g).ch).1 g 21,true):=by unfold common;simp [e4,ht,ek]
    rw [er]
    repeat (first | refine aI (ei (tryLock s g (ag s g).ch).1 g 21 g2 b2) ?_ | refine av ?_ | intro _)
    exact aA func102
   | false =>
    have ek:¬ (ag s g).kind=6:=by simpa using hk
    have er:common s g=(aO (tryLock s g (ag s g).ch).1 g 5,true):=by unfold common;simp [e4,ht,ek]
    rw [er]
    repeat (first | refine aI (ei (tryLock s g (ag s g).ch).1 g 5 g2 b2) ?_ | refine av ?_ | intro _)
    exact aA func102
 | false =>
 have n4:¬ (aa s g).place=4:=by simpa using p4
 cases E7:((aa s g).place == 12) with
 | true =>
  have si:(aa s g).place=12:=by simpa using E7
  have hm:=h.E4 si;have er:common s g=(aO (Sx.free s (ag s g).ch) g 13,true):=by unfold common;simp [si]
  rw [er]
  repeat (first | refine aI (An s (ag s g).ch hm cW) ?_ | refine aI (ei (Sx.free s (ag s g).ch) g 13 hg hb) ?_ | refine av ?_ | intro _)
  exact aA func102
 | false =>
 have Na:¬ (aa s g).place=12:=by simpa using E7
 cases E8:((aa s g).place == 13) with
 | true =>
  have qH:(aa s g).place=13:=by simpa using E8
  have er:common s g=(fT (aO s g 14) g,true):=by unfold common;simp [qH]
  rw [er]
  repeat (first | refine aI (ei s g 14 hg hb) ?_ | refine aI (EG (aO s g 14) g (by rw [sK];exact hg) (by rw [sK];exact hb)) ?_ | refine av ?_ | intro _)
  exact aA func102
 | false =>
 have Nb:¬ (aa s g).place=13:=by simpa using E8
 cases E9:((aa s g).place == 15) with
 | true =>
  have sj:(aa s g).place=15:=by simpa using E9
  obtain ⟨f1,f2,f3,f4⟩:=h.E5 sj;have er:common s g=(aO (ai (Sx.cR s g (aa s g).bq) g { aa s g with bq:=-1 }) g 18,true):=by unfold common;simp [sj]
  rw [er]
  repeat (first | refine aI (E3 s g (aa s g).bq f2 f1 f3 f4 h.As.2.2) ?_ | refine aI (cA (Sx.cR s g (aa s g).bq) g { aa s g with bq:=-1 } (by rw [vn];exact hg) (by rw [vn];exact hb)) ?_ | refine aI (ei (ai (Sx.cR s g (aa s g).bq) g { aa s g with bq:=-1 }) g 18 (by rw [bQ,vn];exact hg) (by rw [bQ,vn];exact hb)) ?_ | refine av ?_ | intro _)
  exact aA func102
 | false =>
 have Nc:¬ (aa s g).place=15:=by simpa using E9
 cases Fa:((aa s g).place == 16) with
 | true =>
  have sk:(aa s g).place=16:=by simpa using Fa
  have hm:=h.M7 sk;have er:common s g=(Sx.an (Sx.free s (ag s g).ch) g,true):=by unfold common;simp [sk]
  rw [er]
  repeat (first | refine aI (An s (ag s g).ch hm cW) ?_ | refine aI (u7 (Sx.free s (ag s g).ch) g hg hb) ?_ | refine av ?_ | intro _)
  exact aA func102
 | false =>
 have Nd:¬ (aa s g).place=16:=by simpa using Fa
 cases Fb:((aa s g).place == 17) with
 | true =>
  have pK:(aa s g).place=17:=by simpa using Fb
  obtain ⟨a,l,f1,f2,f3,f4⟩:=h.E6 pK;have er:common s g=(Sx.an (ai (Sx.ready s a.toNat) g { aa s g with an:=l }) g,true):=by unfold common;simp [pK,f1]
  rw [er];have w0:((aa s g).an.map fun n=>[nI n])[(0:Int).toNat]?=some [nI a]:=by rw [f1];rfl
  have w1:(((aa s g).an.map fun n=>[nI n]).take ((((aa s g).an.map fun n=>[nI n]).length:Int)).toNat).drop (1:Int).toNat=l.map fun n=>[nI n]:=by
   rw [f1];simp;exact List.take_of_length_le (by simp)
  have w2:(1:Int)≤(((aa s g).an.map fun n=>[nI n]).length:Int):=by rw [f1];simp;omega
  have w3:((Sx.ready s a.toNat).gs.length≤100000):=by rw [At];exact hb
  repeat (first | refine av ?_ | intro _)
  refine J.draw (by kernel_rfl) rfl ?_;refine JW.base (some 6) ?_;refine tk 0 ?_;refine tk 1 ?_;refine tk 2 ?_;refine JD.take 3 rfl rfl (by kernel_rfl) rfl (qb rfl) (Qt.cE rfl rfl (by omega) w0) rfl ?_;refine tk 4 ?_;refine cI 5 (M8 s a f2 f3 hb) ?_;refine jt 6 rfl rfl (Ld.aT rfl rfl rfl (by exact rfl) (by exact rfl)) (fun _=>?_);refine bz ?_
  repeat (first | refine aI (cA (Sx.ready s a.toNat) g { aa s g with an:=l } (by rw [At];exact hg) w3) ?_ | refine aI (u7 (ai (Sx.ready s a.toNat) g { aa s g with an:=l }) g (by rw [bQ,At];exact hg) (by rw [bQ];exact w3)) ?_ | (refine K.slice ?_;refine jq rfl rfl rfl ((Qt.mX rfl rfl rfl (by omega) (by omega) (by omega)).eq (congrArg (fun z=>D.c (A.r 1 z)) w1)) ?_) | (refine K.bi ?_;refine JO.ld (Ld.eB (qb rfl) rfl rfl .read (by (simp;omega))) rfl (fun _=>?_)) | refine av ?_ | intro _)
  exact aA func102
 | false =>
  have Nf:¬ (aa s g).place=17:=by simpa using Fb
  have er:common s g=(s,false):=by unfold common;simp [n4,Na,Nb,Nc,Nd,Nf]
  rw [er]
  repeat (first | refine av ?_ | intro _)
  exact aA func102
end Fl
end Go.Proofs.YtgjpdogjekmemaaGreat
