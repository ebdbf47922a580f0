/-
  What the laws need, part D24.
  Conditions: none.
-/
import Derived.Test.YtofnbflkhgammaaGreatD22
set_option linter.unusedVariables false
set_option linter.unusedSimpArgs false
set_option linter.unnecessarySimpa false
set_option maxHeartbeats 2000000
namespace Go.Proofs.YtofnbflkhgammaaGreat
open Go.RowKit
namespace Fl
set_option maxRecDepth 100000
structure jd where
 size:Int
 most:Int
 ca:List (List Int)
 bh:List Int
 fresh:Int
def lH (p:jd):List A:=[nI p.size,nI p.most,.r 1 (p.ca.map fun l=>[ints l]),ints p.bh,nI p.fresh]
theorem Xj (l:List Int) (x:Int) (hb:l.length≤100000) :
  Pure Tryz.prog 212 [.c (ints l),.c (nI x)] (.c (bI (decide (x∈l)))):=by
 refine ax.intro Tryz.func212 rfl rfl rfl (fun ok e=>?_)
 repeat (refine gn ?_)
 refine J.loop (ι:={ k:Nat // ∀ y∈l.take k,x≠y }) (fun p=>[(7,.c (ints l)),(8,.c (nI l.length)),(9,.c (nI p.1)),(1,.c (nI x))]) (fun p=>[]) (fun p=>l.length - p.1) ⟨0,by simp⟩ (fun X h=>h.aW ⟨rfl,rfl,rfl,rfl,trivial⟩) (fun p ih=>?_);obtain ⟨k,hn⟩:=p;dsimp only
 by_cases hk:k < l.length
 ·obtain ⟨y,hy⟩:∃ y,l[k]?=some y:=⟨_,List.getElem?_eq_getElem hk⟩
  have h1:(decide ((k:Int) < (l.length:Int)))=true:=by simpa using hk
  repeat (refine gn ?_)
  refine J.cond rfl (fun h=>?_) (fun h=>?_)
  ·have mq:x=y:=by simpa using h
   have hm:decide (x∈l)=true:=by
    simp only [decide_eq_true_eq];rw [mq];exact List.mem_of_getElem? hy
   rw [hm]
   repeat (refine gn ?_)
   exact aA Tryz.func212
  ·have mq:x≠y:=by simpa using h
   repeat (refine gn ?_)
   have lS:∀ z∈l.take (k + 1),x≠z:=fun z hz=>by rw [take_one hy] at hz;rcases List.mem_append.1 hz with hz | hz;exact hn z hz;simp at hz;rw [hz];exact mq
   refine (ih ⟨k + 1,lS⟩ (by (simp;omega))).aW (f:=_) ?_;exact ⟨rfl,rfl,rfl,rfl,trivial⟩
 ·have h1:(decide ((k:Int) < (l.length:Int)))=false:=by simpa using hk
  have hm:decide (x∈l)=false:=by
   simp only [decide_eq_false_iff_not];intro hx;rw [List.take_of_length_le (by omega)] at hn;exact hn x hx rfl
  rw [hm]
  repeat (refine gn ?_)
  exact aA Tryz.func212
theorem Xk (p:jd) (hb:(p.bh ++ p.ca.flatten).length≤100000) (hc:p.ca.length≤100000) :
  Pure Tryz.prog 213 [.agg (lH p)] (.c (ints (p.bh ++ p.ca.flatten))):=by
 have tJ:p.bh.length + p.ca.flatten.length≤100000:=by simpa using hb
 refine ax.intro Tryz.func213 rfl rfl rfl (fun ok e=>?_)
 repeat (first | (refine K.bi ?_;refine JO.ld (Ld.cA (qb rfl) rfl rfl .read (by (simp;omega))) rfl (fun _=>?_)) | refine av ?_ | intro _)
 rename_i b1 b2 v1;refine J.loop (ι:=Nat × Value) (fun q=>[(11,.c (.r 1 (p.ca.map fun l=>[ints l]))),(12,.c (nI p.ca.length)),(13,.c (nI q.1)),(3,.c (.v q.2))]) (fun q=>[.row q.2 3 1 ((p.bh ++ (p.ca.take q.1).flatten).map fun n=>[nI n]),.box b1 166 (lH p)]) (fun q=>p.ca.length - q.1) (0,v1) (fun X h=>J.fK (by simp) (h.aW ⟨rfl,rfl,rfl,rfl,trivial⟩)) (fun q ih=>?_);obtain ⟨k,v⟩:=q
 by_cases hk:k < p.ca.length
 ·obtain ⟨y,hy⟩:∃ y,p.ca[k]?=some y:=⟨_,List.getElem?_eq_getElem hk⟩
  have h1:(decide ((k:Int) < (p.ca.length:Int)))=true:=by simpa using hk
  have e2:=take_one hy;have hlen:(p.ca.take k).flatten.length + y.length≤p.ca.flatten.length:=by
   have:p.ca.flatten=(p.ca.take (k + 1)).flatten ++ (p.ca.drop (k + 1)).flatten:=by rw [← List.flatten_append,List.take_append_drop]
   rw [this,e2];simp [List.flatten_append]
  repeat (first | (refine K.indexAddr ?_;refine jx rfl rfl rfl rfl (by omega) (at_map (at_nat hy)) ?_) | (refine K.bi ?_;refine JO.ld (Ld.cA (qb rfl) rfl rfl .read (by simp only [List.length_map,List.length_append];omega)) rfl (fun _=>?_)) | refine gn ?_)
  rename_i v2;refine J.fK ?_ ((ih (k + 1,v2) (by (simp;omega))).aW ⟨rfl,rfl,rfl,rfl,trivial⟩);simp only [e2,List.flatten_append,List.flatten_cons,List.flatten_nil,List.append_nil,List.map_append,List.append_assoc]
 ·have h1:(decide ((k:Int) < (p.ca.length:Int)))=false:=by simpa using hk
  repeat (refine gn ?_)
  refine J.jY 2 rfl ?_;refine J.ret Tryz.func213 rfl (.cons (.tmp rfl) .nil) () (.of_eq ?_) [] .nil rfl rfl;rw [List.take_of_length_le (show p.ca.length≤k by omega)];rfl
def oM (p:jd) (x:Int):Bool:=decide (0≤x) && decide (x < p.fresh) && !decide (x∈p.bh ++ p.ca.flatten)
theorem Xl (p:jd) (x:Int) (hb:(p.bh ++ p.ca.flatten).length≤100000) (hc:p.ca.length≤100000) :
  Pure Tryz.prog 180 [.agg (lH p),.c (nI x)] (.c (bI (oM p x))):=by
 refine ax.intro Tryz.func180 rfl rfl rfl (fun ok e=>?_)
 cases h1:decide (x ≥ 0) with
 | false =>
  have e1:oM p x=false:=by unfold oM;have:decide (0≤x)=false:=h1;rw [this];rfl
  rw [e1]
  repeat (first | refine av ?_ | intro _)
  exact aA Tryz.func180
 | true =>
  cases h2:decide (x < p.fresh) with
  | false =>
   have e1:oM p x=false:=by unfold oM;rw [h2];simp
   rw [e1]
   repeat (first | refine av ?_ | intro _)
   exact aA Tryz.func180
  | true =>
   have e1:oM p x=!decide (x∈p.bh ++ p.ca.flatten):=by unfold oM;have:decide (0≤x)=true:=h1;rw [h2,this];rfl
   rw [e1]
   repeat (first | refine aO (Xk p hb hc) ?_ | refine aO (Xj (p.bh ++ p.ca.flatten) x hb) ?_ | refine av ?_ | intro _)
   exact aA Tryz.func180
theorem NK (p:jd) (g:Nat) (l:List Int) (hg:g < p.ca.length) (hc:p.ca.length≤100000) :
  Pure Tryz.prog 181 [.agg (lH p),.c (nI g),.c (ints l)] (.agg (lH { p with ca:=p.ca.set g l })):=by
 refine ax.intro Tryz.func181 rfl rfl rfl (fun ok e=>?_)
 repeat (first | (refine K.store ?_;refine JO.ld (Ld.fZ rfl rfl rfl (by exact rfl) (by (simp;omega))) rfl (fun _=>?_)) | (refine K.indexAddr ?_;refine jq rfl rfl rfl (Qt.bM rfl rfl (by (omega)) (by (simp;omega))) ?_) | (refine K.bi ?_;refine JO.ld (Ld.cA (qb rfl) rfl rfl .read (by (simp;omega))) rfl (fun _=>?_)) | refine av ?_ | intro _)
 refine J.wA 0 1 2 rfl rfl rfl ?_
 (refine J.ret Tryz.func181 rfl (.cons (.cell 0 rfl rfl rfl) .nil) () (.of_eq ?_) [] .nil rfl rfl)
 have e1:([] ++ List.map (fun l=>[ints l]) p.ca).set ((g:Int)).toNat [ints l]=(p.ca.set g l).map fun l=>[ints l]:=by simp
 exact congrArg (fun r=>D.agg [nI p.size,nI p.most,.r 1 r,ints p.bh,nI p.fresh]) e1
end Fl
open Go.RowKit
namespace Fl
set_option maxRecDepth 100000
def jd.take (p:jd) (g:Nat):jd × Int × Bool :=
 if Po.own p.most.toNat (p.ca.getD g []) p.bh=[] then
  (if p.fresh < p.size then ({ p with bh:=Po.bh p.most.toNat (p.ca.getD g []) p.bh,fresh:=p.fresh + 1 },p.fresh,true) else ({ p with bh:=Po.bh p.most.toNat (p.ca.getD g []) p.bh },0,false))
 else ({ p with ca:=p.ca.set g (Po.own p.most.toNat (p.ca.getD g []) p.bh).dropLast,bh:=Po.bh p.most.toNat (p.ca.getD g []) p.bh },(Po.own p.most.toNat (p.ca.getD g []) p.bh).getLastD 0,true)
theorem GL {α:Type} {l:List α} {g:Nat} {d:α} (h:g < l.length):l[g]?=some (l.getD g d):=by
 rw [List.getD_eq_getElem?_getD,List.getElem?_eq_getElem h];rfl
theorem NL (M:List Int) {k:Nat} (h:k < M.length):∃ y,M[M.length - (k + 1)]?=some y∧M.reverse.take (k + 1)=M.reverse.take k ++ [y]∧M.take (M.length - k)=M.take (M.length - (k + 1)) ++ [y]:=by
 refine ⟨M[M.length - (k + 1)]'(by omega),List.getElem?_eq_getElem (by omega),?_,?_⟩
 ·rw [List.take_add_one,List.getElem?_reverse h,show M.length - 1 - k=M.length - (k + 1) by omega,List.getElem?_eq_getElem (by omega)];rfl
 ·have e:M.length - k=M.length - (k + 1) + 1:=by omega
  rw [e,List.take_add_one,List.getElem?_eq_getElem (by omega)];rfl
theorem NM {l:List Int} (h:l≠[]):l[l.length - 1]?=some (l.getLastD 0):=by
 cases l with
 | nil=>exact absurd rfl h
 | cons a l=>rw [List.getLastD_eq_getLast?,List.getLast?_eq_getElem?];simp
theorem NN {l:List Int} {f:Int→List A} {n:Nat} {m:Int} (h:m=n):((l.map f).take m.toNat).drop (0:Int).toNat=(l.take n).map f:=by
 subst h;simp
def Ar:List A:=vs [.int .i64 0,.int .i64 0,.slice none 0 0,.slice none 0 0,.int .i64 0]
theorem Xm (p:jd) (g:Nat) (hg:g < p.ca.length) (hc:p.ca.length≤100000) (bZ:(p.ca.getD g []).length≤100000) (hm:p.bh.length≤100000) (h1:1≤p.most) (h2:p.most≤100000) (hf:0≤p.fresh∧p.fresh≤100000) :
  Pure Tryz.prog 216 [.agg (lH p),.c (nI g)] (.aZ [.agg (lH (p.take g).1),.c (nI (p.take g).2.1),.c (bI (p.take g).2.2)]):=by
 refine ax.intro Tryz.func216 rfl rfl rfl (fun ok e=>?_);have hq:IntKind.i64.wrap (p.most.tdiv 2)=((p.most.toNat / 2:Nat):Int):=by
  rw [Int.tdiv_eq_ediv_of_nonneg (by omega),eL (by omega) (by omega)];omega
 have t1:(decide ((g:Int) < 0))=false:=by simp
 have t2:(decide ((g:Int) ≥ (p.ca.length:Int)))=false:=by simp;omega
 unfold jd.take;generalize GM:p.ca.getD g []=c at *;have GN:p.ca[g]?=some c:=by rw [← GM];exact GL hg
 repeat (first | (refine K.indexAddr ?_;refine jx rfl rfl rfl rfl (by omega) (at_map (at_nat GN)) ?_) | (refine K.bi ?_;refine JO.ld (Ld.cA (qb rfl) rfl rfl .read (by (simp;omega))) rfl (fun _=>?_)) | refine av ?_ | intro _)
 rename_i b1 b2 Xn vo Xo vm;refine J.join (ι:=Unit) (fun _=>[(7,.c (ints (Po.own p.most.toNat c p.bh))),(8,.c (ints (Po.bh p.most.toNat c p.bh))),(1,.c (nI g)),(2,.c (.v (.pointer (some ⟨b1,0,none⟩)))),(4,.c (.v (.pointer (some ⟨b2,0,none⟩))))]) (fun _=>[.box b2 166 Ar,.box b1 166 (lH p)]) (fun _=>?_) (fun rest=>?_)
 ·have nQ:(Po.own p.most.toNat c p.bh).length≤200000:=by
   unfold Po.own;simp only [List.length_append,List.length_take,List.length_reverse];omega
  generalize Po.own p.most.toNat c p.bh=o at *;generalize Po.bh p.most.toNat c p.bh=m at *
  by_cases ho:o=[]
  ·have u1:(decide ((o.length:Int) > 0))=false:=by simp [ho]
   rw [if_pos ho]
   cases u2:decide (p.fresh < p.size) with
   | true =>
    have u3:p.fresh < p.size:=by simpa using u2
    rw [if_pos u3]
    repeat (first | (refine K.store ?_;refine JO.ld (Ld.cZ rfl rfl (by exact rfl)) rfl (fun _=>?_)) | refine gn ?_)
    refine J.draw (by kernel_rfl) rfl ?_;refine JW.yK none (.tmp 4) rfl ?_;refine tk 0 ?_;refine tk 1 ?_;refine tk 2 ?_;refine JD.take 3 rfl rfl (by kernel_rfl) rfl (qb rfl) (Qt.dj rfl rfl rfl (eL (by omega) (by omega))) rfl ?_;refine JD.bJ (i:=4) (by kernel_rfl) ?_
    (refine JS.st rfl rfl rfl (Ld.aX rfl rfl rfl (by exact rfl) (by exact rfl)) (.m9 rfl) (fun _=>?_))
    refine tk 5 ?_;refine tk 6 ?_;refine bt ?_
    repeat (fail)
    (refine J.ret Tryz.func216 rfl (.cons (.cell 0 rfl rfl rfl) (.cons (.tmp rfl) (.cons (.tmp rfl) .nil))) () (.of_eq ?_) [] .nil rfl rfl)
    show D.aZ [D.agg [nI p.size,nI p.most,_,ints m,nI (p.fresh + 1)],D.c (nI (p.fresh + 1 - 1)),_]=_;rw [show p.fresh + 1 - 1=p.fresh by omega];rfl
   | false =>
    have u3:¬ p.fresh < p.size:=by simpa using u2
    rw [if_neg u3]
    repeat (first | (refine K.store ?_;first | refine JO.ld (Ld.aX rfl rfl rfl (by exact rfl) (by exact rfl)) rfl (fun _=>?_) | refine JO.ld (Ld.cZ rfl rfl (by exact rfl)) rfl (fun _=>?_)) | refine gn ?_)
    (refine J.ret Tryz.func216 rfl (.cons (.cell 0 rfl rfl rfl) (.cons (.tmp rfl) (.cons (.tmp rfl) .nil))) () (.of_eq ?_) [] .nil rfl rfl)
    rfl
  ·have abh:1≤o.length:=List.length_pos_iff.2 ho;have u1:(decide ((o.length:Int) > 0))=true:=by simp;omega
   have hcut:((o.map fun n=>[nI n]).take ((o.length:Int) - 1).toNat).drop (0:Int).toNat=o.dropLast.map fun n=>[nI n]:=by
    rw [show ((o.length:Int) - 1).toNat=o.length - 1 by omega,List.dropLast_eq_take];simp
   rw [if_neg ho]
   repeat (first | (refine K.store ?_;refine JO.ld (Ld.cZ rfl rfl (by exact rfl)) rfl (fun _=>?_)) | (refine K.indexAddr ?_;refine jx rfl rfl rfl rfl (by omega) (at_map (show o[((o.length:Int) - 1).toNat]?=some (o.getLastD 0) by rw [show ((o.length:Int) - 1).toNat=o.length - 1 by omega];exact NM ho)) ?_) | refine gn ?_)
   refine J.draw (by kernel_rfl) rfl ?_;refine JW.yK none (.tmp 4) rfl ?_;refine tk 0 ?_;refine tk 1 ?_;refine tk 2 ?_;refine tk 3 ?_;refine tk 4 ?_;refine JD.take 5 rfl rfl (by kernel_rfl) rfl (qb rfl) (Qt.dj rfl rfl rfl (eL (by omega) (by omega))) rfl ?_;refine JD.take 6 rfl rfl (by kernel_rfl) rfl (qb rfl) ((Qt.qu rfl rfl rfl (by omega) (by omega) (by simp;omega)).eq (congrArg (fun z=>D.c (A.r 1 z)) hcut)) rfl ?_;refine tk 8 ?_;refine cW 7 (NK { p with bh:=m } g o.dropLast hg hc) ?_;refine JD.bJ (i:=9) (by kernel_rfl) ?_
   (refine JS.st rfl rfl rfl (Ld.aX rfl rfl rfl (by exact rfl) (by exact rfl)) (.m9 rfl) (fun _=>?_))
   refine jk 10 rfl rfl rfl rfl (Qt.assign rfl) ?_;refine jk 11 rfl rfl rfl rfl (Qt.assign rfl) ?_;refine bt ?_
   repeat (fail)
   (refine J.ret Tryz.func216 rfl (.cons (.cell 0 rfl rfl rfl) (.cons (.tmp rfl) (.cons (.tmp rfl) .nil))) () (.of_eq ?_) [] .nil rfl rfl)
   rfl
 ·refine J.cond rfl (fun h=>?_) (fun h=>?_)
  ·have h0:c=[]:=by simpa using h
   have fU:1≤Po.room p.most.toNat:=by unfold Po.room;omega
   have gf:p.most.toNat / 2≤Po.room p.most.toNat:=by unfold Po.room;omega
   have hr3:Po.room p.most.toNat≤1∨Po.room p.most.toNat≤p.most.toNat / 2:=by unfold Po.room;omega
   have e8:A.r 1 ([] ++ p.bh.map fun n=>[nI n])=ints (p.bh.take (p.bh.length - 0)):=by simp;rfl
   refine J.jY 8 rfl ?_;refine J.block ?_;refine J.loop (ι:={ q:Nat × Value // q.1≤p.bh.length∧q.1≤Po.room p.most.toNat }) (fun q=>[(7,.c (.v q.1.2)),(8,.c (ints (p.bh.take (p.bh.length - q.1.1)))),(1,.c (nI g)),(2,.c (.v (.pointer (some ⟨b1,0,none⟩)))),(4,.c (.v (.pointer (some ⟨b2,0,none⟩))))]) (fun q=>[.row q.1.2 3 1 ((p.bh.reverse.take q.1.1).map fun n=>[nI n]),.box b2 166 Ar,.box b1 166 (lH p)]) (fun q=>p.bh.length - q.1.1) ⟨(0,vo),by omega,by omega⟩ (fun X h=>J.fK (by simp [h0];rfl) (h.aW ⟨rfl,congrArg (fun z=>some (D.c z)) e8,rfl,rfl,rfl,trivial⟩)) (fun q ih=>?_);obtain ⟨⟨k,v⟩,br,aQ⟩:=q;dsimp only at br aQ ⊢;have em:(p.bh.take (p.bh.length - k)).length=p.bh.length - k:=by simp
   have eo:((p.bh.reverse.take k).map fun n=>[nI n]).length=k:=by simp;omega
   by_cases tD:k < p.bh.length∧k < Po.room p.most.toNat
   ·obtain ⟨y,y1,y2,y3⟩:=NL p.bh tD.1;have w1:(decide (((p.bh.take (p.bh.length - k)).length:Int) > 0))=true:=by rw [em];simp;omega
    have y4:(p.bh.take (p.bh.length - k))[(((p.bh.take (p.bh.length - k)).length:Int) - 1).toNat]?=some y:=by
     rw [em,show (((p.bh.length - k:Nat):Int) - 1).toNat=p.bh.length - (k + 1) by omega,List.getElem?_take,if_pos (by omega)];exact y1
    have y5:(((p.bh.take (p.bh.length - k)).map fun n=>[nI n]).take (((p.bh.take (p.bh.length - k)).length:Int) - 1).toNat).drop (0:Int).toNat=(p.bh.take (p.bh.length - (k + 1))).map fun n=>[nI n]:=by
     rw [em,show (((p.bh.length - k:Nat):Int) - 1).toNat=p.bh.length - (k + 1) by omega,← List.map_take,List.take_take,Nat.min_eq_left (by omega)];rfl
    refine J.seq ?_;refine J.join (ι:=Unit) (fun _=>[(7,.c (.v v)),(8,.c (ints (p.bh.take (p.bh.length - k)))),(1,.c (nI g)),(2,.c (.v (.pointer (some ⟨b1,0,none⟩)))),(4,.c (.v (.pointer (some ⟨b2,0,none⟩))))]) (fun _=>[.row v 3 1 ((p.bh.reverse.take k).map fun n=>[nI n]),.box b2 166 Ar,.box b1 166 (lH p)]) (fun _=>?_) (fun NO=>?_)
    ·repeat (first | (refine K.indexAddr ?_;refine jx rfl rfl rfl rfl (by omega) (at_map y4) ?_) | (refine K.slice ?_;refine jq rfl rfl rfl ((Qt.qu rfl rfl rfl (by omega) (by omega) (by simp only [List.length_map];omega)).eq (congrArg (fun z=>D.c (A.r 1 z)) y5)) ?_) | (refine K.bi ?_;refine JO.ld (Ld.cA (qb rfl) rfl rfl .cY (by simp only [List.length_append,List.length_map,List.length_take,List.length_reverse,List.length_cons,List.length_nil];omega)) rfl (fun _=>?_)) | refine av ?_ | intro _)
     rename_i b7 v7;refine J.drop 1 ?_;refine J.fK ?_ ((ih ⟨(k + 1,v7),by omega,by omega⟩ (by simp only;omega)).aW ⟨rfl,rfl,rfl,rfl,rfl,trivial⟩);simp only [y2,List.map_append];rfl
    ·refine J.seq ?_;refine J.region ?_
     cases w2:decide ((((p.bh.reverse.take k).map fun n=>[nI n]).length:Int) < ((p.most.toNat / 2:Nat):Int)) with
     | true =>
      repeat (first | (refine K.binOp ?_;refine jq rfl rfl rfl (Qt.quo rfl rfl (by decide) (hq)) ?_) | refine wE ?_)
      refine JO.nil (J.gZ rfl (J.skip ?_));exact (NO ()).aW ⟨rfl,rfl,rfl,rfl,rfl,trivial⟩
     | false =>
      have w3:(decide ((((p.bh.reverse.take k).map fun n=>[nI n]).length:Int) < 1))=true:=by
       rw [eo] at w2 ⊢;simp at w2 ⊢;omega
      repeat (first | (refine K.binOp ?_;refine jq rfl rfl rfl (Qt.quo rfl rfl (by decide) (hq)) ?_) | refine wE ?_)
      refine JO.nil (J.gZ rfl (J.skip ?_));exact (NO ()).aW ⟨rfl,rfl,rfl,rfl,rfl,trivial⟩
   ·have e1:p.bh.reverse.take k=Po.own p.most.toNat c p.bh:=by
     unfold Po.own Po.ng;rw [if_pos h0,h0,List.nil_append];congr 1;omega
    have e2:p.bh.take (p.bh.length - k)=Po.bh p.most.toNat c p.bh:=by
     unfold Po.bh Po.ng;rw [if_pos h0];congr 2;omega
    refine J.seq (J.seq (J.region ?_))
    cases w1:decide (((p.bh.take (p.bh.length - k)).length:Int) > 0) with
    | false =>
     repeat (refine wE ?_)
     refine JO.nil (J.gw rfl ?_)
     repeat (first | refine J.exit rfl ?_ | refine J.inBlock ?_)
     refine J.jY 7 rfl ?_;exact (rest ()).aW ⟨congrArg (fun z=>some (D.c (ints z))) e1,congrArg (fun z=>some (D.c (ints z))) e2,rfl,rfl,rfl,trivial⟩
    | true =>
     have w2:decide ((((p.bh.reverse.take k).map fun n=>[nI n]).length:Int) < ((p.most.toNat / 2:Nat):Int))=false:=by
      rw [eo];rw [em] at w1;simp at w1 ⊢;omega
     have w3:(decide ((((p.bh.reverse.take k).map fun n=>[nI n]).length:Int) < 1))=false:=by
      rw [eo];rw [em] at w1;simp at w1 ⊢;omega
     repeat (first | (refine K.binOp ?_;refine jq rfl rfl rfl (Qt.quo rfl rfl (by decide) (hq)) ?_) | refine wE ?_)
     refine JO.nil (J.gw rfl ?_)
     repeat (first | refine J.exit rfl ?_ | refine J.inBlock ?_)
     refine J.jY 7 rfl ?_;exact (rest ()).aW ⟨congrArg (fun z=>some (D.c (ints z))) e1,congrArg (fun z=>some (D.c (ints z))) e2,rfl,rfl,rfl,trivial⟩
  ·have h0:c≠[]:=by simpa using h
   have e1:Po.own p.most.toNat c p.bh=c:=by unfold Po.own Po.ng;rw [if_neg h0];simp
   have e2:Po.bh p.most.toNat c p.bh=p.bh:=by unfold Po.bh Po.ng;rw [if_neg h0];simp
   refine J.jY 7 rfl ?_;refine J.jY 8 rfl ?_;refine J.skip ?_;exact (rest ()).aW ⟨congrArg (fun z=>some (D.c (ints z))) e1.symm,congrArg (fun z=>some (D.c (ints z))) e2.symm,rfl,rfl,rfl,trivial⟩
end Fl
end Go.Proofs.YtofnbflkhgammaaGreat
