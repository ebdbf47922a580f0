/-
  What the laws need, part B22.
  Conditions: none.
-/
import Derived.Test.YtdjhhbpedllnhaaGreatB20
set_option linter.unusedVariables false
set_option linter.unusedSimpArgs false
set_option linter.unnecessarySimpa false
set_option maxHeartbeats 2000000
namespace Go.Proofs.YtdjhhbpedllnhaaGreat
open Go.RowKit
namespace Fl
open Sx Go.Proofs.Tryz
set_option maxRecDepth 100000
theorem UR (s:ah) (p:Int) (h:Sx.Good s) (h0:0≤s.step) (h1:s.step≤1000000) :
  Pure prog 98 [.agg (aC s),.c (nI p)] (.bp [.agg (aC (Sx.one s p).1),.c (bI (Sx.one s p).2)]):=by
 have h':=h.toMInv;have ak:Sx.one s p=Sx.one s p:=rfl
 conv at ak=>rhs;unfold Sx.one;simp only
 refine an.intro func98 rfl rfl rfl (fun ok e=>?_)
 by_cases a1:p < 0
 ·rw [if_pos (.inl a1)] at ak;rw [ak];have c1:(decide (p < 0))=true:=decide_eq_true a1
  repeat (first | refine aQ c1 ?_ | refine ay ?_ | intro _)
  exact aD func98
 have c1:(decide (p < 0))=false:=decide_eq_false a1
 by_cases a2:(s.gs.length:Int)≤p
 ·rw [if_pos (.inr (.inl a2))] at ak;rw [ak];have c2:(decide (p ≥ (s.gs.length:Int)))=true:=decide_eq_true a2
  repeat (first | refine aQ c1 ?_ | refine aQ c2 ?_ | refine ay ?_ | intro _)
  exact aD func98
 have c2:(decide (p ≥ (s.gs.length:Int)))=false:=decide_eq_false a2;obtain ⟨g,rfl⟩:∃ g:Nat,p=g:=⟨p.toNat,by omega⟩
 have hg:g < s.gs.length:=by omega
 rw [Int.toNat_natCast] at ak
 by_cases a3:(aa s g).status=0
 ·have c3:((aa s g).status != 0)=false:=by simp [a3]
  rw [az] at ak;obtain ⟨n,hn⟩:∃ n:ah,{ s with step:=s.step + 1 }=n:=⟨_,rfl⟩
  have gn:Sx.Good n:=by rw [← hn];exact ⟨h'.tick,h.z.of rfl⟩
  have zH:g < n.gs.length:=by rw [← hn];exact hg
  have sn:(aa n g).status=0:=by rw [← hn];exact a3
  have C1:=UA n g (UF gn zH);have C2:=Tf n g (UC gn zH sn);have C3:=Tu n g (UD gn zH sn);have C4:=TA n g (UE gn zH);have C5:=KO n g (FG gn zH sn);rw [hn] at ak;have en:aC n=(aC s).set 2 (nI (s.step + 1)):=by rw [← hn];rfl
  rw [en] at C1 C2 C3 C4 C5;clear hn en
  cases k1:(jm n g).2 with
  | true =>
   rw [if_pos k1] at ak;rw [ak];rw [k1] at C1
   repeat (first | (refine K.indexAddr ?_;refine jx rfl rfl rfl rfl (by omega) (iB hg) ?_) | (refine K.binOp ?_;first | refine aQ c1 ?_ | refine aQ c2 ?_ | refine aQ c3 ?_ | refine jq rfl rfl rfl (Qt.cJ rfl rfl rfl (dJ (by omega) (by omega))) ?_) | refine aX (C1) ?_ | refine ay ?_ | intro _)
   exact aD func98
  | false =>
  rw [if_neg (by rw [k1];simp)] at ak;rw [k1] at C1
  cases k2:(cu n g).2 with
  | true =>
   rw [if_pos k2] at ak;rw [ak];rw [k2] at C2
   repeat (first | (refine K.indexAddr ?_;refine jx rfl rfl rfl rfl (by omega) (iB hg) ?_) | (refine K.binOp ?_;first | refine aQ c1 ?_ | refine aQ c2 ?_ | refine aQ c3 ?_ | refine jq rfl rfl rfl (Qt.cJ rfl rfl rfl (dJ (by omega) (by omega))) ?_) | refine aX (C1) ?_ | refine aX (C2) ?_ | refine ay ?_ | intro _)
   exact aD func98
  | false =>
  rw [if_neg (by rw [k2];simp)] at ak;rw [k2] at C2
  cases k3:(cj n g).2 with
  | true =>
   rw [if_pos k3] at ak;rw [ak];rw [k3] at C3
   repeat (first | (refine K.indexAddr ?_;refine jx rfl rfl rfl rfl (by omega) (iB hg) ?_) | (refine K.binOp ?_;first | refine aQ c1 ?_ | refine aQ c2 ?_ | refine aQ c3 ?_ | refine jq rfl rfl rfl (Qt.cJ rfl rfl rfl (dJ (by omega) (by omega))) ?_) | refine aX (C1) ?_ | refine aX (C2) ?_ | refine aX (C3) ?_ | refine ay ?_ | intro _)
   exact aD func98
  | false =>
  rw [if_neg (by rw [k3];simp)] at ak;rw [k3] at C3
  cases k4:(dY n g).2 with
  | true =>
   rw [if_pos k4] at ak;rw [ak];rw [k4] at C4
   repeat (first | (refine K.indexAddr ?_;refine jx rfl rfl rfl rfl (by omega) (iB hg) ?_) | (refine K.binOp ?_;first | refine aQ c1 ?_ | refine aQ c2 ?_ | refine aQ c3 ?_ | refine jq rfl rfl rfl (Qt.cJ rfl rfl rfl (dJ (by omega) (by omega))) ?_) | refine aX (C1) ?_ | refine aX (C2) ?_ | refine aX (C3) ?_ | refine aX (C4) ?_ | refine ay ?_ | intro _)
   exact aD func98
  | false =>
  rw [if_neg (by rw [k4];simp)] at ak;rw [k4] at C4
  cases k5:(aR n g).2 with
  | true =>
   rw [if_pos k5] at ak;rw [ak];rw [k5] at C5
   repeat (first | (refine K.indexAddr ?_;refine jx rfl rfl rfl rfl (by omega) (iB hg) ?_) | (refine K.binOp ?_;first | refine aQ c1 ?_ | refine aQ c2 ?_ | refine aQ c3 ?_ | refine jq rfl rfl rfl (Qt.cJ rfl rfl rfl (dJ (by omega) (by omega))) ?_) | refine aX (C1) ?_ | refine aX (C2) ?_ | refine aX (C3) ?_ | refine aX (C4) ?_ | refine aX (C5) ?_ | refine ay ?_ | intro _)
   exact aD func98
  | false =>
   rw [if_neg (by rw [k5];simp)] at ak;rw [ak];rw [k5] at C5
   repeat (first | (refine K.indexAddr ?_;refine jx rfl rfl rfl rfl (by omega) (iB hg) ?_) | (refine K.binOp ?_;first | refine aQ c1 ?_ | refine aQ c2 ?_ | refine aQ c3 ?_ | refine jq rfl rfl rfl (Qt.cJ rfl rfl rfl (dJ (by omega) (by omega))) ?_) | refine aX (C1) ?_ | refine aX (C2) ?_ | refine aX (C3) ?_ | refine aX (C4) ?_ | refine aX (C5) ?_ | refine ay ?_ | intro _)
   exact aD func98
 ·rw [if_pos (.inr (.inr a3))] at ak;rw [ak];have c3:((aa s g).status != 0)=true:=by simp [a3]
  repeat (first | (refine K.indexAddr ?_;refine jx rfl rfl rfl rfl (by omega) (iB hg) ?_) | refine aQ c1 ?_ | refine aQ c2 ?_ | refine aQ c3 ?_ | refine ay ?_ | intro _)
  exact aD func98
end Fl
open Go.RowKit
namespace Fl
open Sx Go.Proofs.Tryz
set_option maxRecDepth 100000
def qv (s:ah) (k:Nat):List Int:=((List.range k).filter (fun g=>decide ((aa s g).status=0))).map Int.ofNat
theorem Ln (s:ah) (k:Nat):qv s (k + 1)=qv s k ++ (if (aa s k).status=0 then [(k:Int)] else []):=by
 unfold qv;rw [List.range_succ,List.filter_append,List.map_append]
 congr 1
 by_cases c:(aa s k).status=0 <;> simp [c]
theorem Lp (s:ah) (k:Nat):(qv s k).length≤k:=by
 unfold qv;rw [List.length_map];have:=List.length_filter_le (fun g=>decide ((aa s g).status=0)) (List.range k);simpa using this
theorem US (s:ah) (hb:s.gs.length≤100000) :
  Pure prog 97 [.agg (aC s)] (.c (ints (Sx.running s))):=by
 refine an.intro func97 rfl rfl rfl (fun ok e=>?_)
 repeat (first | refine ay ?_ | intro _)
 rename_i b1 b2;refine J.loop (ι:={ p:Nat × Value // p.1≤s.gs.length }) (fun p=>[(8,.c (.r 25 (s.gs.map eG))),(9,.c (nI s.gs.length)),(10,.c (nI p.1.1)),(3,.c (.v p.1.2))]) (fun p=>[.row p.1.2 3 1 ((qv s p.1.1).map fun n=>[nI n]),.box b1 36 (aC s)]) (fun p=>s.gs.length - p.1.1) ⟨(0,.slice (some ⟨b2,0,none⟩) 0 0),Nat.zero_le _⟩ (fun X h=>h.aW ⟨rfl,rfl,rfl,rfl,trivial⟩) (fun p ih=>?_);obtain ⟨⟨k,v⟩,zA⟩:=p;simp only at zA ih ⊢
 by_cases hk:k < s.gs.length
 ·have h1:(decide ((k:Int) < (s.gs.length:Int)))=true:=by simpa using hk
  have hl:=Lp s k
  cases hs:((aa s k).status == 0) with
  | true =>
   have e1:(qv s (k + 1)).map (fun n=>[nI n])=(qv s k).map (fun n=>[nI n]) ++ [[nI k]]:=by
    rw [Ln,if_pos (by simpa using hs)];simp
   repeat (first | (refine K.store ?_;refine JO.ld (Ld.bq rfl rfl rfl (by exact rfl) (by exact rfl)) rfl (fun _=>?_)) | (refine K.bi ?_;refine JO.ld (Ld.cy (qb rfl) rfl rfl .dj (by (simp;omega))) rfl (fun _=>?_)) | refine ay ?_ | intro _)
   rename_i b3 b4 v2;refine J.cS 1 ?_;refine J.cS 1 ?_;refine J.dN ?_ ((ih ⟨(k + 1,v2),by simp only;omega⟩ (by simp only;omega)).aW ⟨rfl,rfl,rfl,rfl,trivial⟩);simp only [e1]
  | false =>
   have e1:(qv s (k + 1))=(qv s k):=by
    rw [Ln,if_neg (by simpa using hs)];simp
   repeat (first | (refine K.store ?_;refine JO.ld (Ld.bq rfl rfl rfl (by exact rfl) (by exact rfl)) rfl (fun _=>?_)) | refine ay ?_ | intro _)
   refine J.cS 0 ?_;refine J.dN ?_ ((ih ⟨(k + 1,v),by simp only;omega⟩ (by simp only;omega)).aW ⟨rfl,rfl,rfl,rfl,trivial⟩);simp only [e1]
 ·have h1:(decide ((k:Int) < (s.gs.length:Int)))=false:=by simpa using hk
  obtain rfl:k=s.gs.length:=by omega
  repeat (refine gn ?_)
  refine J.ji 2 rfl ?_;refine J.ret func97 rfl (.cons (.tmp rfl) .nil) () (.of_eq ?_) [] .nil rfl rfl;rfl
theorem Ls {p n:Int} (h:0 < n):(p.tmod n + n).tmod n=p % n:=by
 have h2:=Int.lt_tmod_of_pos p h;rw [Int.tmod_eq_emod_of_nonneg (show 0≤p.tmod n + n by omega),Int.add_emod_right,Int.tmod_def,Int.sub_mul_emod_self_left]
theorem UT (s:ah) {i:Int} (h0:0≤i) (h1:i < (Sx.running s).length):((Sx.running s).map fun n=>[nI n])[i.toNat]?=some [nI (ax (Sx.running s) i)]:=by
 refine at_map ?_;have:i.toNat < (Sx.running s).length:=by omega
 rw [List.getElem?_eq_getElem this];unfold ax;rw [List.getD_eq_getElem?_getD,List.getElem?_eq_getElem this];rfl
theorem UU (s:ah) (p:Int) (hb:s.gs.length≤100000) :
  Pure prog 95 [.agg (aC s),.c (nI p)] (.c (nI (Sx.pick s p))):=by
 have C1:=US s hb;have ak:Sx.pick s p=Sx.pick s p:=rfl
 conv at ak=>rhs;unfold Sx.pick
 have hl:(Sx.running s).length≤s.gs.length:=Lp s _;refine an.intro func95 rfl rfl rfl (fun ok e=>?_)
 by_cases c:(Sx.running s).length=0
 ·rw [if_pos c] at ak;rw [ak];have c1:(((Sx.running s).length:Int) == 0)=true:=by simp [c]
  repeat (first | refine ay ?_ | intro _)
  exact aD func95
 ·rw [if_neg c] at ak;rw [ak];have c1:(((Sx.running s).length:Int) == 0)=false:=by simp;simpa using c
  obtain ⟨n,hn⟩:∃ n:Int,((Sx.running s).length:Int)=n:=⟨_,rfl⟩
  have n0:0 < n:=by omega
  have m0:=Int.emod_nonneg p (show n≠0 by omega);have m1:=Int.emod_lt_of_pos p n0;have t1:-n < p.tmod n∧p.tmod n < n:=by
   have:=Int.natAbs_tmod p n;have h2:=Int.lt_tmod_of_pos p n0;have h3:=Int.tmod_lt_of_pos p n0;omega
  have w1:IntKind.i64.wrap (p.tmod n + n)=p.tmod n + n:=dJ (by omega) (by omega);rw [hn];rw [hn] at c1;have A:=UT s m0 (by rw [hn];exact m1);have m2:0≤(p.tmod n + n).tmod n:=by rw [Ls n0];exact m0
  have A2:((Sx.running s).map fun n=>[nI n])[((p.tmod n + n).tmod n).toNat]?=some [nI (ax (Sx.running s) (p % n))]:=by rw [Ls n0];exact A
  repeat (first | (refine K.indexAddr ?_;refine jq rfl rfl rfl (Qt.cI rfl rfl m2 A2) ?_) | (refine K.binOp ?_;first | refine jq rfl rfl rfl (Qt.rem rfl rfl (by omega) rfl) ?_ | refine jq rfl rfl rfl (Qt.cJ rfl rfl rfl w1) ?_) | (refine K.bi ?_;refine jq rfl rfl rfl (((Qt.ve rfl).eq (congrArg (fun x=>D.c (nI x)) hn))) ?_) | refine ay ?_ | intro _)
  exact aD func95
theorem UW (s:ah) (l:List Int) {k:Nat} {p:Int} (hp:l[k]?=some p) (h:(Sx.runs s (l.take k)).2=k):Sx.runs s (l.take (k + 1))=if Sx.pick (Sx.runs s (l.take k)).1 p < 0 then ((Sx.runs s (l.take k)).1,(k:Int)) else ((Sx.one (Sx.runs s (l.take k)).1 (Sx.pick (Sx.runs s (l.take k)).1 p)).1,(k:Int) + 1):=by
 have key:∀ (m:List Int) (s:ah),(Sx.runs s m).2=m.length→Sx.runs s (m ++ [p])=if Sx.pick (Sx.runs s m).1 p < 0 then ((Sx.runs s m).1,(m.length:Int)) else ((Sx.one (Sx.runs s m).1 (Sx.pick (Sx.runs s m).1 p)).1,(m.length:Int) + 1):=by
  intro m
  induction m with
  | nil =>
   intro s _;rfl
  | cons q m ih =>
   intro s hm;rw [List.cons_append];unfold Sx.runs at hm ⊢
   by_cases c:Sx.pick s q < 0
   ·rw [if_pos c] at hm;simp at hm;omega
   ·rw [if_neg c] at hm ⊢;rw [if_neg c];have:=ih (Sx.one s (Sx.pick s q)).1 (by simp at hm;omega);rw [this];simp only [List.length_cons]
    split <;> simp <;> omega
 have hk:=(List.getElem?_eq_some_iff.1 hp).1;rw [take_one hp,key (l.take k) s (by rw [h];simp;omega)];simp [Nat.min_eq_left (Nat.le_of_lt hk)]
theorem UX (s:ah) (l:List Int) {k:Nat} (h:(Sx.runs s (l.take k)).2 < k) (hk:k≤l.length):Sx.runs s l=Sx.runs s (l.take k):=by
 have key:∀ (m r:List Int) (s:ah),(Sx.runs s m).2 < m.length→Sx.runs s (m ++ r)=Sx.runs s m:=by
  intro m r
  induction m with
  | nil=>intro s h;simp [Sx.runs] at h
  | cons q m ih =>
   intro s hm;rw [List.cons_append];unfold Sx.runs at hm ⊢
   by_cases c:Sx.pick s q < 0
   ·rw [if_pos c,if_pos c]
   ·rw [if_neg c] at hm;rw [if_neg c,if_neg c,ih _ (by simp at hm;omega)]
 have:=key (l.take k) (l.drop k) s (by simp;omega)
 rwa [List.take_append_drop] at this
theorem UY (s:ah) (l:List Int) (h:Sx.Good s) (h0:0≤s.step) (h1:s.step≤500000) (hl:l.length≤500000) :
  Pure prog 43 [.agg (aC s),.c (ints l)] (.bp [.agg (aC (Sx.runs s l).1),.c (nI (Sx.runs s l).2)]):=by
 refine an.intro func43 rfl rfl rfl (fun ok e=>?_)
 repeat (first | refine ay ?_ | intro _)
 rename_i b2 b4;refine J.loop (ι:={ k:Nat // k≤l.length∧(Sx.runs s (l.take k)).2=k }) (fun p=>[(9,.c (ints l)),(10,.c (nI l.length)),(11,.c (nI p.1)),(1,.c (ints l)),(2,.c (.v (.pointer (some ⟨b2,0,none⟩)))),(4,.c (.v (.pointer (some ⟨b4,0,none⟩))))]) (fun p=>[.box b4 36 ri,.box b2 36 (aC (Sx.runs s (l.take p.1)).1)]) (fun p=>l.length - p.1) ⟨0,Nat.zero_le _,rfl⟩ (fun X h=>h.aW ⟨rfl,rfl,rfl,rfl,rfl,rfl,trivial⟩) (fun p ih=>?_);obtain ⟨k,zA,bQ⟩:=p;simp only at ih ⊢;have yZ:=h.runs (l.take k);have oB:=RQ (l.take k) s;rw [List.length_take,Nat.min_eq_left zA] at oB
 by_cases hk:k < l.length
 ·obtain ⟨y,hy⟩:∃ y,l[k]?=some y:=⟨_,List.getElem?_eq_getElem hk⟩
  have c1:(decide ((k:Int) < (l.length:Int)))=true:=by simpa using hk
  have rt:=UW s l hy bQ;have C1:=UU (Sx.runs s (l.take k)).1 y (by have:=yZ.n8;omega);have C2:=UR (Sx.runs s (l.take k)).1 (Sx.pick (Sx.runs s (l.take k)).1 y) yZ (by omega) (by omega)
  by_cases c:Sx.pick (Sx.runs s (l.take k)).1 y < 0
  ·have c2:(decide (Sx.pick (Sx.runs s (l.take k)).1 y < 0))=true:=decide_eq_true c;rw [if_pos c] at rt;have es:Sx.runs s l=Sx.runs s (l.take (k + 1)):=UX s l (by rw [rt];simp;omega) hk;rw [rt] at es;rw [es]
   repeat (first | (refine K.store ?_;refine JO.ld (Ld.bq rfl rfl rfl (by exact rfl) (by exact rfl)) rfl (fun _=>?_)) | refine gn ?_)
   exact aD func43
  ·have c2:(decide (Sx.pick (Sx.runs s (l.take k)).1 y < 0))=false:=decide_eq_false c;rw [if_neg c] at rt
   repeat (first | (refine K.store ?_;refine JO.ld (Ld.bq rfl rfl rfl (by exact rfl) (by exact rfl)) rfl (fun _=>?_)) | refine gn ?_)
   refine J.dN ?_ ((ih ⟨k + 1,hk,by rw [rt];simp⟩ (by simp only;omega)).aW ⟨rfl,rfl,rfl,rfl,rfl,rfl,trivial⟩);simp only [rt]
 ·obtain rfl:k=l.length:=by omega
  have c1:(decide ((l.length:Int) < (l.length:Int)))=false:=by simp
  rw [List.take_length] at *
  repeat (first | (refine K.store ?_;refine JO.ld (Ld.bq rfl rfl rfl (by exact rfl) (by exact rfl)) rfl (fun _=>?_)) | refine gn ?_)
  (refine J.ret func43 rfl (.cons (.cell 0 rfl rfl rfl) (.cons (.tmp rfl) .nil)) () (.of_eq ?_) [] .nil rfl rfl)
  rw [bQ];rfl
end Fl
end Go.Proofs.YtdjhhbpedllnhaaGreat
