/-
  What the laws need, part L7.
  Conditions: none.
-/
import Derived.Test.YtdjhhbpedllnhaaGreatL6
set_option linter.unusedVariables false
set_option linter.unusedSimpArgs false
set_option linter.unnecessarySimpa false
set_option maxHeartbeats 2000000
namespace Go.Proofs.YtdjhhbpedllnhaaGreat
namespace Sx
structure Lk (c:Int) (g:Nat) (rd:Bool) (s t:ah):Prop where
 gl:t.gs.length=s.gs.length
 cl:t.au.length=s.au.length
 st:t.step=s.step
 dn:t.done.length=s.done.length
 G:∀ h,h≠g→(aa t h).place=(aa s h).place∧(aa t h).at_=(aa s h).at_∧(rd=false→(aa t h).status=(aa s h).status∧(aa t h).token=(aa s h).token)
 C:∀ k:Nat,(k:Int) + 1≠c→cn t ((k:Int) + 1)=cn s ((k:Int) + 1)
section
variable {c:Int} {g:Nat} {rd:Bool} {s t u:ah}
theorem Ph {x:Gr} {o h:Nat}:aa (Sx.ai s o x) h=if o=h∧h < s.gs.length then x else aa s h:=by
 unfold aa Sx.ai;rw [List.getD_eq_getElem?_getD,List.getD_eq_getElem?_getD,List.getElem?_set]
 by_cases e:o=h
 ·subst e
  by_cases l:o < s.gs.length
  ·rw [if_pos rfl,if_pos l,if_pos ⟨rfl,l⟩];rfl
  ·rw [if_pos rfl,if_neg l,if_neg (fun q=>l q.2),List.getElem?_eq_none (by omega)]
 ·rw [if_neg e,if_neg (fun q=>e q.1)]
end
end Sx
namespace Fl
open Sx Go.Proofs.Tryz
end Fl
namespace Sx
structure uz (q:Bool) (a b:Cn):Prop where
 cl:a.closed=b.closed
 bf:a.buf.length≤b.buf.length
 rv:q=false→a.recv.length≤b.recv.length
 sd:a.send.length≤b.send.length
theorem uz.vQ {q:Bool} {a:Cn}:uz q a a:=⟨rfl,Nat.le_refl _,fun _=>Nat.le_refl _,Nat.le_refl _⟩
theorem uz.trans {q:Bool} {a b c:Cn} (h:uz q a b) (k:uz q b c):uz q a c:=⟨h.cl.trans k.cl,Nat.le_trans h.bf k.bf,fun e=>Nat.le_trans (h.rv e) (k.rv e),Nat.le_trans h.sd k.sd⟩
structure Lr (g:Nat) (q:Bool) (s t:ah):Prop where
 gl:t.gs.length=s.gs.length
 cl:t.au.length=s.au.length
 dn:t.done.length=s.done.length
 G:∀ h,h≠g→(aa t h).place=(aa s h).place∧(aa t h).at_=(aa s h).at_
 C:∀ c:Int,uz q (cn t c) (cn s c)
section
variable {g:Nat} {q:Bool} {s t u:ah}
theorem Lr.vQ:Lr g q s s:=⟨rfl,rfl,rfl,fun _ _=>⟨rfl,rfl⟩,fun _=>.vQ⟩
theorem Lr.other (a:Lr g q s t) {o:Nat} {x:Gr} (h:o≠g→x.place=(aa t o).place∧x.at_=(aa t o).at_):Lr g q s (Sx.ai t o x) :=
 ⟨by rw [← a.gl];simp [Sx.ai],a.cl,a.dn,fun k n=>by
  rw [Ph]
  split
  ·rename_i e;obtain ⟨rfl,_⟩:=e;rw [(h n).1,(h n).2];exact a.G _ n
  ·exact a.G _ n,a.C⟩
theorem Lr.dK (a:Lr g q s t) {x:Gr}:Lr g q s (Sx.ai t g x):=a.other fun n=>absurd rfl n
theorem Lr.hJ (a:Lr g q s t) {i:Int} {x:Su}:Lr g q s (Sx.aN t i x):=⟨a.gl,a.cl,a.dn,a.G,a.C⟩
theorem Lr.dQ (a:Lr g q s t) {c:Int} {x:Cn} (h:uz q x (cn t c)):Lr g q s (Sx.aA t c x) :=
 ⟨a.gl,by rw [← a.cl];simp [Sx.aA],a.dn,a.G,fun d=>by
  have e:cn (Sx.aA t c x) d=if (c - 1).toNat=(d - 1).toNat∧(c - 1).toNat < t.au.length then x else cn t d:=by
   unfold cn Sx.aA;rw [List.getD_eq_getElem?_getD,List.getD_eq_getElem?_getD,List.getElem?_set]
   by_cases e:(c - 1).toNat=(d - 1).toNat
   ·rw [if_pos e]
    by_cases l:(c - 1).toNat < t.au.length
    ·rw [if_pos l,if_pos ⟨e,l⟩];rfl
    ·rw [if_neg l,if_neg (fun q=>l q.2),← e,List.getElem?_eq_none (by omega)]
   ·rw [if_neg e,if_neg (fun q=>e q.1)]
  rw [e]
  split
  ·rename_i z;have:cn t c=cn t d:=by unfold cn;rw [z.1]
   rw [this] at h;exact h.trans (a.C d)
  ·exact a.C d⟩
theorem Lr.aG (a:Lr g q s t) {p:Int}:Lr g q s (Sx.aG t g p):=a.dK
theorem Lr.free (a:Lr g q s t) {c:Int}:Lr g q s (Sx.free t c):=a.dQ ⟨rfl,Nat.le_refl _,fun _=>Nat.le_refl _,Nat.le_refl _⟩
theorem Lr.ak (a:Lr g q s t):Lr g q s (Sx.ak t g):=by unfold Sx.ak;split <;> exact a.aG
theorem Lr.tryLock (a:Lr g q s t) {c:Int}:Lr g q s (Sx.tryLock t g c).1:=by
 unfold Sx.tryLock;split
 ·exact a.dQ ⟨rfl,Nat.le_refl _,fun _=>Nat.le_refl _,Nat.le_refl _⟩
 ·exact a
theorem Lr.eE (a:Lr g q s t) {k:Nat} {x:Int}:Lr g q s (Sx.eE t k x):=by
 unfold Sx.eE;split
 ·exact ⟨a.gl,a.cl,a.dn,a.G,a.C⟩
 ·exact a
theorem Lr.aQ (a:Lr g q s t) {k:Nat}:Lr g q s (Sx.aQ t k).1:=by
 unfold Sx.aQ
 split
 ·split
  ·exact ⟨a.gl,a.cl,a.dn,a.G,a.C⟩
  ·exact a
 ·exact ⟨a.gl,a.cl,a.dn,a.G,a.C⟩
theorem Lr.fF (a:Lr g q s t):Lr g q s (Sx.fF t g):=by unfold Sx.fF;exact a.dK
theorem Lr.ready (a:Lr g q s t) {o:Nat}:Lr g q s (Sx.ready t o):=by
 unfold Sx.ready;exact a.other fun _=>by split <;> (try split) <;> exact ⟨rfl,rfl⟩
theorem Pj (l:List Int) (x:Int):(eZ l x).length≤l.length:=List.length_filter_le _ _
theorem Lr.drop (a:Lr g q s t) {i:Int}:Lr g q s (Sx.aT t i):=by
 unfold Sx.aT
 split
 ·exact a.dQ ⟨rfl,Nat.le_refl _,fun _=>Pj _ _,Pj _ _⟩
 ·exact a
theorem Lr.pair (a:Lr g q s t) {i:Int}:Lr g q s (Sx.pair t g i):=by
 unfold Sx.pair;dsimp only;exact Lr.dK (Lr.other a fun _=>⟨by rfl,by rfl⟩)
theorem Lr.serve (a:Lr g q s t) {i:Int} {d:Bool}:Lr g q s (Sx.serve t g i d):=by
 unfold Sx.serve;dsimp only;exact Lr.dK (Lr.hJ (Lr.other a fun _=>⟨by rfl,by rfl⟩))
theorem Lr.ite {p:Prop} [Decidable p] {β:Type} {x y:ah × β} (h1:p→Lr g q s x.1) (h2:¬ p→Lr g q s y.1):Lr g q s (if p then x else y).1:=by
 split
 ·exact h1 ‹_›
 ·exact h2 ‹_›
theorem Lr.common:Lr g q s (Sx.common s g).1:=by
 have a:Lr g q s s:=.vQ;unfold Sx.common;dsimp only
 split
 ·split
  ·split
   ·exact (a.tryLock).aG
   ·exact (a.tryLock).aG
  ·exact a
 split
 ·exact (a.free).aG
 split
 ·exact a.aG.fF
 split
 ·exact Lr.aG (Lr.dK (by unfold Sx.cy;exact Lr.hJ a.eE))
 split
 ·exact (a.free).ak
 split
 ·exact Lr.ak (Lr.dK (Lr.ready a))
 ·exact a
theorem Lr.taken (a:Lr g q s s) {i wn hn:Int}:Lr g q s (Sx.taken s g i wn hn):=by
 unfold Sx.taken
 split
 ·exact (a.dK).aG
 ·exact (Lr.pair (Lr.drop a.dK)).aG
theorem Lr.cU (a:Lr g q s s) {bk on:Int}:Lr g q s (Sx.cU s g bk on):=by
 unfold Sx.cU;dsimp only
 split
 ·exact (a.drop).dK
 ·refine Lr.aG (Lr.pair (Lr.other (o:=(su s (aa s g).hold).g.toNat) a.dK fun n=>?_));rw [Ph,if_neg (fun q=>n q.1.symm)];exact ⟨rfl,rfl⟩
theorem Lr.aI (a:Lr g q s s) {d:Su}:Lr g q s (Sx.aI s g d):=by
 unfold Sx.aI
 split
 ·exact (Lr.hJ a.aQ).dK
 ·exact (a.aQ).dK
theorem aaZ (l:List Int) (r v:Int):(eF l r v).1.length≤l.length:=by
 unfold eF
 split
 ·exact Nat.le_refl _
 ·rename_i h;simp only [not_or] at h;rw [List.length_append,List.length_tail,List.length_singleton];omega
theorem aa0 (l:List Int):(dX l).1.length≤l.length:=by
 unfold dX
 split
 ·exact Nat.le_refl _
 ·rw [List.length_tail];omega
theorem Lr.hand (a:Lr g q s t) {c i:Int}:Lr g q s (Sx.hand t c i).1:=by
 unfold Sx.hand;dsimp only
 split
 ·exact a
 ·exact a.dQ ⟨rfl,aaZ _ _ _,fun _=>Nat.le_refl _,Nat.le_refl _⟩
theorem aa1 (s:ah) (g:Nat):Lr g ((aa s g).place == 11) s (bz s g).1:=by
 obtain ⟨q,hq⟩:∃ q,((aa s g).place == 11)=q:=⟨_,rfl⟩
 rw [hq];have a:Lr g q s s:=.vQ;unfold Sx.bz;dsimp only;refine .ite (fun _=>a) fun _=>.ite (fun _=>.common) fun _=>.ite (fun _=>a) fun _=>.ite (fun _=>.ite (fun _=>a.aG) fun _=>a.dK) fun _=>.ite (fun _=>.ite (fun _=>a.aG) fun _=>a.dK) fun _=>.ite (fun _=>.ite (fun _=>a.dK) fun _=>a.dK) fun _=>.ite (fun _=>.ite (fun _=>a.dK) fun _=>.ite (fun _=>a.aG) fun _=>a.aG) fun _=>.ite (fun _=>.ite (fun _=>a.aG) fun _=>a.taken) fun _=>.ite (fun _=>a.cU) fun _=>.ite (fun _=>(a.drop.hand.serve).dK) fun _=>.ite (fun _=>.ite (fun _=>(a.dQ (by exact ⟨rfl,aa0 _,fun _=>Nat.le_refl _,Nat.le_refl _⟩)).dK) fun _=>.ite (fun _=>a.dK) fun _=>a.aG) fun _=>.ite (fun _=>a.aI) fun _=>.ite (fun e=>Lr.dK (Lr.dQ (c:=(ag s g).ch) (x:={ cn s (ag s g).ch with recv:=(cn s (ag s g).ch).recv ++ [(aa s g).aI] }) a ⟨rfl,Nat.le_refl _,fun z=>?_,Nat.le_refl _⟩)) fun _=>.ite (fun _=>a.dK) fun _=>a
 rw [e] at hq;rw [← hq] at z;cases z
end
end Sx
open Go.RowKit
namespace Fl
open Sx Go.Proofs.Tryz
set_option maxRecDepth 100000
theorem Pk {s:ah} {k:Nat} (hk:k < s.au.length):(s.au.map eC)[((k:Int)).toNat]?=some (eC (Sx.cn s ((k:Int) + 1))):=by
 rw [Int.toNat_natCast,List.getElem?_map,lH hk];rfl
theorem Ic {a b:List Int} (h:a.length≤b.length):decide ((a.length:Int) > (b.length:Int))=false:=decide_eq_false (by omega)
theorem aa2 (p:List (List Pn.Op)) (sn cn:Int) (d l:List Int) (hd:∀ x∈d,0≤x∧x < 65536) :
  Pure prog 6 [.agg (pq p sn cn d),.c (ints l)] (.c (bI true)):=by
 have CR:=Oe p sn cn d l hd;have HG:=Od (p:=p) (sn:=sn) (cn:=cn) (l:=l) hd;generalize kY p sn cn d l=r at CR HG;obtain ⟨s,o⟩:=r;refine av.intro func6 rfl rfl rfl (fun ok e=>?_)
 cases o with
 | false =>
  repeat (first | (refine K.store ?_;refine JO.ld (Ld.bh rfl rfl rfl (by exact rfl) (by exact rfl)) rfl (fun _=>?_)) | refine mM (Pg) ?_ | refine ay ?_ | intro _)
  exact aC func6
 | true =>
 have G:Sx.Good s:=HG rfl;have g8:=G.n8;have c8:=G.c8;clear HG
 repeat (first | (refine K.store ?_;refine JO.ld (Ld.bh rfl rfl rfl (by exact rfl) (by exact rfl)) rfl (fun _=>?_)) | refine mM (Pg) ?_ | refine ay ?_ | intro _)
 rename_i b2 b5 _;refine J.loop (ι:={ k:Nat // k≤s.gs.length }) (fun q=>[(28,.c (nI q.1)),(27,.c (nI s.gs.length)),(26,.c (.r 25 (s.gs.map eG))),(5,.c (.v (pt b5)))]) (fun _=>[.box b5 36 (aD s),.box b2 27 (pq p sn cn d)]) (fun q=>s.gs.length - q.1) ⟨0,Nat.zero_le _⟩ (fun X h=>h.bO ⟨rfl,rfl,rfl,rfl,trivial⟩) (fun q ih=>?_);obtain ⟨g,hk⟩:=q;simp only at hk ih ⊢
 by_cases hg:g < s.gs.length
 case neg =>
  have t1:(decide ((g:Int) < (s.gs.length:Int)))=false:=by simpa using hg
  repeat (refine gn ?_)
  exact aC func6
 have t1:(decide ((g:Int) < (s.gs.length:Int)))=true:=by simpa using hg
 have CO:=Dt s (Ob G)
 cases st:((aa s g).status != 0) with
 | true =>
  repeat (first | (refine K.store ?_;refine JO.ld (Ld.bh rfl rfl rfl (by exact rfl) (by exact rfl)) rfl (fun _=>?_)) | (refine K.binOp ?_;refine jq rfl rfl rfl (Qt.zu zw rfl rfl) ?_) | (refine K.call ?_;refine JO.ld (Ld.bw CO (qb rfl) rfl (.cons .refl .nil)) rfl ?_;intro x) | refine ay ?_ | intro _)
  obtain ⟨⟨b9,u⟩,hu⟩:=x;refine J.Ai b9 ?_;refine J.dF 0 ?_;exact (ih ⟨g + 1,by omega⟩ (by simp only;omega)).bO ⟨rfl,rfl,rfl,rfl,trivial⟩
 | false =>
 have jC:(aa s g).status=0:=by simpa using st
 have GS:=aaV G hg jC;have LK:=aa1 s g;have FW:=Bd.fw (AH GS) (by omega);have C0:=fun b u hu=>Pb b u s g (aaU G hg jC) hu
 generalize bz s g=r at C0 FW LK GS;obtain ⟨s2,o2⟩:=r;simp only at C0 FW LK GS;obtain ⟨pb,hpb⟩:∃ pb,((aa s g).place != 11)=pb:=⟨_,rfl⟩
 have EL:((aa s g).place == 11)=!pb:=by rw [← hpb];simp [bne]
 rw [EL] at LK
 repeat (first | (refine K.store ?_;refine JO.ld (Ld.bh rfl rfl rfl (by exact rfl) (by exact rfl)) rfl (fun _=>?_)) | (refine K.binOp ?_;refine jq rfl rfl rfl (Qt.zu zw rfl rfl) ?_) | (refine K.call ?_;refine JO.ld (Ld.bw CO (qb rfl) rfl (.cons .refl .nil)) rfl ?_;intro x) | refine ay ?_ | intro _)
 obtain ⟨⟨b9,u⟩,hu⟩:=x;simp only at hu ⊢;have C1:=C0 b9 u hu
 cases o2 with
 | false =>
  repeat (first | (refine K.call ?_;refine JO.ld (Ld.bw C1 (qb rfl) rfl (.cons .refl (.cons .refl .nil))) rfl ?_;intro y) | refine tu ?_)
  repeat (refine gn ?_)
  refine J.Ai b9 ?_;refine J.dF 0 ?_;exact (ih ⟨g + 1,by omega⟩ (by simp only;omega)).bO ⟨rfl,rfl,rfl,rfl,trivial⟩
 | true =>
 have q1:((s2.gs.length:Int) != (s.gs.length:Int))=false:=by rw [LK.gl];simp
 have q2:((s2.au.length:Int) != (s.au.length:Int))=false:=by rw [LK.cl];simp
 have q4:((s2.done.length:Int) != (s.done.length:Int))=false:=by rw [LK.dn];simp
 repeat (first | (refine K.call ?_;refine JO.ld (Ld.bw C1 (qb rfl) rfl (.cons .refl (.cons .refl .nil))) rfl ?_;intro y) | refine tu ?_)
 repeat (refine gn ?_)
 have CT:=Fy b9 y.1 s2 FW
 repeat (first | (refine K.store ?_;refine JO.ld (Ld.bh rfl rfl rfl (by exact rfl) (by exact rfl)) rfl (fun _=>?_)) | (refine K.call ?_;refine JO.ld (Ld.bw CT (qb rfl) rfl (.cons .refl .nil)) rfl ?_;intro _) | (refine ga ?_;intro _))
 repeat (refine gn ?_)
 rename_i b8 _ _ lN _;refine J.Ai b9 ?_;refine J.loop (ι:={ k:Nat // k≤s2.gs.length }) (fun q=>[(76,.c (nI q.1)),(75,.c (nI s2.gs.length)),(28,.c (nI g)),(27,.c (nI s.gs.length)),(26,.c (.r 25 (s.gs.map eG))),(7,.c (nI g)),(8,.c (.v (pt b8))),(10,.c (.v (pt lN))),(5,.c (.v (pt b5)))]) (fun _=>[.box lN 36 (aD s2),.box b8 47 (eG (aa s g)),.box b5 36 (aD s),.box b2 27 (pq p sn cn d)]) (fun q=>s2.gs.length - q.1) ⟨0,Nat.zero_le _⟩ (fun X h=>h.bO ⟨rfl,rfl,rfl,rfl,rfl,rfl,rfl,rfl,rfl,trivial⟩) (fun q kj=>?_);obtain ⟨h,hh⟩:=q;simp only at hh kj ⊢
 by_cases zQ:h < s2.gs.length
 ·have t3:(decide ((h:Int) < (s2.gs.length:Int)))=true:=by simpa using zQ
  have mP:h < s.gs.length:=by have:=LK.gl;omega
  have E1:=gZ (s:=s) mP
  by_cases hc:h=g
  ·have c1:((h:Int) != (g:Int))=false:=by simp [hc]
   repeat (refine gn ?_)
   refine J.draw (by kernel_rfl) rfl ?_;refine JW.base none ?_;refine tk 0 ?_;refine tk 1 ?_;refine JD.take 2 rfl rfl (by kernel_rfl) rfl (qb rfl) (Qt.cmp rfl rfl (congrArg some c1)) rfl ?_;refine tk 3 ?_
   (refine JD.skip 4 rfl rfl (by kernel_rfl) rfl (qb rfl) ?_)
   (refine JD.skip 5 rfl rfl (by kernel_rfl) rfl (qb rfl) ?_)
   (refine JD.skip 6 rfl rfl (by kernel_rfl) rfl (qb rfl) ?_)
   refine JD.skip 7 rfl rfl (by kernel_rfl) rfl (qb rfl) ?_
   (refine JD.skip 8 rfl rfl (by kernel_rfl) rfl (qb rfl) ?_)
   (refine JD.skip 9 rfl rfl (by kernel_rfl) rfl (qb rfl) ?_)
   (refine JD.skip 10 rfl rfl (by kernel_rfl) rfl (qb rfl) ?_)
   (refine JD.skip 11 rfl rfl (by kernel_rfl) rfl (qb rfl) ?_)
   (refine JD.skip 12 rfl rfl (by kernel_rfl) rfl (qb rfl) ?_)
   refine JD.skip 13 rfl rfl (by kernel_rfl) rfl (qb rfl) ?_
   (refine JD.skip 14 rfl rfl (by kernel_rfl) rfl (qb rfl) ?_)
   (refine JD.skip 15 rfl rfl (by kernel_rfl) rfl (qb rfl) ?_)
   (refine JD.skip 16 rfl rfl (by kernel_rfl) rfl (qb rfl) ?_)
   (refine JD.skip 17 rfl rfl (by kernel_rfl) rfl (qb rfl) ?_)
   (refine JD.skip 18 rfl rfl (by kernel_rfl) rfl (qb rfl) ?_)
   (refine JD.skip 19 rfl rfl (by kernel_rfl) rfl (qb rfl) ?_)
   (refine JD.skip 20 rfl rfl (by kernel_rfl) rfl (qb rfl) ?_)
   refine JD.skip 21 rfl rfl (by kernel_rfl) rfl (qb rfl) ?_
   (refine JD.skip 22 rfl rfl (by kernel_rfl) rfl (qb rfl) ?_)
   (refine JD.skip 23 rfl rfl (by kernel_rfl) rfl (qb rfl) ?_)
   (refine JD.skip 24 rfl rfl (by kernel_rfl) rfl (qb rfl) ?_)
   (refine JD.skip 25 rfl rfl (by kernel_rfl) rfl (qb rfl) ?_)
   (refine JD.skip 26 rfl rfl (by kernel_rfl) rfl (qb rfl) ?_)
   refine JD.skip 27 rfl rfl (by kernel_rfl) rfl (qb rfl) ?_
   (refine JD.skip 28 rfl rfl (by kernel_rfl) rfl (qb rfl) ?_)
   (refine JD.skip 29 rfl rfl (by kernel_rfl) rfl (qb rfl) ?_)
   (refine JD.skip 30 rfl rfl (by kernel_rfl) rfl (qb rfl) ?_)
   (refine JD.skip 31 rfl rfl (by kernel_rfl) rfl (qb rfl) ?_)
   refine tk 32 ?_;refine bX ?_
   repeat (refine gn ?_)
   exact (kj ⟨h + 1,by omega⟩ (by simp only;omega)).bO ⟨rfl,rfl,rfl,rfl,rfl,rfl,rfl,rfl,rfl,trivial⟩
  ·have c1:((h:Int) != (g:Int))=true:=by simp;omega
   obtain ⟨G1,G2⟩:=LK.G h hc;have E2:(s2.gs.map eG)[((h:Int)).toNat]?=some (eG { aa s2 h with place:=(aa s h).place,at_:=(aa s h).at_ }):=by rw [← G1,← G2];exact gZ zQ
   repeat (refine gn ?_)
   refine J.draw (by kernel_rfl) rfl ?_;refine JW.base none ?_;refine tk 0 ?_;refine tk 1 ?_;refine JD.take 2 rfl rfl (by kernel_rfl) rfl (qb rfl) (Qt.cmp rfl rfl (congrArg some c1)) rfl ?_;refine tk 3 ?_;refine tk 4 ?_;refine tk 5 ?_;refine tk 6 ?_
   (refine JD.take 7 rfl rfl (by kernel_rfl) rfl (qb rfl) (Qt.dc rfl rfl (by omega) E2) rfl ?_)
   refine tk 8 ?_;refine tk 9 ?_;refine tk 10 ?_;refine tk 11 ?_;refine tk 12 ?_
   (refine JD.take 13 rfl rfl (by kernel_rfl) rfl (qb rfl) (Qt.dc rfl rfl (by omega) E1) rfl ?_)
   refine tk 14 ?_;refine tk 15 ?_
   (refine JD.take 16 rfl rfl (by kernel_rfl) rfl (qb rfl) (Qt.wX rfl rfl) rfl ?_)
   refine tk 17 ?_;refine tk 18 ?_;refine tk 19 ?_;refine tk 20 ?_
   (refine JD.take 21 rfl rfl (by kernel_rfl) rfl (qb rfl) (Qt.dc rfl rfl (by omega) E2) rfl ?_)
   refine tk 22 ?_;refine tk 23 ?_;refine tk 24 ?_;refine tk 25 ?_;refine tk 26 ?_
   (refine JD.take 27 rfl rfl (by kernel_rfl) rfl (qb rfl) (Qt.dc rfl rfl (by omega) E1) rfl ?_)
   refine tk 28 ?_;refine tk 29 ?_
   (refine JD.take 30 rfl rfl (by kernel_rfl) rfl (qb rfl) (Qt.wX rfl rfl) rfl ?_)
   refine tk 31 ?_;refine tk 32 ?_;refine bX ?_
   repeat (refine gn ?_)
   exact (kj ⟨h + 1,by omega⟩ (by simp only;omega)).bO ⟨rfl,rfl,rfl,rfl,rfl,rfl,rfl,rfl,rfl,trivial⟩
 ·have t3:(decide ((h:Int) < (s2.gs.length:Int)))=false:=by simpa using zQ
  repeat (refine gn ?_)
  refine J.loop (ι:={ k:Nat // k≤s2.au.length }) (fun q=>[(116,.c (nI q.1)),(115,.c (nI s2.au.length)),(28,.c (nI g)),(27,.c (nI s.gs.length)),(26,.c (.r 25 (s.gs.map eG))),(8,.c (.v (pt b8))),(10,.c (.v (pt lN))),(5,.c (.v (pt b5)))]) (fun _=>[.box lN 36 (aD s2),.box b8 47 (eG (aa s g)),.box b5 36 (aD s),.box b2 27 (pq p sn cn d)]) (fun q=>s2.au.length - q.1) ⟨0,Nat.zero_le _⟩ (fun X h=>h.bO ⟨rfl,rfl,rfl,rfl,rfl,rfl,rfl,rfl,trivial⟩) (fun q uu=>?_);obtain ⟨k,hkc⟩:=q;simp only at hkc uu ⊢
  by_cases bZ:k < s2.au.length
  ·have t4:(decide ((k:Int) < (s2.au.length:Int)))=true:=by simpa using bZ
   have bu:k < s.au.length:=by have:=LK.cl;omega
   have A1:=Pk (s:=s) bu;have A2:=Pk (s:=s2) bZ;have CE:=LK.C ((k:Int) + 1);generalize Sx.cn s ((k:Int) + 1)=ka at A1 CE;generalize Sx.cn s2 ((k:Int) + 1)=kb at A2 CE;obtain ⟨a1,a2,a3,a4,a5,a6⟩:=ka;obtain ⟨e1,e2,e3,e4,e5,e6⟩:=kb;obtain ⟨y1,y2,y3,y4⟩:=CE;simp only at y1 y2 y3 y4;subst y1;have x1:=Ic y2;have x4:=Ic y4
   repeat (refine gn ?_)
   refine J.draw (by kernel_rfl) rfl ?_;refine JW.base none ?_;refine tk 0 ?_;refine tk 1 ?_;refine tk 2 ?_;refine JD.take 3 rfl rfl (by kernel_rfl) rfl (qb rfl) (Qt.dc rfl rfl (by omega) A2) rfl ?_;refine tk 4 ?_;refine tk 5 ?_;refine tk 6 ?_;refine tk 7 ?_;refine JD.take 8 rfl rfl (by kernel_rfl) rfl (qb rfl) (Qt.dc rfl rfl (by omega) A1) rfl ?_;refine tk 9 ?_;refine JD.dA (i:=10) (j:=11) (by kernel_rfl) ?_ ?_;refine JS.cK rfl rfl rfl (qb rfl) (Ld.alloc (qb rfl)) .none (fun _=>?_);refine jl 11 rfl rfl rfl rfl (Ld.alloc (qb rfl)) .none (fun _=>?_);refine JD.gD (i:=12) (by kernel_rfl) ?_
   (refine JS.st rfl rfl rfl (Ld.bh rfl rfl rfl (by exact rfl) (by exact rfl)) (by (exact .box (by repeat (first | exact .refl | refine .cons ?_)))) (fun _=>?_))
   refine JD.gD (i:=13) (by kernel_rfl) ?_
   (refine JS.st rfl rfl rfl (Ld.bh rfl rfl rfl (by exact rfl) (by exact rfl)) (by (exact .box (by repeat (first | exact .refl | refine .cons ?_)))) (fun _=>?_))
   refine bX ?_
   rotate_left
   refine JS.cK rfl rfl rfl (qb rfl) (Ld.alloc (qb rfl)) .none (fun _=>?_);refine jl 10 rfl rfl rfl rfl (Ld.alloc (qb rfl)) .none (fun _=>?_);refine JD.gD (i:=12) (by kernel_rfl) ?_
   (refine JS.st rfl rfl rfl (Ld.bh rfl rfl rfl (by exact rfl) (by exact rfl)) (by (exact .box (by repeat (first | exact .refl | refine .cons ?_)))) (fun _=>?_))
   refine JD.gD (i:=13) (by kernel_rfl) ?_
   (refine JS.st rfl rfl rfl (Ld.bh rfl rfl rfl (by exact rfl) (by exact rfl)) (by (exact .box (by repeat (first | exact .refl | refine .cons ?_)))) (fun _=>?_))
   refine bX ?_
   rotate_left
   all_goals
    cases pb with
    | true =>
     have x3:=Ic (y3 rfl)
     repeat (first | (refine K.binOp ?_;refine jq rfl rfl rfl (Qt.OY rfl rfl) ?_) | refine gn ?_)
     refine J.dF 0 ?_;refine J.dF 0 ?_;exact (uu ⟨k + 1,by omega⟩ (by simp only;omega)).bO ⟨rfl,rfl,rfl,rfl,rfl,rfl,rfl,rfl,trivial⟩
    | false =>
     repeat (first | (refine K.binOp ?_;refine jq rfl rfl rfl (Qt.OY rfl rfl) ?_) | refine gn ?_)
     refine J.dF 0 ?_;refine J.dF 0 ?_;exact (uu ⟨k + 1,by omega⟩ (by simp only;omega)).bO ⟨rfl,rfl,rfl,rfl,rfl,rfl,rfl,rfl,trivial⟩
  ·have t4:(decide ((k:Int) < (s2.au.length:Int)))=false:=by simpa using bZ
   repeat (refine gn ?_)
   refine J.dF 0 ?_;refine J.dF 0 ?_;exact (ih ⟨g + 1,by omega⟩ (by simp only;omega)).bO ⟨rfl,rfl,rfl,rfl,trivial⟩
theorem aa5 (w:World) (cs:Array Value) (a:wZ) (U:List Nat) (sz:cs.size=4) (he:vr w cs.toList a U) (oc:∀ y∈cs.toList,y.oneCell'=true) (v:Value) (l:List Int) (S:List Nat) (hl:GV (mC .i64) 1 w v l S) :
  Calls prog 6 #[.agg cs,v] w fun e w'=>e=.returned (.bool true)∧aq [] w w' :=
 Oh (aa2 a.p a.sn a.cn a.d l (Of he)) he hl
end Fl
end Go.Proofs.YtdjhhbpedllnhaaGreat
