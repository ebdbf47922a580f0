/-
  What the laws need, part CL2.
  Conditions: none.
-/
import Derived.Test.YtdjhhbpedllnhaaGreatB33
import Derived.Test.YtdjhhbpedllnhaaGreatCL1
set_option linter.unusedVariables false
set_option linter.unusedSimpArgs false
set_option linter.unnecessarySimpa false
set_option maxHeartbeats 2000000
namespace Go.Proofs.YtdjhhbpedllnhaaGreat
namespace Sx
section
variable {s t u:ah} {g:Nat}
theorem Gk {c d:Int} {x:Cn}:cn (aE s c x) d=if (c - 1).toNat=(d - 1).toNat∧(c - 1).toNat < s.av.length then x else cn s d:=by
 unfold cn Sx.aE;rw [List.getD_eq_getElem?_getD,List.getD_eq_getElem?_getD,List.getElem?_set]
 by_cases e:(c - 1).toNat=(d - 1).toNat
 ·rw [if_pos e]
  by_cases l:(c - 1).toNat < s.av.length
  ·rw [if_pos l,if_pos ⟨e,l⟩];rfl
  ·rw [if_neg l,if_neg (fun q=>l q.2),← e,List.getElem?_eq_none (by omega)]
 ·rw [if_neg e,if_neg (fun q=>e q.1)]
structure Lq (s t:ah):Prop where
 cl:t.av.length=s.av.length
 lk:∀ c,(cn t c).lock=(cn s c).lock
theorem Lq.Lc:Lq s s:=⟨rfl,fun _=>rfl⟩
theorem Lq.of (a:Lq s t) (e:u.av=t.av):Lq s u:=⟨by rw [e];exact a.cl,fun c=>by rw [yV e];exact a.lk c⟩
theorem Lq.dS (a:Lq s t) {c:Int} {x:Cn} (h:x.lock=(cn t c).lock):Lq s (Sx.aE t c x) :=
 ⟨by rw [← a.cl];simp [Sx.aE],fun d=>by
  rw [Gk]
  split
  ·rename_i z;have:cn t c=cn t d:=by unfold cn;rw [z.1]
   rw [h,this];exact a.lk d
  ·exact a.lk d⟩
theorem Lq.drop (a:Lq s t) {i:Int}:Lq s (Sx.aZ t i):=by
 unfold Sx.aZ;split
 ·exact a.dS rfl
 ·exact a
theorem Lq.hand (a:Lq s t) {c i:Int}:Lq s (Sx.hand t c i).1:=by
 unfold Sx.hand;dsimp only;split
 ·exact a
 ·exact a.dS rfl
theorem Lq.cz (a:Lq s t) {k:Nat} {x:Int}:Lq s (Sx.cz t k x):=by
 unfold Sx.cz Sx.dO;split
 ·exact a.of rfl
 ·exact a.of rfl
theorem Lq.bn (a:Lq s t) {k:Nat}:Lq s (Sx.bn t k).1:=by
 unfold Sx.bn;split
 ·split
  ·exact a.of rfl
  ·exact a
 ·exact a.of rfl
theorem Lq.dR (a:Lq s t) {k:Nat} {x:Gr}:Lq s (Sx.ai t k x):=⟨a.cl,a.lk⟩
theorem Lq.gI (a:Lq s t) {i:Int} {x:Su}:Lq s (Sx.aV t i x):=⟨a.cl,a.lk⟩
theorem Lq.serve (a:Lq s t) {i:Int} {d:Bool}:Lq s (Sx.serve t g i d):=Lq.dR (Lq.gI a.dR)
theorem Lq.unlock (a:Lq s t) {p:Int}:Lq s (Sx.unlock t g p):=a.dR
theorem Lq.cZ (a:Lq s t) {r:Md.aj} {i:Int}:Lq s (Sx.cZ t g r i):=Lq.unlock (Lq.dR a.dR)
theorem Lq.aS (a:Lq s t) {p:Int}:Lq s (Sx.aS t g p):=a.of rfl
theorem Lq.au (a:Lq s t):Lq s (Sx.au t g):=by unfold Sx.au;split <;> exact a.of rfl
theorem Lq.next (a:Lq s t) {p:Int}:Lq s (Sx.next t g p):=by unfold Sx.next;dsimp only;split <;> exact a.of rfl
theorem Lq.dG (a:Lq s t):Lq s (Sx.dG t g):=by unfold Sx.dG;dsimp only;split <;> exact a.of rfl
theorem Lq.ite {p:Prop} [Decidable p] {β:Type} {x y:ah × β} (h1:p→Lq s x.1) (h2:¬ p→Lq s y.1):Lq s (if p then x else y).1:=by
 split
 ·exact h1 ‹_›
 ·exact h2 ‹_›
theorem Lq.taken (a:Lq s t) {i wn hn:Int}:Lq s (Sx.taken t g i wn hn):=by
 unfold Sx.taken
 split
 ·exact a.of rfl
 ·exact Lq.aS (Lq.dR (Lq.dR (Lq.drop a.dR)))
theorem Lq.cT (a:Lq s t) {bk on:Int}:Lq s (Sx.cT t g bk on):=by
 unfold Sx.cT;dsimp only
 split
 ·exact (a.drop).dR
 ·exact Lq.aS (Lq.dR (Lq.dR (Lq.dR a.dR)))
theorem Lq.fq (a:Lq s t) {o:Pn.Op}:Lq s (Sx.fq t g o):=by
 unfold Sx.fq;dsimp only;generalize aH o (ax (aa t g).order (aa t g).k)=k;generalize ax (aa t g).order (aa t g).k=i;have hs:Lq s (fX t g i k).1:=by
  unfold fX;dsimp only;exact .ite (fun _=>by dsimp only;exact a.cZ) fun _=>.ite (fun _=>by dsimp only;exact a.taken.dG) fun _=>.ite (fun _=>by dsimp only;exact Lq.cZ (Lq.dS a (by rfl))) fun _=>a
 have hr:Lq s (gE t g i k).1:=by
  unfold gE;dsimp only;exact .ite (fun _=>by dsimp only;exact a.taken.dG) fun _=>.ite (fun _=>by dsimp only;exact Lq.cZ (Lq.dS a (by rfl))) fun _=>.ite (fun _=>by dsimp only;exact a.cZ) fun _=>a
 have hq:Lq s (if k.send=true then fX t g i k else gE t g i k).1:=by split <;> assumption
 generalize (if k.send=true then fX t g i k else gE t g i k)=r at hq ⊢
 split
 ·exact hq
 ·split
  ·exact a.next
  ·split
   ·exact a.cZ
   ·exact Lq.next a.dR
theorem Lq.gG (a:Lq s t) {o:Pn.Op}:Lq s (Sx.gG t g o):=by
 unfold Sx.gG;dsimp only;refine Lq.unlock (Lq.dR (Lq.serve ?_))
 split
 ·exact a.drop.gI
 ·exact a.drop.hand
theorem Lq.aA (a:Lq s t) {o:Pn.Op}:Lq s (Sx.aA t g o):=by
 unfold Sx.aA;dsimp only
 split
 ·exact Lq.next (Lq.dR a.bn.gI)
 ·exact Lq.unlock a.bn.dR
theorem Lq.iT (a:Lq s t) {o:Pn.Op}:Lq s (Sx.iT t g o):=by
 unfold Sx.iT;dsimp only;have h:Lq s (Sx.aE t (aH o (ax (aa t g).order (aa t g).k)).ch (if (aH o (ax (aa t g).order (aa t g).k)).send=true then { cn t (aH o (ax (aa t g).order (aa t g).k)).ch with send:=(cn t (aH o (ax (aa t g).order (aa t g).k)).ch).send ++ [ax (aa t g).aq (ax (aa t g).order (aa t g).k)] } else { cn t (aH o (ax (aa t g).order (aa t g).k)).ch with recv:=(cn t (aH o (ax (aa t g).order (aa t g).k)).ch).recv ++ [ax (aa t g).aq (ax (aa t g).order (aa t g).k)] })):=a.dS (by split <;> rfl)
 split
 ·exact h.next
 ·exact Lq.unlock h.dR
theorem Lq.iU (a:Lq s t):Lq s (Sx.iU t g):=by
 unfold Sx.iU;dsimp only
 split
 ·exact (a.drop).next
 ·exact (a.drop).unlock
theorem Lq.iz (a:Lq s t):Lq s (Sx.iz t g):=by
 have h:Lq s (if 0≤ax (aa t g).aq (ax (aa t g).order (aa t g).k) then Sx.cz t g (ax (aa t g).aq (ax (aa t g).order (aa t g).k)) else t):=by
  split
  ·exact a.cz
  ·exact a
 unfold Sx.iz;dsimp only
 split
 ·exact Lq.au (Lq.next h.dR)
 ·exact Lq.next h.dR
theorem W4 (n:(aa s g).place≠24∧(aa s g).place≠31∧(aa s g).place≠30∧(aa s g).place≠33):Lq s (aR s g).1:=by
 have a:Lq s s:=.Lc;obtain ⟨n1,n2,n3,n4⟩:=n;unfold Sx.aR;dsimp only;refine .ite (fun _=>a) fun _=>.ite (fun e=>absurd e n1) fun _=>.ite (fun _=>a.fq) fun _=>.ite (fun _=>a.cT.dG) fun _=>.ite (fun _=>a.gG) fun _=>.ite (fun _=>a.aA) fun _=>.ite (fun _=>a.iT) fun _=>.ite (fun e=>absurd e n3) fun _=>.ite (fun _=>a.of rfl) fun _=>.ite (fun e=>absurd e n2) fun _=>.ite (fun _=>a.iU) fun _=>.ite (fun e=>absurd e n4) fun _=>.ite (fun _=>a.iz) fun _=>.ite (fun e=>?_) fun _=>a
 unfold Sx.common;dsimp only;rw [az,az];exact .ite (fun _=>a.of rfl) fun _=>.ite (fun z=>by omega) fun _=>.ite (fun z=>by omega) fun _=>.ite (fun _=>Lq.au (a.of rfl)) fun _=>a
theorem W5 (h:Good s) (hg:g < s.gs.length):(aR s g).1.av.length=s.av.length∧∀ c:Int,1≤c→c≤s.av.length →
  (cn (aR s g).1 c).lock=(cn s c).lock∨(cn s c).lock=-1∧(cn (aR s g).1 c).lock=g∧((aa s g).place=24→∀ d,c < d→d≤s.av.length→(cn s d).lock≠g)∨(cn s c).lock=g∧(cn (aR s g).1 c).lock=-1:=by
 by_cases k:(ag s g).kind=9
 case neg =>
  have e:(aR s g).1=s:=by unfold Sx.aR;dsimp only;rw [if_pos k]
  rw [e];exact ⟨rfl,fun c _ _=>.inl rfl⟩
 by_cases n:(aa s g).place≠24∧(aa s g).place≠31∧(aa s g).place≠30∧(aa s g).place≠33
 ·have a:=W4 n;exact ⟨a.cl,fun c _ _=>.inl (a.lk c)⟩
 have h':=h.toMInv;have b:=h'.iF hg k (by unfold c9;omega);have hz:SE (aa s g):=k;have K:∀ c:Int,1≤c→c≤s.av.length→(c∈(aa s g).aB.take (aa s g).k.toNat↔(cn s c).lock=g):=fun c c0 c1=>by
  have:=(Inv.iW h'.v (g:Int) (by omega) (by omega) c c0 c1)
  rw [fE,rQ hz] at this;rw [← this]
  constructor
  ·intro m;exact .inr ⟨by omega,m⟩
  ·rintro (⟨q,_⟩ | ⟨_,m⟩)
   ·omega
   ·exact m
 by_cases e:(aa s g).place=24∨(aa s g).place=31
 ·have k1:=b.k1 e;have k0:=b.k0;have cl:=b.l1 _ (oI k0 k1);have e1:(aR s g).1=lock s g (if (aa s g).place=24 then 25 else 32):=by
   unfold Sx.aR;dsimp only;rw [az];rcases e with e | e
   ·rw [if_pos e,if_pos e]
   ·rw [az,az,az,az,az,az,az,az,if_pos e,az]
  rw [e1];generalize oN:ax (aa s g).aB (aa s g).k=c0 at cl
  by_cases l:(cn s c0).lock=-1
  ·have ec:(lock s g (if (aa s g).place=24 then 25 else 32)).av=(Sx.aE s c0 { cn s c0 with lock:=g }).av:=by
    unfold lock tryLock;simp only [oN,l,if_true]
    split <;> rfl
   refine ⟨by rw [ec];simp [Sx.aE],fun c a1 a2=>?_⟩;rw [yV ec,Gk]
   split
   ·rename_i z;have ee:c=c0:=by omega
    subst ee;refine .inr (.inl ⟨l,rfl,fun YK d cd dl q=>?_⟩);have m:=(K d (by omega) dl).2 q;have pw:=b.l2;rw [← List.take_append_drop (aa s g).k.toNat (aa s g).aB,List.pairwise_append] at pw;have:=pw.2.2 d m c (by rw [uz k0 k1,oN];exact List.mem_cons_self ..);omega
   ·exact .inl rfl
  ·have ec:lock s g (if (aa s g).place=24 then 25 else 32)=s:=by
    unfold lock tryLock;simp only [oN,l,if_false];rfl
   rw [ec];exact ⟨rfl,fun c _ _=>.inl rfl⟩
 ·have e3:(aa s g).place=30∨(aa s g).place=33:=by omega
  have k3:=b.k3 e3;have k0:0≤(aa s g).k - 1:=by omega
  have k1:(aa s g).k - 1 < (aa s g).aB.length:=by omega
  have cl:=b.l1 _ (oI k0 k1);have ec:(aR s g).1.av=(ck s g).1.av:=by
   unfold Sx.aR;dsimp only;rw [az,az,az,az,az,az,az]
   split
   ·split
    ·rfl
    ·split
     ·rfl
     ·split
      ·rfl
      ·unfold Sx.au;split <;> rfl
   ·rw [az,az,az,if_pos (by omega)]
    split <;> rfl
  have ef:(ck s g).1.av=(Sx.aE s (ax (aa s g).aB ((aa s g).k - 1)) { cn s (ax (aa s g).aB ((aa s g).k - 1)) with lock:=-1 }).av:=rfl;have tk:=sS k0 k1;generalize oN:ax (aa s g).aB ((aa s g).k - 1)=c0 at cl ef tk;rw [ef] at ec;refine ⟨by rw [ec];simp [Sx.aE],fun c a1 a2=>?_⟩;rw [yV ec,Gk]
  split
  ·rename_i z;have ee:c=c0:=by omega
   subst ee;refine .inr (.inr ⟨(K c a1 a2).1 ?_,rfl⟩);rw [show (aa s g).k=(aa s g).k - 1 + 1 by omega,tk];simp
  ·exact .inl rfl
end
end Sx
open Go.RowKit
namespace Fl
open Sx Go.Proofs.Tryz
set_option maxRecDepth 100000
theorem Gl {s:ah} {k:Nat} (hk:k < s.av.length):(s.av.map eC)[((k:Int)).toNat]?=some (eC (Sx.cn s ((k:Int) + 1))):=by
 rw [Int.toNat_natCast,List.getElem?_map,mY hk];rfl
theorem W6 (p:List (List Pn.Op)) (sn cn:Int) (d l:List Int) (hd:∀ x∈d,0≤x∧x < 65536) :
  Pure prog 8 [.agg (ng p sn cn d),.c (ints l)] (.c (bI true)):=by
 have CR:=FL p sn cn d l hd;have HG:=FK (p:=p) (sn:=sn) (cn:=cn) (l:=l) hd;generalize j6 p sn cn d l=r at CR HG;obtain ⟨s,o⟩:=r;refine an.intro func8 rfl rfl rfl (fun ok e=>?_)
 cases o with
 | false =>
  repeat (first | (refine K.store ?_;refine JO.ld (Ld.bq rfl rfl rfl (by exact rfl) (by exact rfl)) rfl (fun _=>?_)) | refine kN (wR) ?_ | refine ay ?_ | intro _)
  exact aD func8
 | true =>
 have G:Sx.Good s:=HG rfl;have g8:=G.n8;have c8:=G.c8;clear HG
 repeat (first | (refine K.store ?_;refine JO.ld (Ld.bq rfl rfl rfl (by exact rfl) (by exact rfl)) rfl (fun _=>?_)) | refine kN (wR) ?_ | refine ay ?_ | intro _)
 rename_i b2 b5 _;refine J.loop (ι:={ k:Nat // k≤s.gs.length }) (fun q=>[(28,.c (nI q.1)),(27,.c (nI s.gs.length)),(26,.c (.r 25 (s.gs.map eG))),(5,.c (.v (pt b5)))]) (fun _=>[.box b5 36 (aC s),.box b2 27 (ng p sn cn d)]) (fun q=>s.gs.length - q.1) ⟨0,Nat.zero_le _⟩ (fun X h=>h.aW ⟨rfl,rfl,rfl,rfl,trivial⟩) (fun q ih=>?_);obtain ⟨g,hk⟩:=q;simp only at hk ih ⊢
 by_cases hg:g < s.gs.length
 case neg =>
  have t1:(decide ((g:Int) < (s.gs.length:Int)))=false:=by simpa using hg
  repeat (refine gn ?_)
  exact aD func8
 have t1:(decide ((g:Int) < (s.gs.length:Int)))=true:=by simpa using hg
 have CO:=Cf s (FJ G)
 cases st:((aa s g).status != 0) with
 | true =>
  repeat (first | (refine K.store ?_;refine JO.ld (Ld.bq rfl rfl rfl (by exact rfl) (by exact rfl)) rfl (fun _=>?_)) | (refine K.binOp ?_;refine jq rfl rfl rfl (Qt.yI yJ rfl rfl) ?_) | (refine K.call ?_;refine JO.ld (Ld.aY CO (qb rfl) rfl (.cons .refl .nil)) rfl ?_;intro x) | refine ay ?_ | intro _)
  obtain ⟨⟨b9,u⟩,hu⟩:=x;refine J.uI b9 ?_;refine J.cS 0 ?_;exact (ih ⟨g + 1,by omega⟩ (by simp only;omega)).aW ⟨rfl,rfl,rfl,rfl,trivial⟩
 | false =>
 have kG:(aa s g).status=0:=by simpa using st
 have GS:=Gj G hg kG;have LK:=W5 G hg;have FW:=Bd.fw (zI GS) (by omega);have C0:=fun b u hu=>Cr b u s g (Gh G hg kG) hu
 generalize aR s g=r at C0 FW LK GS;obtain ⟨s2,o2⟩:=r;simp only at C0 FW LK GS;obtain ⟨LC,LK⟩:=LK
 repeat (first | (refine K.store ?_;refine JO.ld (Ld.bq rfl rfl rfl (by exact rfl) (by exact rfl)) rfl (fun _=>?_)) | (refine K.binOp ?_;refine jq rfl rfl rfl (Qt.yI yJ rfl rfl) ?_) | (refine K.call ?_;refine JO.ld (Ld.aY CO (qb rfl) rfl (.cons .refl .nil)) rfl ?_;intro x) | refine ay ?_ | intro _)
 obtain ⟨⟨b9,u⟩,hu⟩:=x;simp only at hu ⊢;have C1:=C0 b9 u hu
 cases o2 with
 | false =>
  repeat (first | (refine K.call ?_;refine JO.ld (Ld.aY C1 (qb rfl) rfl (.cons .refl (.cons .refl .nil))) rfl ?_;intro y) | refine oJ ?_)
  repeat (refine gn ?_)
  refine J.uI b9 ?_;refine J.cS 0 ?_;exact (ih ⟨g + 1,by omega⟩ (by simp only;omega)).aW ⟨rfl,rfl,rfl,rfl,trivial⟩
 | true =>
 have q2:((s2.av.length:Int) != (s.av.length:Int))=false:=by rw [LC];simp
 repeat (first | (refine K.call ?_;refine JO.ld (Ld.aY C1 (qb rfl) rfl (.cons .refl (.cons .refl .nil))) rfl ?_;intro y) | refine oJ ?_)
 repeat (refine gn ?_)
 have CT:=AQ b9 y.1 s2 FW
 repeat (first | (refine K.store ?_;refine JO.ld (Ld.bq rfl rfl rfl (by exact rfl) (by exact rfl)) rfl (fun _=>?_)) | (refine K.call ?_;refine JO.ld (Ld.aY CT (qb rfl) rfl (.cons .refl .nil)) rfl ?_;intro _) | (refine ga ?_;intro _))
 repeat (refine gn ?_)
 rename_i b8 _ _ mu _;refine J.uI b9 ?_;obtain ⟨pp,W7⟩:∃ x,((aa s g).place == 24)=x:=⟨_,rfl⟩
 refine J.loop (ι:={ k:Nat // k≤s.av.length }) (fun q=>[(58,.c (nI q.1)),(57,.c (nI s.av.length)),(56,.c (.r 6 (s.av.map eC))),(28,.c (nI g)),(27,.c (nI s.gs.length)),(26,.c (.r 25 (s.gs.map eG))),(7,.c (nI g)),(8,.c (.v (pt b8))),(10,.c (.v (pt mu))),(5,.c (.v (pt b5)))]) (fun _=>[.box mu 36 (aC s2),.box b8 47 (eG (aa s g)),.box b5 36 (aC s),.box b2 27 (ng p sn cn d)]) (fun q=>s.av.length - q.1) ⟨0,Nat.zero_le _⟩ (fun X h=>h.aW ⟨rfl,rfl,rfl,rfl,rfl,rfl,rfl,rfl,rfl,rfl,trivial⟩) (fun q lE=>?_);obtain ⟨k,W8⟩:=q;simp only at W8 lE ⊢
 by_cases bF:k < s.av.length
 case neg =>
  have t4:(decide ((k:Int) < (s.av.length:Int)))=false:=by simpa using bF
  repeat (refine gn ?_)
  refine J.cS 0 ?_;refine J.cS 0 ?_;exact (ih ⟨g + 1,by omega⟩ (by simp only;omega)).aW ⟨rfl,rfl,rfl,rfl,trivial⟩
 have t4:(decide ((k:Int) < (s.av.length:Int)))=true:=by simpa using bF
 have wT:=lE ⟨k + 1,by omega⟩ (by simp only;omega);simp only at wT;have A1:=Gl (s:=s) bF;have A2:=Gl (s:=s2) (k:=k) (by omega);have CE:=LK ((k:Int) + 1) (by omega) (by omega);generalize Sx.cn s ((k:Int) + 1)=ka at A1 CE;generalize Sx.cn s2 ((k:Int) + 1)=kb at A2 CE;obtain ⟨a1,a2,a3,a4,a5,a6⟩:=ka;obtain ⟨e1,e2,e3,e4,e5,e6⟩:=kb;simp only at CE;obtain ⟨x1,h1⟩:∃ x,(a4 != (g:Int))=x:=⟨_,rfl⟩
 repeat (first | (refine K.store ?_;refine JO.ld (Ld.bq rfl rfl rfl (by exact rfl) (by exact rfl)) rfl (fun _=>?_)) | refine ay ?_ | intro _)
 rcases CE with ee | ⟨ea,ee,ed⟩ | ⟨ea,ee⟩
 ·subst ee;have x3:(e4 != e4)=false:=by simp
  cases x1 with
  | false =>
   have x4:(e4 == (g:Int))=true:=by simpa [bne] using h1
   cases pp
   all_goals
    repeat (refine gn ?_)
    refine J.cS 0 ?_;refine J.cS 0 ?_;exact wT.aW ⟨rfl,rfl,rfl,rfl,rfl,rfl,rfl,rfl,rfl,rfl,trivial⟩
  | true =>
   have x4:(e4 == (g:Int))=false:=by simpa [bne] using h1
   cases x2:(e4 != -1)
   all_goals
    cases pp
    all_goals
     repeat (refine gn ?_)
     refine J.cS 0 ?_;refine J.cS 0 ?_;exact wT.aW ⟨rfl,rfl,rfl,rfl,rfl,rfl,rfl,rfl,rfl,rfl,trivial⟩
 ·obtain rfl:x1=true:=by rw [← h1,ea];exact bne_iff_ne.2 (by omega)
  subst ea ee;have x2:((-1:Int) != -1)=false:=rfl;have x3:((g:Int) != (-1:Int))=true:=bne_iff_ne.2 (by omega);have x4:((g:Int) != (g:Int))=false:=by simp
  have x5:((g:Int) == (g:Int))=true:=by simp
  cases pp with
  | false =>
   repeat (refine gn ?_)
   refine J.cS 0 ?_;refine J.cS 0 ?_;exact wT.aW ⟨rfl,rfl,rfl,rfl,rfl,rfl,rfl,rfl,rfl,rfl,trivial⟩
  | true =>
   repeat (refine gn ?_)
   refine J.cS 0 ?_;refine J.cS 0 ?_;have ed:=ed (by simpa using W7);refine J.loop (ι:={ j:Nat // k + 1≤j∧j≤s.av.length }) (fun q=>[(14,.c (nI q.1)),(58,.c (nI k)),(57,.c (nI s.av.length)),(56,.c (.r 6 (s.av.map eC))),(28,.c (nI g)),(27,.c (nI s.gs.length)),(26,.c (.r 25 (s.gs.map eG))),(7,.c (nI g)),(8,.c (.v (pt b8))),(10,.c (.v (pt mu))),(5,.c (.v (pt b5)))]) (fun _=>[.box mu 36 (aC s2),.box b8 47 (eG (aa s g)),.box b5 36 (aC s),.box b2 27 (ng p sn cn d)]) (fun q=>s.av.length - q.1) ⟨k + 1,by omega,by omega⟩ (fun X h=>h.aW ⟨rfl,rfl,rfl,rfl,rfl,rfl,rfl,rfl,rfl,rfl,rfl,trivial⟩) (fun q Mj=>?_);obtain ⟨j,YL,hj⟩:=q;simp only at hj Mj ⊢
   by_cases ff:j < s.av.length
   ·have t5:(decide ((j:Int) < (s.av.length:Int)))=true:=by simpa using ff
    have A3:=Gl (s:=s) ff;have x6:=ed ((j:Int) + 1) (by omega) (by omega);generalize Sx.cn s ((j:Int) + 1)=kc at A3 x6;have x7:(kc.lock == (g:Int))=false:=by simpa using x6
    repeat (refine gn ?_)
    exact (Mj ⟨j + 1,by omega,by omega⟩ (by simp only;omega)).aW ⟨rfl,rfl,rfl,rfl,rfl,rfl,rfl,rfl,rfl,rfl,rfl,trivial⟩
   ·have t5:(decide ((j:Int) < (s.av.length:Int)))=false:=by simpa using ff
    repeat (refine gn ?_)
    exact wT.aW ⟨rfl,rfl,rfl,rfl,rfl,rfl,rfl,rfl,rfl,rfl,trivial⟩
 ·obtain rfl:x1=false:=by rw [← h1,ea];simp
  subst ea ee;have x3:((-1:Int) != (g:Int))=true:=bne_iff_ne.2 (by omega);have x5:((-1:Int) != -1)=false:=rfl;have x6:((-1:Int) == (g:Int))=false:=beq_eq_false_iff_ne.2 (by omega)
  cases pp
  all_goals
   repeat (refine gn ?_)
   refine J.cS 0 ?_;refine J.cS 0 ?_;exact wT.aW ⟨rfl,rfl,rfl,rfl,rfl,rfl,rfl,rfl,rfl,rfl,trivial⟩
theorem W9 (w:World) (cs:Array Value) (a:uq) (U:List Nat) (sz:cs.size=4) (he:sG w cs.toList a U) (oc:∀ y∈cs.toList,y.oneCell'=true) (v:Value) (l:List Int) (S:List Nat) (hl:GV (kY .i64) 1 w v l S) :
  Calls prog 8 #[.agg cs,v] w fun e w'=>e=.returned (.bool true)∧aP [] w w' :=
 FP (W6 a.p a.sn a.cn a.d l (FM he)) he hl
end Fl
end Go.Proofs.YtdjhhbpedllnhaaGreat
