/-
  What the laws need, part B21.
  Conditions: none.
-/
import Derived.Test.YtgjpdogjekmemaaGreatB14
import Derived.Test.YtgjpdogjekmemaaGreatB20
set_option linter.unusedVariables false
set_option linter.unusedSimpArgs false
set_option linter.unnecessarySimpa false
set_option maxHeartbeats 2000000
namespace Go.Proofs.YtgjpdogjekmemaaGreat
open Go.RowKit
namespace Fl
open Sx Go.Proofs.Tryz
set_option maxRecDepth 100000
class Ns (s' s:ai):Prop where h:s'.eV=s.eV∧s'.cG=s.cG∧s'.cache=s.cache∧s'.middle=s.middle∧s'.fresh=s.fresh
section
variable {s s':ai} {g:Nat} {f:Gr→Gr} {x:Gr} {i:Int} {d:Su} {c:Int} {n:Cn}
end
section
variable {u:U} {s:ai}
abbrev Nt (u:U) (s:ai) (g:Nat) (y:Int) (T:List Nat):U:={ u with H:=(Po.cL s.cG.toNat (Bt u s) g y).1.H,TP:=T }
end
structure Nu (s:ai) (g:Nat):Prop where
 lt:g < s.gs.length
 cJ:0≤(aa s g).at_
 oc:(ag s g).cases.length≤1000
 ch:0≤(ag s g).ch∧(ag s g).ch≤1000
 c8:s.aK.length≤8
 fr:0≤s.fresh
 l4:(aa s g).place=4→aR s (ag s g).ch=true
 AR:(aa s g).place=12∨(aa s g).place=16→aR s (ag s g).ch=true∧(cn s (ag s g).ch).lock=g
 AS:(aa s g).place=15→g < s.cache.length∧0≤(aa s g).bt∧(aa s g).bt < s.aL.length
 AT:(aa s g).place=17→∃ (a:Nat) (l:List Int),(aa s g).an=(a:Int) :: l∧a < s.gs.length∧a≠g∧l.length≤1000
end Fl
open Go.RowKit
namespace Fl
open Sx Go.Proofs.Tryz
set_option maxRecDepth 100000
structure Nv (s:ai):Prop extends Fw s where
 qs:Qs s
 st:∀ g:Nat,g < s.gs.length→0≤(aa s g).status∧(aa s g).status≤2
 lk:∀ k:Nat,k < s.aK.length→(cn s ((k:Int) + 1)).lock=-1∨0≤(cn s ((k:Int) + 1)).lock
 Nw:∀ k:Nat,k < s.aK.length→0≤(cn s ((k:Int) + 1)).cap∧(cn s ((k:Int) + 1)).cap≤64∧(((cn s ((k:Int) + 1)).buf.length:Nat):Int)≤(cn s ((k:Int) + 1)).cap
 ql:∀ k:Nat,k < s.aK.length→(cn s ((k:Int) + 1)).recv.length≤1000∧(cn s ((k:Int) + 1)).send.length≤1000
 sN:0≤s.eV
 cN:0≤s.cG
 po:Po.of s.eV.toNat s.cG.toNat s.fresh.toNat s.cache s.middle=true
 pi:∀ H,Po.settle s.fresh.toNat (List.replicate s.eV.toNat false) (s.cache.flatten ++ s.middle)=(H,true)→Po.Inv s.eV.toNat s.cG.toNat ⟨s.cache,s.middle,s.fresh.toNat,H⟩
 d0:0≤s.drawn
 d1:s.drawn≤s.cY.length
abbrev uG (u:U) (k:Nat) (x:Value × Value × Value):U:={ u with vG:=x.1,sg:=fun i=>if i=k then x.2.1 else u.sg i,wk:=fun i=>if i=k then x.2.2 else u.wk i }
end Fl
open Go.RowKit
namespace Fl
open Sx Go.Proofs.Tryz
set_option maxRecDepth 100000
theorem LG (s:ai) (p:Int) (h:Sx.Good s) (h0:0≤s.step) (h1:s.step≤1000000) :
  Pure prog 60 [.agg (aC s),.c (nI p)] (.aU [.agg (aC (Sx.one s p).1),.c (bI (Sx.one s p).2)]):=by
 have h':=h.toMInv;have aj:Sx.one s p=Sx.one s p:=rfl
 conv at aj=>rhs;unfold Sx.one;simp only
 refine aA.intro func60 rfl rfl rfl (fun ok e=>?_)
 by_cases a1:p < 0
 ·rw [if_pos (.inl a1)] at aj;rw [aj];have c1:(decide (p < 0))=true:=decide_eq_true a1
  repeat (first | refine aM c1 ?_ | refine au ?_ | intro _)
  exact az func60
 have c1:(decide (p < 0))=false:=decide_eq_false a1
 by_cases a2:(s.gs.length:Int)≤p
 ·rw [if_pos (.inr (.inl a2))] at aj;rw [aj];have c2:(decide (p ≥ (s.gs.length:Int)))=true:=decide_eq_true a2
  repeat (first | refine aM c1 ?_ | refine aM c2 ?_ | refine au ?_ | intro _)
  exact az func60
 have c2:(decide (p ≥ (s.gs.length:Int)))=false:=decide_eq_false a2;obtain ⟨g,rfl⟩:∃ g:Nat,p=g:=⟨p.toNat,by omega⟩
 have hg:g < s.gs.length:=by omega
 rw [Int.toNat_natCast] at aj
 by_cases a3:(aa s g).status=0
 ·have c3:((aa s g).status != 0)=false:=by simp [a3]
  rw [av] at aj;obtain ⟨n,hn⟩:∃ n:ai,{ s with step:=s.step + 1 }=n:=⟨_,rfl⟩
  have gn:Sx.Good n:=by rw [← hn];exact ⟨h'.tick,h.z.of rfl⟩
  have tY:g < n.gs.length:=by rw [← hn];exact hg
  have sn:(aa n g).status=0:=by rw [← hn];exact a3
  have C1:=Lv n g (LC gn tY);have C2:=GD n g (Ly gn tY sn);have C3:=GU n g (Lz gn tY sn);have C4:=Kn n g (LA gn tY);have C5:=K1 n g (LF gn tY sn);rw [hn] at aj;have en:aC n=(aC s).set 2 (nI (s.step + 1)):=by rw [← hn];rfl
  rw [en] at C1 C2 C3 C4 C5;clear hn en
  cases k1:(gC n g).2 with
  | true =>
   rw [if_pos k1] at aj;rw [aj];rw [k1] at C1
   repeat (first | (refine K.indexAddr ?_;refine jx rfl rfl rfl rfl (by omega) (fM hg) ?_) | (refine K.binOp ?_;first | refine aM c1 ?_ | refine aM c2 ?_ | refine aM c3 ?_ | refine jq rfl rfl rfl (Qt.aD rfl rfl rfl (aV (by omega) (by omega))) ?_) | refine aO (C1) ?_ | refine au ?_ | intro _)
   exact az func60
  | false =>
  rw [if_neg (by rw [k1];simp)] at aj;rw [k1] at C1
  cases k2:(bH n g).2 with
  | true =>
   rw [if_pos k2] at aj;rw [aj];rw [k2] at C2
   repeat (first | (refine K.indexAddr ?_;refine jx rfl rfl rfl rfl (by omega) (fM hg) ?_) | (refine K.binOp ?_;first | refine aM c1 ?_ | refine aM c2 ?_ | refine aM c3 ?_ | refine jq rfl rfl rfl (Qt.aD rfl rfl rfl (aV (by omega) (by omega))) ?_) | refine aO (C1) ?_ | refine aO (C2) ?_ | refine au ?_ | intro _)
   exact az func60
  | false =>
  rw [if_neg (by rw [k2];simp)] at aj;rw [k2] at C2
  cases k3:(bF n g).2 with
  | true =>
   rw [if_pos k3] at aj;rw [aj];rw [k3] at C3
   repeat (first | (refine K.indexAddr ?_;refine jx rfl rfl rfl rfl (by omega) (fM hg) ?_) | (refine K.binOp ?_;first | refine aM c1 ?_ | refine aM c2 ?_ | refine aM c3 ?_ | refine jq rfl rfl rfl (Qt.aD rfl rfl rfl (aV (by omega) (by omega))) ?_) | refine aO (C1) ?_ | refine aO (C2) ?_ | refine aO (C3) ?_ | refine au ?_ | intro _)
   exact az func60
  | false =>
  rw [if_neg (by rw [k3];simp)] at aj;rw [k3] at C3
  cases k4:(c9 n g).2 with
  | true =>
   rw [if_pos k4] at aj;rw [aj];rw [k4] at C4
   repeat (first | (refine K.indexAddr ?_;refine jx rfl rfl rfl rfl (by omega) (fM hg) ?_) | (refine K.binOp ?_;first | refine aM c1 ?_ | refine aM c2 ?_ | refine aM c3 ?_ | refine jq rfl rfl rfl (Qt.aD rfl rfl rfl (aV (by omega) (by omega))) ?_) | refine aO (C1) ?_ | refine aO (C2) ?_ | refine aO (C3) ?_ | refine aO (C4) ?_ | refine au ?_ | intro _)
   exact az func60
  | false =>
  rw [if_neg (by rw [k4];simp)] at aj;rw [k4] at C4
  cases k5:(bn n g).2 with
  | true =>
   rw [if_pos k5] at aj;rw [aj];rw [k5] at C5
   repeat (first | (refine K.indexAddr ?_;refine jx rfl rfl rfl rfl (by omega) (fM hg) ?_) | (refine K.binOp ?_;first | refine aM c1 ?_ | refine aM c2 ?_ | refine aM c3 ?_ | refine jq rfl rfl rfl (Qt.aD rfl rfl rfl (aV (by omega) (by omega))) ?_) | refine aO (C1) ?_ | refine aO (C2) ?_ | refine aO (C3) ?_ | refine aO (C4) ?_ | refine aO (C5) ?_ | refine au ?_ | intro _)
   exact az func60
  | false =>
   rw [if_neg (by rw [k5];simp)] at aj;rw [aj];rw [k5] at C5
   repeat (first | (refine K.indexAddr ?_;refine jx rfl rfl rfl rfl (by omega) (fM hg) ?_) | (refine K.binOp ?_;first | refine aM c1 ?_ | refine aM c2 ?_ | refine aM c3 ?_ | refine jq rfl rfl rfl (Qt.aD rfl rfl rfl (aV (by omega) (by omega))) ?_) | refine aO (C1) ?_ | refine aO (C2) ?_ | refine aO (C3) ?_ | refine aO (C4) ?_ | refine aO (C5) ?_ | refine au ?_ | intro _)
   exact az func60
 ·rw [if_pos (.inr (.inr a3))] at aj;rw [aj];have c3:((aa s g).status != 0)=true:=by simp [a3]
  repeat (first | (refine K.indexAddr ?_;refine jx rfl rfl rfl rfl (by omega) (fM hg) ?_) | refine aM c1 ?_ | refine aM c2 ?_ | refine aM c3 ?_ | refine au ?_ | intro _)
  exact az func60
end Fl
open Go.RowKit
namespace Fl
open Sx Go.Proofs.Tryz
set_option maxRecDepth 100000
def mc (s:ai) (k:Nat):List Int:=((List.range k).filter (fun g=>decide ((aa s g).status=0))).map Int.ofNat
theorem Dz (s:ai) (k:Nat):mc s (k + 1)=mc s k ++ (if (aa s k).status=0 then [(k:Int)] else []):=by
 unfold mc;rw [List.range_succ,List.filter_append,List.map_append]
 congr 1
 by_cases c:(aa s k).status=0 <;> simp [c]
theorem DA (s:ai) (k:Nat):(mc s k).length≤k:=by
 unfold mc;rw [List.length_map];have:=List.length_filter_le (fun g=>decide ((aa s g).status=0)) (List.range k);simpa using this
theorem LH (s:ai) (hb:s.gs.length≤100000) :
  Pure prog 26 [.agg (aC s)] (.c (ints (Sx.running s))):=by
 refine aA.intro func26 rfl rfl rfl (fun ok e=>?_)
 repeat (first | refine au ?_ | intro _)
 rename_i b1 b2;refine J.loop (ι:={ p:Nat × Value // p.1≤s.gs.length }) (fun p=>[(8,.c (.r 25 (s.gs.map eG))),(9,.c (nI s.gs.length)),(10,.c (nI p.1.1)),(3,.c (.v p.1.2))]) (fun p=>[.row p.1.2 3 1 ((mc s p.1.1).map fun n=>[nI n]),.box b1 36 (aC s)]) (fun p=>s.gs.length - p.1.1) ⟨(0,.slice (some ⟨b2,0,none⟩) 0 0),Nat.zero_le _⟩ (fun X h=>h.aF ⟨rfl,rfl,rfl,rfl,trivial⟩) (fun p ih=>?_);obtain ⟨⟨k,v⟩,tX⟩:=p;simp only at tX ih ⊢
 by_cases hk:k < s.gs.length
 ·have h1:(decide ((k:Int) < (s.gs.length:Int)))=true:=by simpa using hk
  have hl:=DA s k
  cases hs:((aa s k).status == 0) with
  | true =>
   have e1:(mc s (k + 1)).map (fun n=>[nI n])=(mc s k).map (fun n=>[nI n]) ++ [[nI k]]:=by
    rw [Dz,if_pos (by simpa using hs)];simp
   repeat (first | (refine K.store ?_;refine JO.ld (Ld.bu rfl rfl rfl (by exact rfl) (by exact rfl)) rfl (fun _=>?_)) | (refine K.bi ?_;refine JO.ld (Ld.bO (qb rfl) rfl rfl .cX (by (simp;omega))) rfl (fun _=>?_)) | refine au ?_ | intro _)
   rename_i b3 b4 v2;refine J.ep 1 ?_;refine J.ep 1 ?_;refine J.bq ?_ ((ih ⟨(k + 1,v2),by simp only;omega⟩ (by simp only;omega)).aF ⟨rfl,rfl,rfl,rfl,trivial⟩);simp only [e1]
  | false =>
   have e1:(mc s (k + 1))=(mc s k):=by
    rw [Dz,if_neg (by simpa using hs)];simp
   repeat (first | (refine K.store ?_;refine JO.ld (Ld.bu rfl rfl rfl (by exact rfl) (by exact rfl)) rfl (fun _=>?_)) | refine au ?_ | intro _)
   refine J.ep 0 ?_;refine J.bq ?_ ((ih ⟨(k + 1,v),by simp only;omega⟩ (by simp only;omega)).aF ⟨rfl,rfl,rfl,rfl,trivial⟩);simp only [e1]
 ·have h1:(decide ((k:Int) < (s.gs.length:Int)))=false:=by simpa using hk
  obtain rfl:k=s.gs.length:=by omega
  repeat (refine gn ?_)
  refine J.gy 2 rfl ?_;refine J.ret func26 rfl (.cons (.tmp rfl) .nil) () (.of_eq ?_) [] .nil rfl rfl;rfl
theorem DB {p n:Int} (h:0 < n):(p.tmod n + n).tmod n=p % n:=by
 have h2:=Int.lt_tmod_of_pos p h;rw [Int.tmod_eq_emod_of_nonneg (show 0≤p.tmod n + n by omega),Int.add_emod_right,Int.tmod_def,Int.sub_mul_emod_self_left]
theorem LI (s:ai) {i:Int} (h0:0≤i) (h1:i < (Sx.running s).length):((Sx.running s).map fun n=>[nI n])[i.toNat]?=some [nI (aB (Sx.running s) i)]:=by
 refine at_map ?_;have:i.toNat < (Sx.running s).length:=by omega
 rw [List.getElem?_eq_getElem this];unfold aB;rw [List.getD_eq_getElem?_getD,List.getElem?_eq_getElem this];rfl
theorem LJ (s:ai) (p:Int) (hb:s.gs.length≤100000) :
  Pure prog 59 [.agg (aC s),.c (nI p)] (.c (nI (Sx.pick s p))):=by
 have C1:=LH s hb;have aj:Sx.pick s p=Sx.pick s p:=rfl
 conv at aj=>rhs;unfold Sx.pick
 have hl:(Sx.running s).length≤s.gs.length:=DA s _;refine aA.intro func59 rfl rfl rfl (fun ok e=>?_)
 by_cases c:(Sx.running s).length=0
 ·rw [if_pos c] at aj;rw [aj];have c1:(((Sx.running s).length:Int) == 0)=true:=by simp [c]
  repeat (first | refine au ?_ | intro _)
  exact az func59
 ·rw [if_neg c] at aj;rw [aj];have c1:(((Sx.running s).length:Int) == 0)=false:=by simp;simpa using c
  obtain ⟨n,hn⟩:∃ n:Int,((Sx.running s).length:Int)=n:=⟨_,rfl⟩
  have n0:0 < n:=by omega
  have m0:=Int.emod_nonneg p (show n≠0 by omega);have m1:=Int.emod_lt_of_pos p n0;have t1:-n < p.tmod n∧p.tmod n < n:=by
   have:=Int.natAbs_tmod p n;have h2:=Int.lt_tmod_of_pos p n0;have h3:=Int.tmod_lt_of_pos p n0;omega
  have w1:IntKind.i64.wrap (p.tmod n + n)=p.tmod n + n:=aV (by omega) (by omega);rw [hn];rw [hn] at c1;have A:=LI s m0 (by rw [hn];exact m1);have m2:0≤(p.tmod n + n).tmod n:=by rw [DB n0];exact m0
  have A2:((Sx.running s).map fun n=>[nI n])[((p.tmod n + n).tmod n).toNat]?=some [nI (aB (Sx.running s) (p % n))]:=by rw [DB n0];exact A
  repeat (first | (refine K.indexAddr ?_;refine jq rfl rfl rfl (Qt.dj rfl rfl m2 A2) ?_) | (refine K.binOp ?_;first | refine jq rfl rfl rfl (Qt.rem rfl rfl (by omega) rfl) ?_ | refine jq rfl rfl rfl (Qt.aD rfl rfl rfl w1) ?_) | (refine K.bi ?_;refine jq rfl rfl rfl (((Qt.pR rfl).eq (congrArg (fun x=>D.c (nI x)) hn))) ?_) | refine au ?_ | intro _)
  exact az func59
theorem LK (s:ai) (l:List Int) {k:Nat} {p:Int} (hp:l[k]?=some p) (h:(Sx.runs s (l.take k)).2=k):Sx.runs s (l.take (k + 1))=if Sx.pick (Sx.runs s (l.take k)).1 p < 0 then ((Sx.runs s (l.take k)).1,(k:Int)) else ((Sx.one (Sx.runs s (l.take k)).1 (Sx.pick (Sx.runs s (l.take k)).1 p)).1,(k:Int) + 1):=by
 have key:∀ (m:List Int) (s:ai),(Sx.runs s m).2=m.length→Sx.runs s (m ++ [p])=if Sx.pick (Sx.runs s m).1 p < 0 then ((Sx.runs s m).1,(m.length:Int)) else ((Sx.one (Sx.runs s m).1 (Sx.pick (Sx.runs s m).1 p)).1,(m.length:Int) + 1):=by
  intro m
  induction m with
  | nil =>
   intro s _;rfl
  | cons q m ih =>
   intro s hm;rw [List.cons_append];unfold Sx.runs at hm ⊢
   by_cases c:Sx.pick s q < 0
   ·rw [if_pos c] at hm;simp at hm;omega
   ·rw [if_neg c] at hm ⊢;rw [if_neg c];have:=ih (Sx.one s (Sx.pick s q)).1 (by simp at hm;omega);rw [this];simp only [List.length_cons]
    split <;> simp <;> omega
 have hk:=(List.getElem?_eq_some_iff.1 hp).1;rw [take_one hp,key (l.take k) s (by rw [h];simp;omega)];simp [Nat.min_eq_left (Nat.le_of_lt hk)]
theorem LL (s:ai) (l:List Int) {k:Nat} (h:(Sx.runs s (l.take k)).2 < k) (hk:k≤l.length):Sx.runs s l=Sx.runs s (l.take k):=by
 have key:∀ (m r:List Int) (s:ai),(Sx.runs s m).2 < m.length→Sx.runs s (m ++ r)=Sx.runs s m:=by
  intro m r
  induction m with
  | nil=>intro s h;simp [Sx.runs] at h
  | cons q m ih =>
   intro s hm;rw [List.cons_append];unfold Sx.runs at hm ⊢
   by_cases c:Sx.pick s q < 0
   ·rw [if_pos c,if_pos c]
   ·rw [if_neg c] at hm;rw [if_neg c,if_neg c,ih _ (by simp at hm;omega)]
 have:=key (l.take k) (l.drop k) s (by simp;omega)
 rwa [List.take_append_drop] at this
theorem LM (s:ai) (l:List Int) (h:Sx.Good s) (h0:0≤s.step) (h1:s.step≤500000) (hl:l.length≤500000) :
  Pure prog 20 [.agg (aC s),.c (ints l)] (.aU [.agg (aC (Sx.runs s l).1),.c (nI (Sx.runs s l).2)]):=by
 refine aA.intro func20 rfl rfl rfl (fun ok e=>?_)
 repeat (first | refine au ?_ | intro _)
 rename_i b2 b4;refine J.loop (ι:={ k:Nat // k≤l.length∧(Sx.runs s (l.take k)).2=k }) (fun p=>[(9,.c (ints l)),(10,.c (nI l.length)),(11,.c (nI p.1)),(1,.c (ints l)),(2,.c (.v (.pointer (some ⟨b2,0,none⟩)))),(4,.c (.v (.pointer (some ⟨b4,0,none⟩))))]) (fun p=>[.box b4 36 qf,.box b2 36 (aC (Sx.runs s (l.take p.1)).1)]) (fun p=>l.length - p.1) ⟨0,Nat.zero_le _,rfl⟩ (fun X h=>h.aF ⟨rfl,rfl,rfl,rfl,rfl,rfl,trivial⟩) (fun p ih=>?_);obtain ⟨k,tX,aZ⟩:=p;simp only at ih ⊢;have tw:=h.runs (l.take k);have kL:=Jd (l.take k) s;rw [List.length_take,Nat.min_eq_left tX] at kL
 by_cases hk:k < l.length
 ·obtain ⟨y,hy⟩:∃ y,l[k]?=some y:=⟨_,List.getElem?_eq_getElem hk⟩
  have c1:(decide ((k:Int) < (l.length:Int)))=true:=by simpa using hk
  have rt:=LK s l hy aZ;have C1:=LJ (Sx.runs s (l.take k)).1 y (by have:=tw.n8;omega);have C2:=LG (Sx.runs s (l.take k)).1 (Sx.pick (Sx.runs s (l.take k)).1 y) tw (by omega) (by omega)
  by_cases c:Sx.pick (Sx.runs s (l.take k)).1 y < 0
  ·have c2:(decide (Sx.pick (Sx.runs s (l.take k)).1 y < 0))=true:=decide_eq_true c;rw [if_pos c] at rt;have es:Sx.runs s l=Sx.runs s (l.take (k + 1)):=LL s l (by rw [rt];simp;omega) hk;rw [rt] at es;rw [es]
   repeat (first | (refine K.store ?_;refine JO.ld (Ld.bu rfl rfl rfl (by exact rfl) (by exact rfl)) rfl (fun _=>?_)) | refine gn ?_)
   exact az func20
  ·have c2:(decide (Sx.pick (Sx.runs s (l.take k)).1 y < 0))=false:=decide_eq_false c;rw [if_neg c] at rt
   repeat (first | (refine K.store ?_;refine JO.ld (Ld.bu rfl rfl rfl (by exact rfl) (by exact rfl)) rfl (fun _=>?_)) | refine gn ?_)
   refine J.bq ?_ ((ih ⟨k + 1,hk,by rw [rt];simp⟩ (by simp only;omega)).aF ⟨rfl,rfl,rfl,rfl,rfl,rfl,trivial⟩);simp only [rt]
 ·obtain rfl:k=l.length:=by omega
  have c1:(decide ((l.length:Int) < (l.length:Int)))=false:=by simp
  rw [List.take_length] at *
  repeat (first | (refine K.store ?_;refine JO.ld (Ld.bu rfl rfl rfl (by exact rfl) (by exact rfl)) rfl (fun _=>?_)) | refine gn ?_)
  (refine J.ret func20 rfl (.cons (.cell 0 rfl rfl rfl) (.cons (.tmp rfl) .nil)) () (.of_eq ?_) [] .nil rfl rfl)
  rw [aZ];rfl
end Fl
end Go.Proofs.YtgjpdogjekmemaaGreat
