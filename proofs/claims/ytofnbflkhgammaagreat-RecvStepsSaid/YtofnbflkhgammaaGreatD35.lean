/-
  What the laws need, part D35.
  Conditions: none.
-/
import Derived.Test.YtofnbflkhgammaaGreatD34
set_option linter.unusedVariables false
set_option linter.unusedSimpArgs false
set_option linter.unnecessarySimpa false
set_option maxHeartbeats 2000000
namespace Go.Proofs.YtofnbflkhgammaaGreat
open Go.RowKit
namespace Fl
open Sx Go.Proofs.Tryz
set_option maxRecDepth 100000
theorem Of (s:ah) (g:Nat) (hg:g < s.gs.length) (hb:Few s) (k0:1≤(aa s g).k) (k1:(aa s g).k≤(aa s g).aF.length) (kb:(aa s g).aF.length≤100000) (hm:aN s (aD (aa s g).aF ((aa s g).k - 1))=true) :
  Pure prog 207 [.agg (az s),.c (nI g)] (.aZ [.agg (az (dc s g).1),.c (bI (dc s g).2)]):=by
 have j0:0≤(aa s g).k - 1:=by omega
 have j1:(aa s g).k - 1 < (aa s g).aF.length:=by omega
 have I1:=oO j0 j1;have D1:=FH s (aD (aa s g).aF ((aa s g).k - 1)) hm hb.2.1;have er:dc s g=(ai (Sx.free s (aD (aa s g).aF ((aa s g).k - 1))) g { aa s g with k:=(aa s g).k - 1 },decide (0 < (aa s g).k - 1)):=rfl;rw [er];have g1:g < (Sx.free s (aD (aa s g).aF ((aa s g).k - 1))).gs.length:=hg;have b1:(Sx.free s (aD (aa s g).aF ((aa s g).k - 1))).gs.length≤100000:=hb.1;generalize Sx.free s (aD (aa s g).aF ((aa s g).k - 1))=s1 at *;have D2:=cP s1 g { aa s g with k:=(aa s g).k - 1 } g1 b1;refine ax.intro func207 rfl rfl rfl (fun ok e=>?_)
 repeat (first | refine av ?_ | intro _)
 refine J.draw (by kernel_rfl) rfl ?_;refine JW.yK none (.tmp 4) rfl ?_;refine tk 0 ?_;refine tk 1 ?_;refine tk 2 ?_;refine tk 3 ?_;refine tk 4 ?_;refine JD.take 5 rfl rfl (by kernel_rfl) rfl (qb rfl) (Qt.bw rfl rfl j0 I1) rfl ?_;refine tk 6 ?_;refine tk 8 ?_;refine tk 9 ?_;refine tk 11 ?_;refine tk 12 ?_;refine tk 13 ?_;refine cW 7 (D1) ?_;refine cW 10 (D2) ?_;refine JD.bJ (i:=14) (by kernel_rfl) ?_
 (refine JS.st rfl rfl rfl (Ld.aX rfl rfl rfl (by exact rfl) (by exact rfl)) (.m9 rfl) (fun _=>?_))
 refine jk 15 rfl rfl rfl rfl (Qt.assign rfl) ?_;refine bt ?_
 all_goals
  exact aA func207
theorem Yg (l:List Int) (hb:l.length≤100000) :
  Pure prog 208 [.c (ints l)] (.c (bI (nZ l))):=by
 refine ax.intro func208 rfl rfl rfl (fun ok e=>?_)
 repeat (refine gn ?_)
 refine J.loop (ι:={ k:Nat // k≤l.length∧∀ (j:Nat) (x:Int),j < k→l[j]?=some x→x < 0 }) (fun p=>[(5,.c (ints l)),(6,.c (nI l.length)),(7,.c (nI p.1))]) (fun _=>[]) (fun p=>l.length - p.1) ⟨0,Nat.zero_le _,fun j x h=>absurd h (Nat.not_lt_zero _)⟩ (fun X h=>h.aW ⟨rfl,rfl,rfl,trivial⟩) (fun p ih=>?_);obtain ⟨k,AG,hk⟩:=p;simp only at ih ⊢
 by_cases fD:k < l.length
 ·obtain ⟨y,hy⟩:∃ y,l[k]?=some y:=⟨_,List.getElem?_eq_getElem fD⟩
  have h1:(decide ((k:Int) < (l.length:Int)))=true:=by simpa using fD
  by_cases h0:0≤y
  ·have h2:(decide (y ≥ 0))=true:=decide_eq_true h0;have e1:nZ l=true:=by
    unfold nZ;rw [List.any_eq_true];exact ⟨y,List.mem_of_getElem? hy,decide_eq_true h0⟩
   rw [e1]
   repeat (refine gn ?_)
   exact aA func208
  ·have h2:(decide (y ≥ 0))=false:=decide_eq_false h0
   repeat (refine gn ?_)
   exact (ih ⟨k + 1,by omega,fun j x hj hx=>by
    rcases Nat.lt_succ_iff_lt_or_eq.1 hj with h | h
    ·exact hk j x h hx
    ·subst h;rw [hy] at hx;cases hx;omega⟩ (by simp only;omega)).aW ⟨rfl,rfl,rfl,trivial⟩
 ·have h1:(decide ((k:Int) < (l.length:Int)))=false:=by simpa using fD
  have e1:nZ l=false:=by
   unfold nZ;rw [List.any_eq_false];intro x hx;obtain ⟨j,hj⟩:=List.getElem?_of_mem hx;have:=(List.getElem?_eq_some_iff.1 hj).1;have:=hk j x (by omega) hj;simp;omega
  rw [e1]
  repeat (refine gn ?_)
  exact aA func208
theorem Yh (s:ah) (g:Nat) (hg:g < s.gs.length) (hb:s.gs.length≤100000) (h0:0≤(aa s g).param) (h1:(aa s g).param < s.aC.length) :
  Pure prog 209 [.agg (az s),.c (nI g)] (.agg (az (nj s g))):=by
 have A1:=iu h0 h1;have aj:nj s g=nj s g:=rfl
 conv at aj=>rhs;unfold nj;simp only
 generalize su s (aa s g).param=d at *;rcases d with ⟨lv,dg,dch,xN,ds,dv,dd⟩;have D1:=Ao (eJ 0 false) xN;have D2:=Ao (eJ dv true) xN;refine ax.intro func209 rfl rfl rfl (fun ok e=>?_)
 cases dd with
 | true =>
  cases ds with
  | true =>
   simp only [if_true,and_self] at aj;rw [aj]
   repeat (first | refine av ?_ | intro _)
   refine J.draw (by kernel_rfl) rfl ?_;refine JW.base (some 5) ?_;refine tk 1 ?_;refine tk 2 ?_;refine cW 0 (lG 0 false) ?_;refine cW 3 (D1) ?_;refine jk 4 rfl rfl rfl rfl (Qt.fieldAddr rfl rfl) ?_;refine jt 5 rfl rfl (Ld.rI rfl rfl rfl (by exact rfl) (by exact rfl)) (fun _=>?_);refine bS ?_
   all_goals
    repeat (refine gn ?_)
    refine J.draw (by kernel_rfl) rfl ?_;refine JW.base (some 7) ?_;refine tk 0 ?_;refine tk 1 ?_;refine tk 3 ?_;refine tk 4 ?_;refine cW 2 (lG dv true) ?_;refine cW 5 (D2) ?_;refine jk 6 rfl rfl rfl rfl (Qt.fieldAddr rfl rfl) ?_;refine jt 7 rfl rfl (Ld.rI rfl rfl rfl (by exact rfl) (by exact rfl)) (fun _=>?_);refine bS ?_
    all_goals
     repeat (first | refine aO (cP s g { aa s g with res:=⟨1,xN,0,true,0⟩,param:=-1,k:=0,place:=31 } hg hb) ?_ | refine gn ?_)
     exact aA func209
  | false =>
   simp only [if_true,Bool.false_eq_true,false_and,if_false] at aj;rw [aj]
   repeat (first | refine av ?_ | intro _)
   refine J.draw (by kernel_rfl) rfl ?_;refine JW.base (some 5) ?_;refine tk 1 ?_;refine tk 2 ?_;refine cW 0 (lG 0 false) ?_;refine cW 3 (D1) ?_;refine jk 4 rfl rfl rfl rfl (Qt.fieldAddr rfl rfl) ?_;refine jt 5 rfl rfl (Ld.rI rfl rfl rfl (by exact rfl) (by exact rfl)) (fun _=>?_);refine bS ?_
   all_goals
    repeat (refine gn ?_)
    refine J.draw (by kernel_rfl) rfl ?_;refine JW.base (some 7) ?_;refine tk 0 ?_;refine tk 1 ?_;refine tk 3 ?_;refine tk 4 ?_;refine cW 2 (lG dv true) ?_;refine cW 5 (D2) ?_;refine jk 6 rfl rfl rfl rfl (Qt.fieldAddr rfl rfl) ?_;refine jt 7 rfl rfl (Ld.rI rfl rfl rfl (by exact rfl) (by exact rfl)) (fun _=>?_);refine bS ?_
    all_goals
     repeat (first | refine aO (cP s g { aa s g with res:=⟨1,xN,dv,true,0⟩,param:=-1,k:=0,place:=31 } hg hb) ?_ | refine gn ?_)
     exact aA func209
 | false =>
  cases ds with
  | true =>
   simp only [if_true,Bool.false_eq_true,and_false,if_false] at aj;rw [aj]
   repeat (first | refine av ?_ | intro _)
   refine J.draw (by kernel_rfl) rfl ?_;refine JW.base (some 5) ?_;refine tk 1 ?_;refine tk 2 ?_;refine cW 0 (lG 0 false) ?_;refine cW 3 (D1) ?_;refine jk 4 rfl rfl rfl rfl (Qt.fieldAddr rfl rfl) ?_;refine jt 5 rfl rfl (Ld.rI rfl rfl rfl (by exact rfl) (by exact rfl)) (fun _=>?_);refine bS ?_
   all_goals
    repeat (first | refine aO (cP s g { aa s g with res:=⟨3,xN,0,false,0⟩,param:=-1,k:=0,place:=31 } hg hb) ?_ | refine gn ?_)
    exact aA func209
  | false =>
   simp only [Bool.false_eq_true,and_false,if_false] at aj;rw [aj]
   repeat (first | refine av ?_ | intro _)
   refine J.draw (by kernel_rfl) rfl ?_;refine JW.base (some 5) ?_;refine tk 1 ?_;refine tk 2 ?_;refine cW 0 (lG 0 false) ?_;refine cW 3 (D1) ?_;refine jk 4 rfl rfl rfl rfl (Qt.fieldAddr rfl rfl) ?_;refine jt 5 rfl rfl (Ld.rI rfl rfl rfl (by exact rfl) (by exact rfl)) (fun _=>?_);refine bS ?_
   all_goals
    repeat (first | refine aO (cP s g { aa s g with res:=⟨1,xN,0,false,0⟩,param:=-1,k:=0,place:=31 } hg hb) ?_ | refine gn ?_)
    exact aA func209
theorem Yi (s:ah) (g:Nat) (hg:g < s.gs.length) (hb:Fit s) (k0:0≤(aa s g).k) (k1:(aa s g).k < (aa s g).order.length) (i0:0≤aD (aa s g).order (aa s g).k) (i1:aD (aa s g).order (aa s g).k < (aa s g).ay.length)
  (j0:0≤aD (aa s g).ay (aD (aa s g).order (aa s g).k)) (j1:aD (aa s g).ay (aD (aa s g).order (aa s g).k) < s.aC.length) :
  Pure prog 210 [.agg (az s),.c (nI g)] (.agg (az (lY s g))):=by
 have I1:=oO k0 k1;have I2:=oO i0 i1;have kb:=hb.od g;have aj:lY s g=lY s g:=rfl
 conv at aj=>rhs;unfold lY;simp only
 have D1:=ue s (aD (aa s g).ay (aD (aa s g).order (aa s g).k)) j0 j1 (Nat.le_trans (hb.rv _) (by omega)) (Nat.le_trans (hb.sd _) (by omega)) hb.1.2.1;have g1:g < (bq s (aD (aa s g).ay (aD (aa s g).order (aa s g).k))).gs.length:=by rw [fX];exact hg
 have b1:(bq s (aD (aa s g).ay (aD (aa s g).order (aa s g).k))).gs.length≤100000:=by rw [fX];exact hb.1.1
 have eg:aa (bq s (aD (aa s g).ay (aD (aa s g).order (aa s g).k))) g=aa s g:=uh (fX _ _) g;generalize bq s (aD (aa s g).ay (aD (aa s g).order (aa s g).k))=s1 at *;refine ax.intro func210 rfl rfl rfl (fun ok e=>?_)
 by_cases hk:(aa s g).k + 1 < (aa s g).order.length
 ·rw [if_pos hk] at aj;rw [aj];have aQ:(decide ((aa s g).k + 1 < ((aa s g).order.length:Int)))=true:=decide_eq_true hk;have D2:=qY s1 g 32 g1 b1 (by rw [eg];exact k0) (by rw [eg];omega)
  repeat (first | refine av ?_ | intro _)
  refine J.draw (by kernel_rfl) rfl ?_;refine JW.base (some 12) ?_;refine tk 0 ?_;refine tk 1 ?_;refine tk 2 ?_;refine tk 3 ?_;refine tk 4 ?_;refine tk 5 ?_;refine tk 6 ?_;refine JD.take 7 rfl rfl (by kernel_rfl) rfl (qb rfl) (Qt.bw rfl rfl k0 I1) rfl ?_;refine tk 8 ?_;refine JD.take 9 rfl rfl (by kernel_rfl) rfl (qb rfl) (Qt.bw rfl rfl i0 I2) rfl ?_;refine tk 10 ?_;refine cW 11 (D1) ?_;refine jt 12 rfl rfl (Ld.aX rfl rfl rfl (by exact rfl) (by exact rfl)) (fun _=>?_);refine bS ?_
  all_goals
   repeat (refine gn ?_)
   exact aA func210
 ·rw [if_neg hk] at aj;rw [aj];have aQ:(decide ((aa s g).k + 1 < ((aa s g).order.length:Int)))=false:=decide_eq_false hk;have D2:=vL s1 g 33 g1 b1
  repeat (first | refine av ?_ | intro _)
  refine J.draw (by kernel_rfl) rfl ?_;refine JW.base (some 12) ?_;refine tk 0 ?_;refine tk 1 ?_;refine tk 2 ?_;refine tk 3 ?_;refine tk 4 ?_;refine tk 5 ?_;refine tk 6 ?_;refine JD.take 7 rfl rfl (by kernel_rfl) rfl (qb rfl) (Qt.bw rfl rfl k0 I1) rfl ?_;refine tk 8 ?_;refine JD.take 9 rfl rfl (by kernel_rfl) rfl (qb rfl) (Qt.bw rfl rfl i0 I2) rfl ?_;refine tk 10 ?_;refine cW 11 (D1) ?_;refine jt 12 rfl rfl (Ld.aX rfl rfl rfl (by exact rfl) (by exact rfl)) (fun _=>?_);refine bS ?_
  all_goals
   repeat (refine gn ?_)
   exact aA func210
end Fl
open Go.RowKit
namespace Fl
open Sx Go.Proofs.Tryz
set_option maxRecDepth 100000
theorem Da (s:ah) (g:Nat) (p:Int):(Sx.next s g p).gs.length=s.gs.length:=by
 unfold Sx.next;simp only;split <;> rw [cr]
theorem Yj (s:ah) (g:Nat) (hg:g < s.gs.length) (hb:Fit s) (k0:0≤(aa s g).k) (k1:(aa s g).k < (aa s g).order.length) (i0:0≤aD (aa s g).order (aa s g).k) (i1:aD (aa s g).order (aa s g).k < (aa s g).ay.length)
  (hc:g < s.cache.length) (hp:oN s) (j1:aD (aa s g).ay (aD (aa s g).order (aa s g).k) < s.aC.length) :
  Pure prog 211 [.agg (az s),.c (nI g)] (.agg (az (ku s g))):=by
 have I1:=oO k0 k1;have I2:=oO i0 i1;have kb:=hb.od g;have wb:=hb.sg g;have aj:ku s g=ku s g:=rfl
 conv at aj=>rhs;unfold ku;simp only
 generalize aD (aa s g).order (aa s g).k=i at *;have DG:0≤aD (aa s g).ay i→Pure prog 88 [.agg (az s),.c (nI g),.c (nI (aD (aa s g).ay i))] (.agg (az (Sx.cq s g (aD (aa s g).ay i)))):=fun h=>NT s g _ hc hp h j1 hb.1.2.2
 have e1:([] ++ List.map (fun n=>[nI n]) (aa s g).ay).set i.toNat [nI (-1)]=((aa s g).ay.set i.toNat (-1)).map (fun n=>[nI n]):=by simp
 have wl:i < (([] ++ List.map (fun n=>[nI n]) (aa s g).ay).length:Int):=by simp;omega
 have wn:i.toNat < ([] ++ List.map (fun n=>[nI n]) (aa s g).ay).length:=by simp;omega
 have cR:((aa s g).k + 1 == ((aa s g).order.length:Int))=decide ((aa s g).k + 1=(aa s g).order.length):=rfl;refine ax.intro func211 rfl rfl rfl (fun ok e=>?_);have key:∀ s1:ah,s1.gs=s.gs→∃ (g1:g < s1.gs.length) (b1:s1.gs.length≤100000) (eg:aa s1 g=aa s g),True:=fun s1 h=>⟨by rw [h];exact hg,by rw [h];exact hb.1.1,uh h g,trivial⟩
 by_cases ux:0≤aD (aa s g).ay i
 ·rw [if_pos ux] at aj;have Yk:(decide (aD (aa s g).ay i ≥ 0))=true:=decide_eq_true ux;have D0:=DG ux;obtain ⟨g1,b1,eg,-⟩:=key (Sx.cq s g (aD (aa s g).ay i)) (Av _ _ _);generalize Sx.cq s g (aD (aa s g).ay i)=s1 at *
  by_cases hl:(aa s g).k + 1=(aa s g).order.length
  ·rw [if_pos hl] at aj;rw [decide_eq_true hl] at cR;rw [aj];have D2:=cP s1 g { aa s g with ay:=[] } g1 b1;have kx:(aa (ai s1 g { aa s g with ay:=[] }) g)={ aa s g with ay:=[] }:=by unfold aa ai;simp [g1]
   have D3:=qY (ai s1 g { aa s g with ay:=[] }) g 34 (by rw [cr];exact g1) (by rw [cr];exact b1) (by rw [kx];exact k0) (by rw [kx];simp only;omega);have D4:=zA (Sx.next (ai s1 g { aa s g with ay:=[] }) g 34) g (by rw [Da,cr];exact g1) (by rw [Da,cr];exact b1)
   repeat (first | refine av ?_ | intro _)
   refine J.draw (by kernel_rfl) rfl ?_;refine JW.base (some 8) ?_;refine tk 0 ?_;refine tk 1 ?_;refine tk 2 ?_;refine tk 3 ?_;refine tk 4 ?_;refine JD.take 5 rfl rfl (by kernel_rfl) rfl (qb rfl) (Qt.bw rfl rfl i0 I2) rfl ?_;refine tk 6 ?_;refine cW 7 (D0) ?_;refine jt 8 rfl rfl (Ld.aX rfl rfl rfl (by exact rfl) (by exact rfl)) (fun _=>?_);refine bS ?_
   repeat (first | (refine K.bi ?_;refine JO.ld (Ld.cA (qb rfl) rfl rfl .read (by (simp;omega))) rfl (fun _=>?_)) | refine av ?_ | intro _)
   repeat (first | (refine K.store ?_;refine JO.ld (Ld.fZ rfl rfl rfl (by exact rfl) (by exact wn)) rfl (fun _=>?_)) | (refine K.indexAddr ?_;refine jq rfl rfl rfl (Qt.bM rfl rfl (by omega) (by omega)) ?_))
   refine JO.nil ?_;refine J.nk 0 1 22 rfl rfl rfl ?_
   repeat (first | refine kU (D2) ?_ | refine gn ?_)
   exact aA func211
  ·rw [if_neg hl] at aj;rw [decide_eq_false hl] at cR;rw [aj];have D2:=cP s1 g { aa s g with ay:=(aa s g).ay.set i.toNat (-1) } g1 b1;have kx:(aa (ai s1 g { aa s g with ay:=(aa s g).ay.set i.toNat (-1) }) g)={ aa s g with ay:=(aa s g).ay.set i.toNat (-1) }:=by unfold aa ai;simp [g1]
   have D3:=qY (ai s1 g { aa s g with ay:=(aa s g).ay.set i.toNat (-1) }) g 34 (by rw [cr];exact g1) (by rw [cr];exact b1) (by rw [kx];exact k0) (by rw [kx];simp only;omega)
   repeat (first | refine av ?_ | intro _)
   refine J.draw (by kernel_rfl) rfl ?_;refine JW.base (some 8) ?_;refine tk 0 ?_;refine tk 1 ?_;refine tk 2 ?_;refine tk 3 ?_;refine tk 4 ?_;refine JD.take 5 rfl rfl (by kernel_rfl) rfl (qb rfl) (Qt.bw rfl rfl i0 I2) rfl ?_;refine tk 6 ?_;refine cW 7 (D0) ?_;refine jt 8 rfl rfl (Ld.aX rfl rfl rfl (by exact rfl) (by exact rfl)) (fun _=>?_);refine bS ?_
   repeat (first | (refine K.bi ?_;refine JO.ld (Ld.cA (qb rfl) rfl rfl .read (by (simp;omega))) rfl (fun _=>?_)) | refine av ?_ | intro _)
   repeat (first | (refine K.store ?_;refine JO.ld (Ld.fZ rfl rfl rfl (by exact rfl) (by exact wn)) rfl (fun _=>?_)) | (refine K.indexAddr ?_;refine jq rfl rfl rfl (Qt.bM rfl rfl (by omega) (by omega)) ?_))
   refine JO.nil ?_;refine J.nk 0 1 22 rfl rfl rfl ?_;rw [show (A.v (.int .i64 (-1)))=nI (-1) from rfl,e1]
   repeat (refine gn ?_)
   exact aA func211
 ·rw [if_neg ux] at aj;have Yk:(decide (aD (aa s g).ay i ≥ 0))=false:=decide_eq_false ux
  by_cases hl:(aa s g).k + 1=(aa s g).order.length
  ·rw [if_pos hl] at aj;rw [decide_eq_true hl] at cR;rw [aj];have D2:=cP s g { aa s g with ay:=[] } hg hb.1.1;have kx:(aa (ai s g { aa s g with ay:=[] }) g)={ aa s g with ay:=[] }:=by unfold aa ai;simp [hg]
   have D3:=qY (ai s g { aa s g with ay:=[] }) g 34 (by rw [cr];exact hg) (by rw [cr];exact hb.1.1) (by rw [kx];exact k0) (by rw [kx];simp only;omega);have D4:=zA (Sx.next (ai s g { aa s g with ay:=[] }) g 34) g (by rw [Da,cr];exact hg) (by rw [Da,cr];exact hb.1.1)
   repeat (first | (refine K.bi ?_;refine JO.ld (Ld.cA (qb rfl) rfl rfl .read (by (simp;omega))) rfl (fun _=>?_)) | refine av ?_ | intro _)
   repeat (first | (refine K.store ?_;refine JO.ld (Ld.fZ rfl rfl rfl (by exact rfl) (by exact wn)) rfl (fun _=>?_)) | (refine K.indexAddr ?_;refine jq rfl rfl rfl (Qt.bM rfl rfl (by omega) (by omega)) ?_))
   refine JO.nil ?_;refine J.nk 0 1 22 rfl rfl rfl ?_
   repeat (first | refine kU (D2) ?_ | refine gn ?_)
   exact aA func211
  ·rw [if_neg hl] at aj;rw [decide_eq_false hl] at cR;rw [aj];have D2:=cP s g { aa s g with ay:=(aa s g).ay.set i.toNat (-1) } hg hb.1.1;have kx:(aa (ai s g { aa s g with ay:=(aa s g).ay.set i.toNat (-1) }) g)={ aa s g with ay:=(aa s g).ay.set i.toNat (-1) }:=by unfold aa ai;simp [hg]
   have D3:=qY (ai s g { aa s g with ay:=(aa s g).ay.set i.toNat (-1) }) g 34 (by rw [cr];exact hg) (by rw [cr];exact hb.1.1) (by rw [kx];exact k0) (by rw [kx];simp only;omega)
   repeat (first | (refine K.bi ?_;refine JO.ld (Ld.cA (qb rfl) rfl rfl .read (by (simp;omega))) rfl (fun _=>?_)) | refine av ?_ | intro _)
   repeat (first | (refine K.store ?_;refine JO.ld (Ld.fZ rfl rfl rfl (by exact rfl) (by exact wn)) rfl (fun _=>?_)) | (refine K.indexAddr ?_;refine jq rfl rfl rfl (Qt.bM rfl rfl (by omega) (by omega)) ?_))
   refine JO.nil ?_;refine J.nk 0 1 22 rfl rfl rfl ?_;rw [show (A.v (.int .i64 (-1)))=nI (-1) from rfl,e1]
   repeat (refine gn ?_)
   exact aA func211
end Fl
end Go.Proofs.YtofnbflkhgammaaGreat
