/-
  What the laws need, part A37.
  Conditions: none.
-/
import Derived.Test.YtofnbflkhgammaaGreatA36
set_option linter.unusedVariables false
set_option linter.unusedSimpArgs false
set_option linter.unnecessarySimpa false
set_option maxHeartbeats 2000000
namespace Go.Proofs.YtofnbflkhgammaaGreat
open Go.RowKit
namespace Fl
open Sx
set_option maxRecDepth 100000
theorem MW (s:Sx.St) (g:Nat) (hg:g < s.gs.length) (hb:Few s) (k0:1≤(Sx.gr s g).k) (k1:(Sx.gr s g).k≤(Sx.gr s g).aC.length) (kb:(Sx.gr s g).aC.length≤100000) (hm:Sx.made s (aA (Sx.gr s g).aC ((Sx.gr s g).k - 1))=true) :
  Pure Tryz.prog 207 [.agg (ay s),.c (nI g)] (.aV [.agg (ay (cX s g).1),.c (bI (cX s g).2)]):=by
 have j0:0≤(Sx.gr s g).k - 1:=by omega
 have j1:(Sx.gr s g).k - 1 < (Sx.gr s g).aC.length:=by omega
 have I1:=ou j0 j1;have D1:=FI s (aA (Sx.gr s g).aC ((Sx.gr s g).k - 1)) hm hb.2.1;have er:cX s g=(Sx.aa (Sx.free s (aA (Sx.gr s g).aC ((Sx.gr s g).k - 1))) g { Sx.gr s g with k:=(Sx.gr s g).k - 1 },decide (0 < (Sx.gr s g).k - 1)):=rfl;rw [er];have g1:g < (Sx.free s (aA (Sx.gr s g).aC ((Sx.gr s g).k - 1))).gs.length:=hg;have b1:(Sx.free s (aA (Sx.gr s g).aC ((Sx.gr s g).k - 1))).gs.length≤100000:=hb.1;generalize Sx.free s (aA (Sx.gr s g).aC ((Sx.gr s g).k - 1))=s1 at *;have D2:=cE s1 g { Sx.gr s g with k:=(Sx.gr s g).k - 1 } g1 b1;refine aq.intro Tryz.func207 rfl rfl rfl (fun ok e=>?_)
 repeat (first | refine au ?_ | intro _)
 refine J.draw (by kernel_rfl) rfl ?_;refine JW.xA none (.tmp 4) rfl ?_;refine tk 0 ?_;refine tk 1 ?_;refine tk 2 ?_;refine tk 3 ?_;refine tk 4 ?_;refine JD.take 5 rfl rfl (by kernel_rfl) rfl (qb rfl) (Qt.cq rfl rfl j0 I1) rfl ?_;refine tk 6 ?_;refine tk 8 ?_;refine tk 9 ?_;refine tk 11 ?_;refine tk 12 ?_;refine tk 13 ?_;refine cU 7 (D1) ?_;refine cU 10 (D2) ?_;refine JD.bk (i:=14) (by kernel_rfl) ?_
 (refine JS.st rfl rfl rfl (Ld.aP rfl rfl rfl (by exact rfl) (by exact rfl)) (.mz rfl) (fun _=>?_))
 refine jk 15 rfl rfl rfl rfl (Qt.assign rfl) ?_;refine bH ?_
 all_goals
  exact az Tryz.func207
theorem XM (l:List Int) (hb:l.length≤100000) :
  Pure Tryz.prog 208 [.c (ints l)] (.c (bI (nv l))):=by
 refine aq.intro Tryz.func208 rfl rfl rfl (fun ok e=>?_)
 repeat (refine gn ?_)
 refine J.loop (ι:={ k:Nat // k≤l.length∧∀ (j:Nat) (x:Int),j < k→l[j]?=some x→x < 0 }) (fun p=>[(5,.c (ints l)),(6,.c (nI l.length)),(7,.c (nI p.1))]) (fun _=>[]) (fun p=>l.length - p.1) ⟨0,Nat.zero_le _,fun j x h=>absurd h (Nat.not_lt_zero _)⟩ (fun X h=>h.aU ⟨rfl,rfl,rfl,trivial⟩) (fun p ih=>?_);obtain ⟨k,zA,hk⟩:=p;simp only at ih ⊢
 by_cases fR:k < l.length
 ·obtain ⟨y,hy⟩:∃ y,l[k]?=some y:=⟨_,List.getElem?_eq_getElem fR⟩
  have h1:(decide ((k:Int) < (l.length:Int)))=true:=by simpa using fR
  by_cases h0:0≤y
  ·have h2:(decide (y ≥ 0))=true:=decide_eq_true h0;have e1:nv l=true:=by
    unfold nv;rw [List.any_eq_true];exact ⟨y,List.mem_of_getElem? hy,decide_eq_true h0⟩
   rw [e1]
   repeat (refine gn ?_)
   exact az Tryz.func208
  ·have h2:(decide (y ≥ 0))=false:=decide_eq_false h0
   repeat (refine gn ?_)
   exact (ih ⟨k + 1,by omega,fun j x hj hx=>by
    rcases Nat.lt_succ_iff_lt_or_eq.1 hj with h | h
    ·exact hk j x h hx
    ·subst h;rw [hy] at hx;cases hx;omega⟩ (by simp only;omega)).aU ⟨rfl,rfl,rfl,trivial⟩
 ·have h1:(decide ((k:Int) < (l.length:Int)))=false:=by simpa using fR
  have e1:nv l=false:=by
   unfold nv;rw [List.any_eq_false];intro x hx;obtain ⟨j,hj⟩:=List.getElem?_of_mem hx;have:=(List.getElem?_eq_some_iff.1 hj).1;have:=hk j x (by omega) hj;simp;omega
  rw [e1]
  repeat (refine gn ?_)
  exact az Tryz.func208
theorem XN (s:Sx.St) (g:Nat) (hg:g < s.gs.length) (hb:s.gs.length≤100000) (h0:0≤(Sx.gr s g).param) (h1:(Sx.gr s g).param < s.aB.length) :
  Pure Tryz.prog 209 [.agg (ay s),.c (nI g)] (.agg (ay (mE s g))):=by
 have A1:=ic h0 h1;have ag:mE s g=mE s g:=rfl
 conv at ag=>rhs;unfold mE;simp only
 generalize su s (Sx.gr s g).param=d at *;rcases d with ⟨lv,dg,dch,wC,ds,dv,dd⟩;have D1:=ze (ee 0 false) wC;have D2:=ze (ee dv true) wC;refine aq.intro Tryz.func209 rfl rfl rfl (fun ok e=>?_)
 cases dd with
 | true =>
  cases ds with
  | true =>
   simp only [if_true,and_self] at ag;rw [ag]
   repeat (first | refine au ?_ | intro _)
   refine J.draw (by kernel_rfl) rfl ?_;refine JW.base (some 5) ?_;refine tk 1 ?_;refine tk 2 ?_;refine cU 0 (kQ 0 false) ?_;refine cU 3 (D1) ?_;refine jk 4 rfl rfl rfl rfl (Qt.fieldAddr rfl rfl) ?_;refine jt 5 rfl rfl (Ld.qG rfl rfl rfl (by exact rfl) (by exact rfl)) (fun _=>?_);refine bJ ?_
   all_goals
    repeat (refine gn ?_)
    refine J.draw (by kernel_rfl) rfl ?_;refine JW.base (some 7) ?_;refine tk 0 ?_;refine tk 1 ?_;refine tk 3 ?_;refine tk 4 ?_;refine cU 2 (kQ dv true) ?_;refine cU 5 (D2) ?_;refine jk 6 rfl rfl rfl rfl (Qt.fieldAddr rfl rfl) ?_;refine jt 7 rfl rfl (Ld.qG rfl rfl rfl (by exact rfl) (by exact rfl)) (fun _=>?_);refine bJ ?_
    all_goals
     repeat (first | refine aJ (cE s g { Sx.gr s g with res:=⟨1,wC,0,true,0⟩,param:=-1,k:=0,place:=31 } hg hb) ?_ | refine gn ?_)
     exact az Tryz.func209
  | false =>
   simp only [if_true,Bool.false_eq_true,false_and,if_false] at ag;rw [ag]
   repeat (first | refine au ?_ | intro _)
   refine J.draw (by kernel_rfl) rfl ?_;refine JW.base (some 5) ?_;refine tk 1 ?_;refine tk 2 ?_;refine cU 0 (kQ 0 false) ?_;refine cU 3 (D1) ?_;refine jk 4 rfl rfl rfl rfl (Qt.fieldAddr rfl rfl) ?_;refine jt 5 rfl rfl (Ld.qG rfl rfl rfl (by exact rfl) (by exact rfl)) (fun _=>?_);refine bJ ?_
   all_goals
    repeat (refine gn ?_)
    refine J.draw (by kernel_rfl) rfl ?_;refine JW.base (some 7) ?_;refine tk 0 ?_;refine tk 1 ?_;refine tk 3 ?_;refine tk 4 ?_;refine cU 2 (kQ dv true) ?_;refine cU 5 (D2) ?_;refine jk 6 rfl rfl rfl rfl (Qt.fieldAddr rfl rfl) ?_;refine jt 7 rfl rfl (Ld.qG rfl rfl rfl (by exact rfl) (by exact rfl)) (fun _=>?_);refine bJ ?_
    all_goals
     repeat (first | refine aJ (cE s g { Sx.gr s g with res:=⟨1,wC,dv,true,0⟩,param:=-1,k:=0,place:=31 } hg hb) ?_ | refine gn ?_)
     exact az Tryz.func209
 | false =>
  cases ds with
  | true =>
   simp only [if_true,Bool.false_eq_true,and_false,if_false] at ag;rw [ag]
   repeat (first | refine au ?_ | intro _)
   refine J.draw (by kernel_rfl) rfl ?_;refine JW.base (some 5) ?_;refine tk 1 ?_;refine tk 2 ?_;refine cU 0 (kQ 0 false) ?_;refine cU 3 (D1) ?_;refine jk 4 rfl rfl rfl rfl (Qt.fieldAddr rfl rfl) ?_;refine jt 5 rfl rfl (Ld.qG rfl rfl rfl (by exact rfl) (by exact rfl)) (fun _=>?_);refine bJ ?_
   all_goals
    repeat (first | refine aJ (cE s g { Sx.gr s g with res:=⟨3,wC,0,false,0⟩,param:=-1,k:=0,place:=31 } hg hb) ?_ | refine gn ?_)
    exact az Tryz.func209
  | false =>
   simp only [Bool.false_eq_true,and_false,if_false] at ag;rw [ag]
   repeat (first | refine au ?_ | intro _)
   refine J.draw (by kernel_rfl) rfl ?_;refine JW.base (some 5) ?_;refine tk 1 ?_;refine tk 2 ?_;refine cU 0 (kQ 0 false) ?_;refine cU 3 (D1) ?_;refine jk 4 rfl rfl rfl rfl (Qt.fieldAddr rfl rfl) ?_;refine jt 5 rfl rfl (Ld.qG rfl rfl rfl (by exact rfl) (by exact rfl)) (fun _=>?_);refine bJ ?_
   all_goals
    repeat (first | refine aJ (cE s g { Sx.gr s g with res:=⟨1,wC,0,false,0⟩,param:=-1,k:=0,place:=31 } hg hb) ?_ | refine gn ?_)
    exact az Tryz.func209
theorem XO (s:Sx.St) (g:Nat) (hg:g < s.gs.length) (hb:Fit s) (k0:0≤(Sx.gr s g).k) (k1:(Sx.gr s g).k < (Sx.gr s g).order.length) (i0:0≤aA (Sx.gr s g).order (Sx.gr s g).k) (i1:aA (Sx.gr s g).order (Sx.gr s g).k < (Sx.gr s g).ak.length)
  (j0:0≤aA (Sx.gr s g).ak (aA (Sx.gr s g).order (Sx.gr s g).k)) (j1:aA (Sx.gr s g).ak (aA (Sx.gr s g).order (Sx.gr s g).k) < s.aB.length) :
  Pure Tryz.prog 210 [.agg (ay s),.c (nI g)] (.agg (ay (lB s g))):=by
 have I1:=ou k0 k1;have I2:=ou i0 i1;have kb:=hb.od g;have ag:lB s g=lB s g:=rfl
 conv at ag=>rhs;unfold lB;simp only
 have D1:=tr s (aA (Sx.gr s g).ak (aA (Sx.gr s g).order (Sx.gr s g).k)) j0 j1 (Nat.le_trans (hb.rv _) (by omega)) (Nat.le_trans (hb.sd _) (by omega)) hb.1.2.1;have g1:g < (Sx.drop s (aA (Sx.gr s g).ak (aA (Sx.gr s g).order (Sx.gr s g).k))).gs.length:=by rw [fL];exact hg
 have b1:(Sx.drop s (aA (Sx.gr s g).ak (aA (Sx.gr s g).order (Sx.gr s g).k))).gs.length≤100000:=by rw [fL];exact hb.1.1
 have eg:Sx.gr (Sx.drop s (aA (Sx.gr s g).ak (aA (Sx.gr s g).order (Sx.gr s g).k))) g=Sx.gr s g:=tv (fL _ _) g;generalize Sx.drop s (aA (Sx.gr s g).ak (aA (Sx.gr s g).order (Sx.gr s g).k))=s1 at *;refine aq.intro Tryz.func210 rfl rfl rfl (fun ok e=>?_)
 by_cases hk:(Sx.gr s g).k + 1 < (Sx.gr s g).order.length
 ·rw [if_pos hk] at ag;rw [ag];have aR:(decide ((Sx.gr s g).k + 1 < ((Sx.gr s g).order.length:Int)))=true:=decide_eq_true hk;have D2:=qm s1 g 32 g1 b1 (by rw [eg];exact k0) (by rw [eg];omega)
  repeat (first | refine au ?_ | intro _)
  refine J.draw (by kernel_rfl) rfl ?_;refine JW.base (some 12) ?_;refine tk 0 ?_;refine tk 1 ?_;refine tk 2 ?_;refine tk 3 ?_;refine tk 4 ?_;refine tk 5 ?_;refine tk 6 ?_;refine JD.take 7 rfl rfl (by kernel_rfl) rfl (qb rfl) (Qt.cq rfl rfl k0 I1) rfl ?_;refine tk 8 ?_;refine JD.take 9 rfl rfl (by kernel_rfl) rfl (qb rfl) (Qt.cq rfl rfl i0 I2) rfl ?_;refine tk 10 ?_;refine cU 11 (D1) ?_;refine jt 12 rfl rfl (Ld.aP rfl rfl rfl (by exact rfl) (by exact rfl)) (fun _=>?_);refine bJ ?_
  all_goals
   repeat (refine gn ?_)
   exact az Tryz.func210
 ·rw [if_neg hk] at ag;rw [ag];have aR:(decide ((Sx.gr s g).k + 1 < ((Sx.gr s g).order.length:Int)))=false:=decide_eq_false hk;have D2:=uO s1 g 33 g1 b1
  repeat (first | refine au ?_ | intro _)
  refine J.draw (by kernel_rfl) rfl ?_;refine JW.base (some 12) ?_;refine tk 0 ?_;refine tk 1 ?_;refine tk 2 ?_;refine tk 3 ?_;refine tk 4 ?_;refine tk 5 ?_;refine tk 6 ?_;refine JD.take 7 rfl rfl (by kernel_rfl) rfl (qb rfl) (Qt.cq rfl rfl k0 I1) rfl ?_;refine tk 8 ?_;refine JD.take 9 rfl rfl (by kernel_rfl) rfl (qb rfl) (Qt.cq rfl rfl i0 I2) rfl ?_;refine tk 10 ?_;refine cU 11 (D1) ?_;refine jt 12 rfl rfl (Ld.aP rfl rfl rfl (by exact rfl) (by exact rfl)) (fun _=>?_);refine bJ ?_
  all_goals
   repeat (refine gn ?_)
   exact az Tryz.func210
end Fl
open Go.RowKit
namespace Fl
open Sx
set_option maxRecDepth 100000
theorem Ca (s:Sx.St) (g:Nat) (p:Int):(Sx.next s g p).gs.length=s.gs.length:=by
 unfold Sx.next;simp only;split <;> rw [bV]
theorem XP (s:Sx.St) (g:Nat) (hg:g < s.gs.length) (hb:Fit s) (k0:0≤(Sx.gr s g).k) (k1:(Sx.gr s g).k < (Sx.gr s g).order.length) (i0:0≤aA (Sx.gr s g).order (Sx.gr s g).k) (i1:aA (Sx.gr s g).order (Sx.gr s g).k < (Sx.gr s g).ak.length)
  (hc:g < s.cache.length) (hp:ot s) (j1:aA (Sx.gr s g).ak (aA (Sx.gr s g).order (Sx.gr s g).k) < s.aB.length) :
  Pure Tryz.prog 211 [.agg (ay s),.c (nI g)] (.agg (ay (j5 s g))):=by
 have I1:=ou k0 k1;have I2:=ou i0 i1;have kb:=hb.od g;have wb:=hb.sg g;have ag:j5 s g=j5 s g:=rfl
 conv at ag=>rhs;unfold j5;simp only
 generalize aA (Sx.gr s g).order (Sx.gr s g).k=i at *;have DG:0≤aA (Sx.gr s g).ak i→Pure Tryz.prog 88 [.agg (ay s),.c (nI g),.c (nI (aA (Sx.gr s g).ak i))] (.agg (ay (Sx.bR s g (aA (Sx.gr s g).ak i)))):=fun h=>MB s g _ hc hp h j1 hb.1.2.2
 have e1:([] ++ List.map (fun n=>[nI n]) (Sx.gr s g).ak).set i.toNat [nI (-1)]=((Sx.gr s g).ak.set i.toNat (-1)).map (fun n=>[nI n]):=by simp
 have wl:i < (([] ++ List.map (fun n=>[nI n]) (Sx.gr s g).ak).length:Int):=by simp;omega
 have wn:i.toNat < ([] ++ List.map (fun n=>[nI n]) (Sx.gr s g).ak).length:=by simp;omega
 have dF:((Sx.gr s g).k + 1 == ((Sx.gr s g).order.length:Int))=decide ((Sx.gr s g).k + 1=(Sx.gr s g).order.length):=rfl;refine aq.intro Tryz.func211 rfl rfl rfl (fun ok e=>?_);have key:∀ s1:Sx.St,s1.gs=s.gs→∃ (g1:g < s1.gs.length) (b1:s1.gs.length≤100000) (eg:Sx.gr s1 g=Sx.gr s g),True:=fun s1 h=>⟨by rw [h];exact hg,by rw [h];exact hb.1.1,tv h g,trivial⟩
 by_cases tH:0≤aA (Sx.gr s g).ak i
 ·rw [if_pos tH] at ag;have XQ:(decide (aA (Sx.gr s g).ak i ≥ 0))=true:=decide_eq_true tH;have D0:=DG tH;obtain ⟨g1,b1,eg,-⟩:=key (Sx.bR s g (aA (Sx.gr s g).ak i)) (zi _ _ _);generalize Sx.bR s g (aA (Sx.gr s g).ak i)=s1 at *
  by_cases hl:(Sx.gr s g).k + 1=(Sx.gr s g).order.length
  ·rw [if_pos hl] at ag;rw [decide_eq_true hl] at dF;rw [ag];have D2:=cE s1 g { Sx.gr s g with ak:=[] } g1 b1;have kx:(Sx.gr (Sx.aa s1 g { Sx.gr s g with ak:=[] }) g)={ Sx.gr s g with ak:=[] }:=by unfold Sx.gr Sx.aa;simp [g1]
   have D3:=qm (Sx.aa s1 g { Sx.gr s g with ak:=[] }) g 34 (by rw [bV];exact g1) (by rw [bV];exact b1) (by rw [kx];exact k0) (by rw [kx];simp only;omega);have D4:=y9 (Sx.next (Sx.aa s1 g { Sx.gr s g with ak:=[] }) g 34) g (by rw [Ca,bV];exact g1) (by rw [Ca,bV];exact b1)
   repeat (first | refine au ?_ | intro _)
   refine J.draw (by kernel_rfl) rfl ?_;refine JW.base (some 8) ?_;refine tk 0 ?_;refine tk 1 ?_;refine tk 2 ?_;refine tk 3 ?_;refine tk 4 ?_;refine JD.take 5 rfl rfl (by kernel_rfl) rfl (qb rfl) (Qt.cq rfl rfl i0 I2) rfl ?_;refine tk 6 ?_;refine cU 7 (D0) ?_;refine jt 8 rfl rfl (Ld.aP rfl rfl rfl (by exact rfl) (by exact rfl)) (fun _=>?_);refine bJ ?_
   repeat (first | (refine K.bi ?_;refine JO.ld (Ld.bY (qb rfl) rfl rfl .read (by (simp;omega))) rfl (fun _=>?_)) | refine au ?_ | intro _)
   repeat (first | (refine K.store ?_;refine JO.ld (Ld.fO rfl rfl rfl (by exact rfl) (by exact wn)) rfl (fun _=>?_)) | (refine K.indexAddr ?_;refine jq rfl rfl rfl (Qt.bF rfl rfl (by omega) (by omega)) ?_))
   refine JO.nil ?_;refine J.mF 0 1 22 rfl rfl rfl ?_
   repeat (first | refine ei (D2) ?_ | refine gn ?_)
   exact az Tryz.func211
  ·rw [if_neg hl] at ag;rw [decide_eq_false hl] at dF;rw [ag];have D2:=cE s1 g { Sx.gr s g with ak:=(Sx.gr s g).ak.set i.toNat (-1) } g1 b1;have kx:(Sx.gr (Sx.aa s1 g { Sx.gr s g with ak:=(Sx.gr s g).ak.set i.toNat (-1) }) g)={ Sx.gr s g with ak:=(Sx.gr s g).ak.set i.toNat (-1) }:=by unfold Sx.gr Sx.aa;simp [g1]
   have D3:=qm (Sx.aa s1 g { Sx.gr s g with ak:=(Sx.gr s g).ak.set i.toNat (-1) }) g 34 (by rw [bV];exact g1) (by rw [bV];exact b1) (by rw [kx];exact k0) (by rw [kx];simp only;omega)
   repeat (first | refine au ?_ | intro _)
   refine J.draw (by kernel_rfl) rfl ?_;refine JW.base (some 8) ?_;refine tk 0 ?_;refine tk 1 ?_;refine tk 2 ?_;refine tk 3 ?_;refine tk 4 ?_;refine JD.take 5 rfl rfl (by kernel_rfl) rfl (qb rfl) (Qt.cq rfl rfl i0 I2) rfl ?_;refine tk 6 ?_;refine cU 7 (D0) ?_;refine jt 8 rfl rfl (Ld.aP rfl rfl rfl (by exact rfl) (by exact rfl)) (fun _=>?_);refine bJ ?_
   repeat (first | (refine K.bi ?_;refine JO.ld (Ld.bY (qb rfl) rfl rfl .read (by (simp;omega))) rfl (fun _=>?_)) | refine au ?_ | intro _)
   repeat (first | (refine K.store ?_;refine JO.ld (Ld.fO rfl rfl rfl (by exact rfl) (by exact wn)) rfl (fun _=>?_)) | (refine K.indexAddr ?_;refine jq rfl rfl rfl (Qt.bF rfl rfl (by omega) (by omega)) ?_))
   refine JO.nil ?_;refine J.mF 0 1 22 rfl rfl rfl ?_;rw [show (A.v (.int .i64 (-1)))=nI (-1) from rfl,e1]
   repeat (refine gn ?_)
   exact az Tryz.func211
 ·rw [if_neg tH] at ag;have XQ:(decide (aA (Sx.gr s g).ak i ≥ 0))=false:=decide_eq_false tH
  by_cases hl:(Sx.gr s g).k + 1=(Sx.gr s g).order.length
  ·rw [if_pos hl] at ag;rw [decide_eq_true hl] at dF;rw [ag];have D2:=cE s g { Sx.gr s g with ak:=[] } hg hb.1.1;have kx:(Sx.gr (Sx.aa s g { Sx.gr s g with ak:=[] }) g)={ Sx.gr s g with ak:=[] }:=by unfold Sx.gr Sx.aa;simp [hg]
   have D3:=qm (Sx.aa s g { Sx.gr s g with ak:=[] }) g 34 (by rw [bV];exact hg) (by rw [bV];exact hb.1.1) (by rw [kx];exact k0) (by rw [kx];simp only;omega);have D4:=y9 (Sx.next (Sx.aa s g { Sx.gr s g with ak:=[] }) g 34) g (by rw [Ca,bV];exact hg) (by rw [Ca,bV];exact hb.1.1)
   repeat (first | (refine K.bi ?_;refine JO.ld (Ld.bY (qb rfl) rfl rfl .read (by (simp;omega))) rfl (fun _=>?_)) | refine au ?_ | intro _)
   repeat (first | (refine K.store ?_;refine JO.ld (Ld.fO rfl rfl rfl (by exact rfl) (by exact wn)) rfl (fun _=>?_)) | (refine K.indexAddr ?_;refine jq rfl rfl rfl (Qt.bF rfl rfl (by omega) (by omega)) ?_))
   refine JO.nil ?_;refine J.mF 0 1 22 rfl rfl rfl ?_
   repeat (first | refine ei (D2) ?_ | refine gn ?_)
   exact az Tryz.func211
  ·rw [if_neg hl] at ag;rw [decide_eq_false hl] at dF;rw [ag];have D2:=cE s g { Sx.gr s g with ak:=(Sx.gr s g).ak.set i.toNat (-1) } hg hb.1.1;have kx:(Sx.gr (Sx.aa s g { Sx.gr s g with ak:=(Sx.gr s g).ak.set i.toNat (-1) }) g)={ Sx.gr s g with ak:=(Sx.gr s g).ak.set i.toNat (-1) }:=by unfold Sx.gr Sx.aa;simp [hg]
   have D3:=qm (Sx.aa s g { Sx.gr s g with ak:=(Sx.gr s g).ak.set i.toNat (-1) }) g 34 (by rw [bV];exact hg) (by rw [bV];exact hb.1.1) (by rw [kx];exact k0) (by rw [kx];simp only;omega)
   repeat (first | (refine K.bi ?_;refine JO.ld (Ld.bY (qb rfl) rfl rfl .read (by (simp;omega))) rfl (fun _=>?_)) | refine au ?_ | intro _)
   repeat (first | (refine K.store ?_;refine JO.ld (Ld.fO rfl rfl rfl (by exact rfl) (by exact wn)) rfl (fun _=>?_)) | (refine K.indexAddr ?_;refine jq rfl rfl rfl (Qt.bF rfl rfl (by omega) (by omega)) ?_))
   refine JO.nil ?_;refine J.mF 0 1 22 rfl rfl rfl ?_;rw [show (A.v (.int .i64 (-1)))=nI (-1) from rfl,e1]
   repeat (refine gn ?_)
   exact az Tryz.func211
end Fl
end Go.Proofs.YtofnbflkhgammaaGreat
