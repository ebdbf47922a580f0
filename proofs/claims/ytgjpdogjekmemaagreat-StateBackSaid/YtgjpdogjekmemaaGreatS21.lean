/-
  What the laws need, part S21.
  Conditions: none.
-/
import Derived.Test.YtgjpdogjekmemaaGreatS10
import Derived.Test.YtgjpdogjekmemaaGreatS20
set_option linter.unusedVariables false
set_option linter.unusedSimpArgs false
set_option linter.unnecessarySimpa false
set_option maxHeartbeats 2000000
namespace Go.Proofs.YtgjpdogjekmemaaGreat
open Go.RowKit
namespace Fl
open Sx Go.Proofs.Tryz
set_option maxRecDepth 100000
def AO (u:U) (s:ah):Prop:=Po.Inv s.cY.toNat s.bM.toNat (iI u s)
class Rq (s' s:ah):Prop where h:s'.cY=s.cY∧s'.bM=s.bM∧s'.cache=s.cache∧s'.middle=s.middle∧s'.fresh=s.fresh
section
variable {s s':ah} {g:Nat} {f:Gr→Gr} {x:Gr} {i:Int} {d:Su} {c:Int} {n:Cn}
end
section
variable {u:U} {s:ah}
abbrev Rr (u:U) (s:ah) (g:Nat) (y:Int) (T:List Nat):U:={ u with H:=(Po.cR s.bM.toNat (iI u s) g y).1.H,TP:=T }
end
structure Rs (s:ah) (g:Nat):Prop where
 lt:g < s.gs.length
 cL:0≤(aa s g).at_
 oc:(ag s g).cases.length≤1000
 ch:0≤(ag s g).ch∧(ag s g).ch≤1000
 c8:s.ax.length≤8
 fr:0≤s.fresh
 l4:(aa s g).place=4→aM s (ag s g).ch=true
 E4:(aa s g).place=12∨(aa s g).place=16→aM s (ag s g).ch=true∧(cn s (ag s g).ch).lock=g
 E5:(aa s g).place=15→g < s.cache.length∧0≤(aa s g).bq∧(aa s g).bq < s.aD.length
 E6:(aa s g).place=17→∃ (a:Nat) (l:List Int),(aa s g).an=(a:Int) :: l∧a < s.gs.length∧a≠g∧l.length≤1000
end Fl
open Go.RowKit
namespace Fl
open Sx Go.Proofs.Tryz
set_option maxRecDepth 100000
structure FY (s:ah):Prop extends Fw s where
 qs:Qs s
 st:∀ g:Nat,g < s.gs.length→0≤(aa s g).status∧(aa s g).status≤2
 lk:∀ k:Nat,k < s.ax.length→(cn s ((k:Int) + 1)).lock=-1∨0≤(cn s ((k:Int) + 1)).lock
 O1:∀ k:Nat,k < s.ax.length→0≤(cn s ((k:Int) + 1)).cap∧(cn s ((k:Int) + 1)).cap≤64∧(((cn s ((k:Int) + 1)).buf.length:Nat):Int)≤(cn s ((k:Int) + 1)).cap
 ql:∀ k:Nat,k < s.ax.length→(cn s ((k:Int) + 1)).recv.length≤1000∧(cn s ((k:Int) + 1)).send.length≤1000
 sN:0≤s.cY
 cN:0≤s.bM
 po:Po.of s.cY.toNat s.bM.toNat s.fresh.toNat s.cache s.middle=true
 pi:∀ H,Po.settle s.fresh.toNat (List.replicate s.cY.toNat false) (s.cache.flatten ++ s.middle)=(H,true)→Po.Inv s.cY.toNat s.bM.toNat ⟨s.cache,s.middle,s.fresh.toNat,H⟩
 d0:0≤s.drawn
 d1:s.drawn≤s.cD.length
theorem O3 {u u':U} {s:ah} {k:Nat} {v w:Value} (e1:u'.sg k=v) (e2:u'.wk k=w) (h:∀ j,j < k→u'.sg j=u.sg j∧u'.wk j=u.wk j) :
  (pX u' s (k + 1)).Perm (.row w 3 1 (aU (aa s k).an) :: .row v 3 1 (aU (aa s k).au) :: pX u s k):=by
 have h1:((List.range (k + 1)).map fun g=>ak.row (u'.sg g) 3 1 (aU (aa s g).au))=((List.range k).map fun g=>ak.row (u.sg g) 3 1 (aU (aa s g).au)) ++ [.row v 3 1 (aU (aa s k).au)]:=(qC (by rw [e1]) fun j hj=>by rw [(h j hj).1]).symm;have h2:((List.range (k + 1)).map fun g=>ak.row (u'.wk g) 3 1 (aU (aa s g).an))=((List.range k).map fun g=>ak.row (u.wk g) 3 1 (aU (aa s g).an)) ++ [.row w 3 1 (aU (aa s k).an)]:=(qC (by rw [e2]) fun j hj=>by rw [(h j hj).2]).symm;unfold pX;rw [h1,h2];generalize ((List.range k).map fun g=>ak.row (u.sg g) 3 1 (aU (aa s g).au))=A;generalize ((List.range k).map fun g=>ak.row (u.wk g) 3 1 (aU (aa s g).an))=B;rw [← List.append_assoc];refine (List.perm_append_comm (l₁:=A ++ [_] ++ B) (l₂:=[_])).trans ?_;refine List.Perm.cons _ ?_;rw [List.append_assoc];exact List.perm_middle
abbrev uG (u:U) (k:Nat) (x:Value × Value × Value):U:={ u with vG:=x.1,sg:=fun i=>if i=k then x.2.1 else u.sg i,wk:=fun i=>if i=k then x.2.2 else u.wk i }
theorem O4 (u:U) (s:ah) (k:Nat) (x:Value × Value × Value):oO u s k ++ [gW (aa s k) x.2.1 x.2.2]=oO (uG u k x) s (k + 1) :=
 qC (by simp) fun j hj=>by have:j≠k:=(by omega);simp [this]
theorem O5 (s:ah) (h:FY s) :
  aq prog 14 [.agg (az s)] [] (fun x:{ x:Nat × U // AO x.2 s }=>(.c (.v (pt x.1.1)),wd x.1.1 x.1.2 s)):=by
 have g8:=h.gs;have c8:=h.ch;have jT:=h.su;have dn:=h.dn;have dr:=h.dr;have d0:=h.d0;have d1:=h.d1;have fr:=h.fr;have sN:=h.sN;have cN:=h.cN;have CB:=Ck (s.gs.length:Int);rw [Ky g8] at CB;have CL:=B4 (s.ax.length:Int);rw [KC c8] at CL;have CD:=CJ s.cD dr;have CQ:=Cf s.aD.length 16 jT (by omega);rw [KH (s:=s)] at CQ;have CP:=I7 s.cY.toNat s.bM.toNat s.fresh.toNat s.cache s.middle h.mb h.cb h.po;rw [show ((s.cY.toNat:Nat):Int)=s.cY by omega,show ((s.bM.toNat:Nat):Int)=s.bM by omega,show ((s.fresh.toNat:Nat):Int)=s.fresh by omega] at CP;refine aq.intro func14 rfl rfl rfl (fun ok e=>?_)
 repeat (first | refine av ?_ | intro _)
 refine J.draw (by kernel_rfl) rfl ?_;refine JW.base none ?_;refine tk 0 ?_;refine tk 1 ?_;refine tk 2 ?_;refine tk 3 ?_;refine tk 4 ?_;refine tk 5 ?_;refine tk 6 ?_;refine tk 8 ?_;refine tk 9 ?_;refine tk 10 ?_;refine tk 12 ?_;refine tk 13 ?_;refine tk 15 ?_;refine tk 16 ?_;refine tk 18 ?_;refine tk 19 ?_;refine tk 21 ?_;refine tk 22 ?_;refine jl 7 rfl rfl rfl rfl (Ld.jm CB (qb rfl) rfl (.cons .refl .nil)) .none (fun _=>?_);refine jl 11 rfl rfl rfl rfl (Ld.jm CL (qb rfl) rfl (.cons .refl .nil)) .none (fun _=>?_);refine jl 14 rfl rfl rfl rfl (Ld.jM (qb rfl) rfl rfl .read (by (simp;omega))) .none (fun _=>?_);refine jl 17 rfl rfl rfl rfl (Ld.jm CD (qb rfl) rfl (.cons .refl .nil)) .none (fun _=>?_);refine jl 20 rfl rfl rfl rfl (Ld.dO (qb rfl) rfl rfl .read (by (simp;omega))) .none (fun _=>?_);refine jl 23 rfl rfl rfl rfl (Ld.jM (qb rfl) rfl rfl .read (by (simp;omega))) .none (fun _=>?_);refine jk 24 rfl rfl rfl rfl (Qt.build rfl (by kernel_rfl)) ?_;refine jl 25 rfl rfl rfl rfl (Ld.box (qb rfl) rfl rfl) .none (fun _=>?_);refine jk 26 rfl rfl rfl rfl (Qt.assign rfl) ?_;refine bP ?_;rename_i b1 xB xL vS bD _ vM bW
 repeat (first | (refine K.store ?_;refine JO.ld (Ld.cr rfl rfl (by exact rfl)) rfl (fun _=>?_)) | (refine K.call ?_;first | (refine JO.ld (Ld.jm CQ (qb rfl) rfl (.cons .refl (.cons .refl .nil))) rfl ?_;intro xQ) | (refine JO.ld (Ld.jm CP (qb rfl) rfl (.cons .refl (.cons .refl (.cons .refl (.cons .refl (.cons .refl .nil)))))) rfl ?_;intro xP)) | refine gn ?_)
 have CS:=Je bD s.cD s.drawn d0 d1 dr;refine J.draw (by kernel_rfl) rfl ?_;refine JW.gw [4] none ?_;refine tk 0 ?_;refine tk 1 ?_;refine tk 2 ?_;refine tk 3 ?_;refine tk 4 ?_;refine tk 5 ?_;refine jl 6 rfl rfl rfl rfl (Ld.cT CS (qb rfl) rfl (.cons .refl (.cons .refl .nil))) (.ig rfl) (fun _=>?_);refine bP ?_;refine J.gB 55 25 ?_;refine J.gB 104 1 ?_;refine J.gB 4 1 ?_;refine J.Ex (Φ:=tR []) tR.ok tR.none ?_;obtain ⟨u0,nK⟩:∃ u:U,u=⟨.slice none 0 0,xB.1,.slice none 0 0,.slice none 0 0,xL.1,xQ.1,vS,xP.1.1,bD,vM,xB.2,xL.2,xQ.2,xP.1.2.1,[],xP.1.2.2,fun _=>.slice none 0 0,fun _=>.slice none 0 0,fun _=>.slice none 0 0⟩:=⟨_,rfl⟩
 have O6:AO u0 s:=by rw [nK];exact h.pi _ (by rw [show ((s.fresh.toNat:Nat):Int)=s.fresh by omega];exact xP.2)
 have hv:u0.vG=.slice none 0 0∧u0.vR=.slice none 0 0∧u0.vC=.slice none 0 0:=by rw [nK];exact ⟨rfl,rfl,rfl⟩
 refine J.perm (L2:=.box b1 36 (az s) :: wo bW u0 s (oO u0 s 0) (bK s 0) (jW u0 0) (iQ s 0) (lK s 0) (qK s 0 0 0) (mJ u0 s 0) (pX u0 s 0)) ?_ ?_
 ·subst nK
  repeat (first | exact List.Perm.refl _ | refine bu 0 rfl rfl ?_ | refine bu 1 rfl rfl ?_ | refine bu 2 rfl rfl ?_ | refine bu 3 rfl rfl ?_ | refine bu 4 rfl rfl ?_ | refine bu 5 rfl rfl ?_ | refine bu 6 rfl rfl ?_ | refine bu 7 rfl rfl ?_ | refine bu 8 rfl rfl ?_ | refine bu 9 rfl rfl ?_ | refine bu 10 rfl rfl ?_ | refine bu 11 rfl rfl ?_ | refine bu 12 rfl rfl ?_)
 clear nK
 repeat (refine gn ?_)
 refine J.loop (ι:={ q:Nat × Value × (Nat→Value) × (Nat→Value) // q.1≤s.gs.length }) (fun q=>[(73,.c (nI q.1.1)),(72,.c (nI s.gs.length)),(71,.c (.r 25 (s.gs.map eG))),(3,.c (.v (pt bW))),(1,.c (.v (pt b1)))]) (fun q=>.box b1 36 (az s) :: wo bW { u0 with vG:=q.1.2.1,sg:=q.1.2.2.1,wk:=q.1.2.2.2 } s (oO { u0 with vG:=q.1.2.1,sg:=q.1.2.2.1,wk:=q.1.2.2.2 } s q.1.1) (bK s q.1.1) (jW u0 0) (iQ s 0) (lK s 0) (qK s 0 0 0) (mJ u0 s 0) (pX { u0 with vG:=q.1.2.1,sg:=q.1.2.2.1,wk:=q.1.2.2.2 } s q.1.1)) (fun q=>s.gs.length - q.1.1) ⟨(0,u0.vG,u0.sg,u0.wk),Nat.zero_le _⟩ (fun X h=>h.aQ ⟨rfl,rfl,rfl,rfl,rfl,trivial⟩) (fun q ih=>?_);obtain ⟨⟨k,vG,sg,wk⟩,hk⟩:=q;simp only at hk ih ⊢
 by_cases aN:k < s.gs.length
 ·have t1:(decide ((k:Int) < (s.gs.length:Int)))=true:=by simpa using aN
  have hx:s.gs[k]?=some (aa s k):=by unfold aa;rw [List.getD_eq_getElem?_getD,List.getElem?_eq_getElem aN];rfl
  have hm:=List.mem_of_getElem? hx;obtain ⟨o1,o2⟩:=h.op _ hm;obtain ⟨o3,o4,o5,o6⟩:=h.zo _ hm;have BS:=IK u0.pB (bK s k) u0.TB (k:Int) (aa s k).status (aa s k).token;rw [Kx aN (h.st k aN)] at BS;have CG:=MP (aa s k) o1 o2 o3 o4 o5 o6;have gl:(oO { u0 with vG:=vG,sg:=sg,wk:=wk } s k).length≤8:=by simp [oO];omega
  repeat (first | (refine K.store ?_;refine JO.ld (Ld.aT rfl rfl rfl (by exact rfl) (by exact rfl)) rfl (fun _=>?_)) | refine av ?_ | intro _)
  refine J.draw (by kernel_rfl) rfl ?_;refine JW.gw [9] none ?_;refine tk 0 ?_;refine tk 1 ?_;refine tk 2 ?_;refine tk 3 ?_;refine tk 4 ?_;refine tk 5 ?_;refine tk 6 ?_;refine tk 7 ?_;refine tk 8 ?_;refine jl 9 rfl rfl rfl rfl (Ld.cT BS (qb rfl) rfl (.cons .refl (.cons .refl (.cons .refl (.cons .refl .nil))))) (.dS rfl) (fun _=>?_);refine bP ?_
  repeat (first | (refine K.store ?_;first | refine JO.ld (Ld.aT rfl rfl rfl (by exact rfl) (by exact rfl)) rfl (fun _=>?_) | refine JO.ld (Ld.cr rfl rfl (by exact rfl)) rfl (fun _=>?_)) | (refine K.call ?_;refine JO.ld (Ld.MO CG (qb rfl) rfl (.cons .refl .nil)) rfl ?_;intro x) | refine gn ?_)
  refine J.draw (by kernel_rfl) rfl ?_;refine JW.gw [5] (some 10) ?_;refine tk 0 ?_;refine tk 1 ?_;refine tk 2 ?_;refine tk 3 ?_;refine tk 4 ?_;refine tk 5 ?_;refine jl 6 rfl rfl rfl rfl (Ld.iZ (qb rfl) rfl rfl rfl rfl rfl) .none (fun _=>?_);refine jl 7 rfl rfl rfl rfl (Ld.bH (qb rfl) rfl rfl .read (by (simp;omega))) (.oU rfl) (fun _=>?_);refine jk 8 rfl rfl rfl rfl (Qt.nilCheck rfl rfl) ?_;refine jk 9 rfl rfl rfl rfl (Qt.fieldAddr rfl rfl) ?_;refine jt 10 rfl rfl (Ld.cr rfl rfl (by exact rfl)) (fun _=>?_);refine bz ?_
  repeat (refine gn ?_)
  rename_i b5 _ _ _ _ _ _ sQ _;refine J.eI 3 ?_;refine J.perm (L2:=.box b1 36 (az s) :: wo bW (uG { u0 with vG:=vG,sg:=sg,wk:=wk } k (sQ,x)) s (oO (uG { u0 with vG:=vG,sg:=sg,wk:=wk } k (sQ,x)) s (k + 1)) (bK s (k + 1)) (jW u0 0) (iQ s 0) (lK s 0) (qK s 0 0 0) (mJ u0 s 0) (pX (uG { u0 with vG:=vG,sg:=sg,wk:=wk } k (sQ,x)) s (k + 1))) ?_ ?_
  ·rw [← O4]
   repeat (first | refine bu 0 rfl rfl ?_ | refine bu 1 rfl rfl ?_ | refine bu 2 rfl rfl ?_ | refine bu 3 rfl rfl ?_ | refine bu 4 rfl rfl ?_)
   exact O3 (u:={ u0 with vG:=vG,sg:=sg,wk:=wk }) (if_pos rfl) (if_pos rfl) fun j hj=>⟨if_neg (by omega),if_neg (by omega)⟩
  ·exact (ih ⟨(k + 1,sQ,(uG { u0 with vG:=vG,sg:=sg,wk:=wk } k (sQ,x)).sg,(uG { u0 with vG:=vG,sg:=sg,wk:=wk } k (sQ,x)).wk),by simp only;omega⟩ (by simp only;omega)).aQ ⟨rfl,rfl,rfl,rfl,rfl,trivial⟩
 ·have t1:(decide ((k:Int) < (s.gs.length:Int)))=false:=by simpa using aN
  obtain rfl:k=s.gs.length:=by omega
  rw [Kz]
  repeat (refine gn ?_)
  have FZ:AO { u0 with vG:=vG,sg:=sg,wk:=wk } s:=O6;generalize Rt:({ u0 with vG:=vG,sg:=sg,wk:=wk }:U)=u1 at FZ ⊢;refine J.loop (ι:={ q:Nat × Value × Value × List Nat × (Nat→Value) // q.1≤s.ax.length }) (fun q=>[(106,.c (nI q.1.1)),(105,.c (nI s.ax.length)),(104,.c (.r 6 (s.ax.map eC))),(3,.c (.v (pt bW))),(1,.c (.v (pt b1)))]) (fun q=>.box b1 36 (az s) :: wo bW { u1 with vR:=q.1.2.1,vC:=q.1.2.2.1,TR:=q.1.2.2.2.1,rs:=q.1.2.2.2.2 } s (oO u1 s s.gs.length) (s.gs.map fun x=>(x.status,x.token)) (jW { u1 with vR:=q.1.2.1,vC:=q.1.2.2.1,TR:=q.1.2.2.2.1,rs:=q.1.2.2.2.2 } q.1.1) (iQ s q.1.1) (lK s q.1.1) (qK s q.1.1 0 0) (mJ { u1 with vR:=q.1.2.1,vC:=q.1.2.2.1,TR:=q.1.2.2.2.1,rs:=q.1.2.2.2.2 } s q.1.1) (pX u1 s s.gs.length)) (fun q=>s.ax.length - q.1.1) ⟨(0,u1.vR,u1.vC,u1.TR,u1.rs),Nat.zero_le _⟩ (fun X h=>?_) (fun q fF=>?_)
  ·exact h.aQ ⟨rfl,rfl,rfl,rfl,rfl,trivial⟩
  obtain ⟨⟨j,vR,vC,TR,rs⟩,hj⟩:=q;simp only at hj fF ⊢
  by_cases dH:j < s.ax.length
  ·have t1:(decide ((j:Int) < (s.ax.length:Int)))=true:=by simpa using dH
   have hx:(s.ax.map eC)[((j:Int)).toNat]?=some (eC (cn s ((j:Int) + 1))):=by rw [Int.toNat_natCast,List.getElem?_map,rW dH];rfl
   have CA:=MT bW { u1 with vR:=vR,vC:=vC,TR:=TR,rs:=rs } s j (oO u1 s s.gs.length) (s.gs.map fun x=>(x.status,x.token)) (pX u1 s s.gs.length) dH h.qs (h.O1 j dH) (h.lk j dH) (h.ql j dH).1 (h.ql j dH).2
   repeat (first | (refine K.store ?_;refine JO.ld (Ld.aT rfl rfl rfl (by exact rfl) (by exact rfl)) rfl (fun _=>?_)) | (refine K.call ?_;refine JO.ld (Ld.mg CA (qb rfl) rfl (.cons .refl (.cons .refl (.cons .refl .nil)))) rfl ?_;intro x) | refine av ?_ | intro _)
   refine J.eI 0 ?_;exact (fF ⟨(j + 1,x.2.1,x.2.2.1,TR ++ x.2.2.2,fun i=>if i=j then x.1 else rs i),by simp only;omega⟩ (by simp only;omega)).aQ ⟨rfl,rfl,rfl,rfl,rfl,trivial⟩
  ·have t1:(decide ((j:Int) < (s.ax.length:Int)))=false:=by simpa using dH
   obtain rfl:j=s.ax.length:=by omega
   rw [KD,KJ,show iQ s s.ax.length=s.ax.map fun c=>[bI c.closed] by unfold iQ;rw [List.take_of_length_le (Nat.le_refl _)]]
   repeat (refine gn ?_)
   refine J.dj (L':=.box b1 36 (az s) :: wd bW { u1 with vR:=vR,vC:=vC,TR:=TR,rs:=rs } s) rfl ?_
   (exact J.rP [_] rfl func14 rfl (.cons (.tmp rfl) .nil) ⟨(bW,{ u1 with vR:=vR,vC:=vC,TR:=TR,rs:=rs }),FZ⟩ (by exact .refl) rfl)
end Fl
open Go.RowKit
namespace Fl
open Sx Go.Proofs.Tryz
set_option maxRecDepth 100000
theorem O7 (s:ah) (p:Int) (h:Sx.Good s) (h0:0≤s.step) (h1:s.step≤1000000) :
  Pure prog 60 [.agg (az s),.c (nI p)] (.aY [.agg (az (Sx.one s p).1),.c (bI (Sx.one s p).2)]):=by
 have h':=h.toMInv;have aj:Sx.one s p=Sx.one s p:=rfl
 conv at aj=>rhs;unfold Sx.one;simp only
 refine aq.intro func60 rfl rfl rfl (fun ok e=>?_)
 by_cases a1:p < 0
 ·rw [if_pos (.inl a1)] at aj;rw [aj];have c1:(decide (p < 0))=true:=decide_eq_true a1
  repeat (first | refine aJ c1 ?_ | refine av ?_ | intro _)
  exact aA func60
 have c1:(decide (p < 0))=false:=decide_eq_false a1
 by_cases a2:(s.gs.length:Int)≤p
 ·rw [if_pos (.inr (.inl a2))] at aj;rw [aj];have c2:(decide (p ≥ (s.gs.length:Int)))=true:=decide_eq_true a2
  repeat (first | refine aJ c1 ?_ | refine aJ c2 ?_ | refine av ?_ | intro _)
  exact aA func60
 have c2:(decide (p ≥ (s.gs.length:Int)))=false:=decide_eq_false a2;obtain ⟨g,rfl⟩:∃ g:Nat,p=g:=⟨p.toNat,by omega⟩
 have hg:g < s.gs.length:=by omega
 rw [Int.toNat_natCast] at aj
 by_cases a3:(aa s g).status=0
 ·have c3:((aa s g).status != 0)=false:=by simp [a3]
  rw [ay] at aj;obtain ⟨n,hn⟩:∃ n:ah,{ s with step:=s.step + 1 }=n:=⟨_,rfl⟩
  have gn:Sx.Good n:=by rw [← hn];exact ⟨h'.tick,h.z.of rfl⟩
  have vz:g < n.gs.length:=by rw [← hn];exact hg
  have sn:(aa n g).status=0:=by rw [← hn];exact a3
  have C1:=OS n g (OY gn vz);have C2:=Nv n g (OU gn vz sn);have C3:=NK n g (OV gn vz sn);have C4:=NR n g (OX gn vz);have C5:=Ou n g (O0 gn vz sn);rw [hn] at aj;have en:az n=(az s).set 2 (nI (s.step + 1)):=by rw [← hn];rfl
  rw [en] at C1 C2 C3 C4 C5;clear hn en
  cases k1:(gQ n g).2 with
  | true =>
   rw [if_pos k1] at aj;rw [aj];rw [k1] at C1
   repeat (first | (refine K.indexAddr ?_;refine jx rfl rfl rfl rfl (by omega) (gL hg) ?_) | (refine K.binOp ?_;first | refine aJ c1 ?_ | refine aJ c2 ?_ | refine aJ c3 ?_ | refine jq rfl rfl rfl (Qt.dy rfl rfl rfl (fq (by omega) (by omega))) ?_) | refine aI (C1) ?_ | refine av ?_ | intro _)
   exact aA func60
  | false =>
  rw [if_neg (by rw [k1];simp)] at aj;rw [k1] at C1
  cases k2:(bJ n g).2 with
  | true =>
   rw [if_pos k2] at aj;rw [aj];rw [k2] at C2
   repeat (first | (refine K.indexAddr ?_;refine jx rfl rfl rfl rfl (by omega) (gL hg) ?_) | (refine K.binOp ?_;first | refine aJ c1 ?_ | refine aJ c2 ?_ | refine aJ c3 ?_ | refine jq rfl rfl rfl (Qt.dy rfl rfl rfl (fq (by omega) (by omega))) ?_) | refine aI (C1) ?_ | refine aI (C2) ?_ | refine av ?_ | intro _)
   exact aA func60
  | false =>
  rw [if_neg (by rw [k2];simp)] at aj;rw [k2] at C2
  cases k3:(bF n g).2 with
  | true =>
   rw [if_pos k3] at aj;rw [aj];rw [k3] at C3
   repeat (first | (refine K.indexAddr ?_;refine jx rfl rfl rfl rfl (by omega) (gL hg) ?_) | (refine K.binOp ?_;first | refine aJ c1 ?_ | refine aJ c2 ?_ | refine aJ c3 ?_ | refine jq rfl rfl rfl (Qt.dy rfl rfl rfl (fq (by omega) (by omega))) ?_) | refine aI (C1) ?_ | refine aI (C2) ?_ | refine aI (C3) ?_ | refine av ?_ | intro _)
   exact aA func60
  | false =>
  rw [if_neg (by rw [k3];simp)] at aj;rw [k3] at C3
  cases k4:(dh n g).2 with
  | true =>
   rw [if_pos k4] at aj;rw [aj];rw [k4] at C4
   repeat (first | (refine K.indexAddr ?_;refine jx rfl rfl rfl rfl (by omega) (gL hg) ?_) | (refine K.binOp ?_;first | refine aJ c1 ?_ | refine aJ c2 ?_ | refine aJ c3 ?_ | refine jq rfl rfl rfl (Qt.dy rfl rfl rfl (fq (by omega) (by omega))) ?_) | refine aI (C1) ?_ | refine aI (C2) ?_ | refine aI (C3) ?_ | refine aI (C4) ?_ | refine av ?_ | intro _)
   exact aA func60
  | false =>
  rw [if_neg (by rw [k4];simp)] at aj;rw [k4] at C4
  cases k5:(bk n g).2 with
  | true =>
   rw [if_pos k5] at aj;rw [aj];rw [k5] at C5
   repeat (first | (refine K.indexAddr ?_;refine jx rfl rfl rfl rfl (by omega) (gL hg) ?_) | (refine K.binOp ?_;first | refine aJ c1 ?_ | refine aJ c2 ?_ | refine aJ c3 ?_ | refine jq rfl rfl rfl (Qt.dy rfl rfl rfl (fq (by omega) (by omega))) ?_) | refine aI (C1) ?_ | refine aI (C2) ?_ | refine aI (C3) ?_ | refine aI (C4) ?_ | refine aI (C5) ?_ | refine av ?_ | intro _)
   exact aA func60
  | false =>
   rw [if_neg (by rw [k5];simp)] at aj;rw [aj];rw [k5] at C5
   repeat (first | (refine K.indexAddr ?_;refine jx rfl rfl rfl rfl (by omega) (gL hg) ?_) | (refine K.binOp ?_;first | refine aJ c1 ?_ | refine aJ c2 ?_ | refine aJ c3 ?_ | refine jq rfl rfl rfl (Qt.dy rfl rfl rfl (fq (by omega) (by omega))) ?_) | refine aI (C1) ?_ | refine aI (C2) ?_ | refine aI (C3) ?_ | refine aI (C4) ?_ | refine aI (C5) ?_ | refine av ?_ | intro _)
   exact aA func60
 ·rw [if_pos (.inr (.inr a3))] at aj;rw [aj];have c3:((aa s g).status != 0)=true:=by simp [a3]
  repeat (first | (refine K.indexAddr ?_;refine jx rfl rfl rfl rfl (by omega) (gL hg) ?_) | refine aJ c1 ?_ | refine aJ c2 ?_ | refine aJ c3 ?_ | refine av ?_ | intro _)
  exact aA func60
end Fl
open Go.RowKit
namespace Fl
open Sx Go.Proofs.Tryz
set_option maxRecDepth 100000
def nC (s:ah) (k:Nat):List Int:=((List.range k).filter (fun g=>decide ((aa s g).status=0))).map Int.ofNat
theorem F0 (s:ah) (k:Nat):nC s (k + 1)=nC s k ++ (if (aa s k).status=0 then [(k:Int)] else []):=by
 unfold nC;rw [List.range_succ,List.filter_append,List.map_append]
 congr 1
 by_cases c:(aa s k).status=0 <;> simp [c]
theorem F6 (s:ah) (k:Nat):(nC s k).length≤k:=by
 unfold nC;rw [List.length_map];have:=List.length_filter_le (fun g=>decide ((aa s g).status=0)) (List.range k);simpa using this
theorem O8 (s:ah) (hb:s.gs.length≤100000) :
  Pure prog 26 [.agg (az s)] (.c (ints (Sx.running s))):=by
 refine aq.intro func26 rfl rfl rfl (fun ok e=>?_)
 repeat (first | refine av ?_ | intro _)
 rename_i b1 b2;refine J.loop (ι:={ p:Nat × Value // p.1≤s.gs.length }) (fun p=>[(8,.c (.r 25 (s.gs.map eG))),(9,.c (nI s.gs.length)),(10,.c (nI p.1.1)),(3,.c (.v p.1.2))]) (fun p=>[.row p.1.2 3 1 ((nC s p.1.1).map fun n=>[nI n]),.box b1 36 (az s)]) (fun p=>s.gs.length - p.1.1) ⟨(0,.slice (some ⟨b2,0,none⟩) 0 0),Nat.zero_le _⟩ (fun X h=>h.aQ ⟨rfl,rfl,rfl,rfl,trivial⟩) (fun p ih=>?_);obtain ⟨⟨k,v⟩,vw⟩:=p;simp only at vw ih ⊢
 by_cases hk:k < s.gs.length
 ·have h1:(decide ((k:Int) < (s.gs.length:Int)))=true:=by simpa using hk
  have hl:=F6 s k
  cases hs:((aa s k).status == 0) with
  | true =>
   have e1:(nC s (k + 1)).map (fun n=>[nI n])=(nC s k).map (fun n=>[nI n]) ++ [[nI k]]:=by
    rw [F0,if_pos (by simpa using hs)];simp
   repeat (first | (refine K.store ?_;refine JO.ld (Ld.aT rfl rfl rfl (by exact rfl) (by exact rfl)) rfl (fun _=>?_)) | (refine K.bi ?_;refine JO.ld (Ld.bH (qb rfl) rfl rfl .bV (by (simp;omega))) rfl (fun _=>?_)) | refine av ?_ | intro _)
   rename_i b3 b4 v2;refine J.eI 1 ?_;refine J.eI 1 ?_;refine J.dj ?_ ((ih ⟨(k + 1,v2),by simp only;omega⟩ (by simp only;omega)).aQ ⟨rfl,rfl,rfl,rfl,trivial⟩);simp only [e1]
  | false =>
   have e1:(nC s (k + 1))=(nC s k):=by
    rw [F0,if_neg (by simpa using hs)];simp
   repeat (first | (refine K.store ?_;refine JO.ld (Ld.aT rfl rfl rfl (by exact rfl) (by exact rfl)) rfl (fun _=>?_)) | refine av ?_ | intro _)
   refine J.eI 0 ?_;refine J.dj ?_ ((ih ⟨(k + 1,v),by simp only;omega⟩ (by simp only;omega)).aQ ⟨rfl,rfl,rfl,rfl,trivial⟩);simp only [e1]
 ·have h1:(decide ((k:Int) < (s.gs.length:Int)))=false:=by simpa using hk
  obtain rfl:k=s.gs.length:=by omega
  repeat (refine gn ?_)
  refine J.gG 2 rfl ?_;refine J.ret func26 rfl (.cons (.tmp rfl) .nil) () (.of_eq ?_) [] .nil rfl rfl;rfl
theorem F7 {p n:Int} (h:0 < n):(p.tmod n + n).tmod n=p % n:=by
 have h2:=Int.lt_tmod_of_pos p h;rw [Int.tmod_eq_emod_of_nonneg (show 0≤p.tmod n + n by omega),Int.add_emod_right,Int.tmod_def,Int.sub_mul_emod_self_left]
theorem O9 (s:ah) {i:Int} (h0:0≤i) (h1:i < (Sx.running s).length):((Sx.running s).map fun n=>[nI n])[i.toNat]?=some [nI (aB (Sx.running s) i)]:=by
 refine at_map ?_;have:i.toNat < (Sx.running s).length:=by omega
 rw [List.getElem?_eq_getElem this];unfold aB;rw [List.getD_eq_getElem?_getD,List.getElem?_eq_getElem this];rfl
theorem Pa (s:ah) (p:Int) (hb:s.gs.length≤100000) :
  Pure prog 59 [.agg (az s),.c (nI p)] (.c (nI (Sx.pick s p))):=by
 have C1:=O8 s hb;have aj:Sx.pick s p=Sx.pick s p:=rfl
 conv at aj=>rhs;unfold Sx.pick
 have hl:(Sx.running s).length≤s.gs.length:=F6 s _;refine aq.intro func59 rfl rfl rfl (fun ok e=>?_)
 by_cases c:(Sx.running s).length=0
 ·rw [if_pos c] at aj;rw [aj];have c1:(((Sx.running s).length:Int) == 0)=true:=by simp [c]
  repeat (first | refine av ?_ | intro _)
  exact aA func59
 ·rw [if_neg c] at aj;rw [aj];have c1:(((Sx.running s).length:Int) == 0)=false:=by simp;simpa using c
  obtain ⟨n,hn⟩:∃ n:Int,((Sx.running s).length:Int)=n:=⟨_,rfl⟩
  have n0:0 < n:=by omega
  have m0:=Int.emod_nonneg p (show n≠0 by omega);have m1:=Int.emod_lt_of_pos p n0;have t1:-n < p.tmod n∧p.tmod n < n:=by
   have:=Int.natAbs_tmod p n;have h2:=Int.lt_tmod_of_pos p n0;have h3:=Int.tmod_lt_of_pos p n0;omega
  have w1:IntKind.i64.wrap (p.tmod n + n)=p.tmod n + n:=fq (by omega) (by omega);rw [hn];rw [hn] at c1;have A:=O9 s m0 (by rw [hn];exact m1);have m2:0≤(p.tmod n + n).tmod n:=by rw [F7 n0];exact m0
  have A2:((Sx.running s).map fun n=>[nI n])[((p.tmod n + n).tmod n).toNat]?=some [nI (aB (Sx.running s) (p % n))]:=by rw [F7 n0];exact A
  repeat (first | (refine K.indexAddr ?_;refine jq rfl rfl rfl (Qt.cE rfl rfl m2 A2) ?_) | (refine K.binOp ?_;first | refine jq rfl rfl rfl (Qt.rem rfl rfl (by omega) rfl) ?_ | refine jq rfl rfl rfl (Qt.dy rfl rfl rfl w1) ?_) | (refine K.bi ?_;refine jq rfl rfl rfl (((Qt.rA rfl).eq (congrArg (fun x=>D.c (nI x)) hn))) ?_) | refine av ?_ | intro _)
  exact aA func59
theorem Pb (s:ah) (l:List Int) {k:Nat} {p:Int} (hp:l[k]?=some p) (h:(Sx.runs s (l.take k)).2=k):Sx.runs s (l.take (k + 1))=if Sx.pick (Sx.runs s (l.take k)).1 p < 0 then ((Sx.runs s (l.take k)).1,(k:Int)) else ((Sx.one (Sx.runs s (l.take k)).1 (Sx.pick (Sx.runs s (l.take k)).1 p)).1,(k:Int) + 1):=by
 have key:∀ (m:List Int) (s:ah),(Sx.runs s m).2=m.length→Sx.runs s (m ++ [p])=if Sx.pick (Sx.runs s m).1 p < 0 then ((Sx.runs s m).1,(m.length:Int)) else ((Sx.one (Sx.runs s m).1 (Sx.pick (Sx.runs s m).1 p)).1,(m.length:Int) + 1):=by
  intro m
  induction m with
  | nil =>
   intro s _;rfl
  | cons q m ih =>
   intro s hm;rw [List.cons_append];unfold Sx.runs at hm ⊢
   by_cases c:Sx.pick s q < 0
   ·rw [if_pos c] at hm;simp at hm;omega
   ·rw [if_neg c] at hm ⊢;rw [if_neg c];have:=ih (Sx.one s (Sx.pick s q)).1 (by simp at hm;omega);rw [this];simp only [List.length_cons]
    split <;> simp <;> omega
 have hk:=(List.getElem?_eq_some_iff.1 hp).1;rw [take_one hp,key (l.take k) s (by rw [h];simp;omega)];simp [Nat.min_eq_left (Nat.le_of_lt hk)]
theorem Pc (s:ah) (l:List Int) {k:Nat} (h:(Sx.runs s (l.take k)).2 < k) (hk:k≤l.length):Sx.runs s l=Sx.runs s (l.take k):=by
 have key:∀ (m r:List Int) (s:ah),(Sx.runs s m).2 < m.length→Sx.runs s (m ++ r)=Sx.runs s m:=by
  intro m r
  induction m with
  | nil=>intro s h;simp [Sx.runs] at h
  | cons q m ih =>
   intro s hm;rw [List.cons_append];unfold Sx.runs at hm ⊢
   by_cases c:Sx.pick s q < 0
   ·rw [if_pos c,if_pos c]
   ·rw [if_neg c] at hm;rw [if_neg c,if_neg c,ih _ (by simp at hm;omega)]
 have:=key (l.take k) (l.drop k) s (by simp;omega)
 rwa [List.take_append_drop] at this
theorem Pd (s:ah) (l:List Int) (h:Sx.Good s) (h0:0≤s.step) (h1:s.step≤500000) (hl:l.length≤500000) :
  Pure prog 20 [.agg (az s),.c (ints l)] (.aY [.agg (az (Sx.runs s l).1),.c (nI (Sx.runs s l).2)]):=by
 refine aq.intro func20 rfl rfl rfl (fun ok e=>?_)
 repeat (first | refine av ?_ | intro _)
 rename_i b2 b4;refine J.loop (ι:={ k:Nat // k≤l.length∧(Sx.runs s (l.take k)).2=k }) (fun p=>[(9,.c (ints l)),(10,.c (nI l.length)),(11,.c (nI p.1)),(1,.c (ints l)),(2,.c (.v (.pointer (some ⟨b2,0,none⟩)))),(4,.c (.v (.pointer (some ⟨b4,0,none⟩))))]) (fun p=>[.box b4 36 kK,.box b2 36 (az (Sx.runs s (l.take p.1)).1)]) (fun p=>l.length - p.1) ⟨0,Nat.zero_le _,rfl⟩ (fun X h=>h.aQ ⟨rfl,rfl,rfl,rfl,rfl,rfl,trivial⟩) (fun p ih=>?_);obtain ⟨k,vw,aV⟩:=p;simp only at ih ⊢;have uH:=h.runs (l.take k);have lU:=Kt (l.take k) s;rw [List.length_take,Nat.min_eq_left vw] at lU
 by_cases hk:k < l.length
 ·obtain ⟨y,hy⟩:∃ y,l[k]?=some y:=⟨_,List.getElem?_eq_getElem hk⟩
  have c1:(decide ((k:Int) < (l.length:Int)))=true:=by simpa using hk
  have rt:=Pb s l hy aV;have C1:=Pa (Sx.runs s (l.take k)).1 y (by have:=uH.n8;omega);have C2:=O7 (Sx.runs s (l.take k)).1 (Sx.pick (Sx.runs s (l.take k)).1 y) uH (by omega) (by omega)
  by_cases c:Sx.pick (Sx.runs s (l.take k)).1 y < 0
  ·have c2:(decide (Sx.pick (Sx.runs s (l.take k)).1 y < 0))=true:=decide_eq_true c;rw [if_pos c] at rt;have es:Sx.runs s l=Sx.runs s (l.take (k + 1)):=Pc s l (by rw [rt];simp;omega) hk;rw [rt] at es;rw [es]
   repeat (first | (refine K.store ?_;refine JO.ld (Ld.aT rfl rfl rfl (by exact rfl) (by exact rfl)) rfl (fun _=>?_)) | refine gn ?_)
   exact aA func20
  ·have c2:(decide (Sx.pick (Sx.runs s (l.take k)).1 y < 0))=false:=decide_eq_false c;rw [if_neg c] at rt
   repeat (first | (refine K.store ?_;refine JO.ld (Ld.aT rfl rfl rfl (by exact rfl) (by exact rfl)) rfl (fun _=>?_)) | refine gn ?_)
   refine J.dj ?_ ((ih ⟨k + 1,hk,by rw [rt];simp⟩ (by simp only;omega)).aQ ⟨rfl,rfl,rfl,rfl,rfl,rfl,trivial⟩);simp only [rt]
 ·obtain rfl:k=l.length:=by omega
  have c1:(decide ((l.length:Int) < (l.length:Int)))=false:=by simp
  rw [List.take_length] at *
  repeat (first | (refine K.store ?_;refine JO.ld (Ld.aT rfl rfl rfl (by exact rfl) (by exact rfl)) rfl (fun _=>?_)) | refine gn ?_)
  (refine J.ret func20 rfl (.cons (.cell 0 rfl rfl rfl) (.cons (.tmp rfl) .nil)) () (.of_eq ?_) [] .nil rfl rfl)
  rw [aV];rfl
end Fl
end Go.Proofs.YtgjpdogjekmemaaGreat
