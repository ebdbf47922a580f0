/-
  What the laws need, part A44.
  Conditions: none.
-/
import Derived.Test.YtofnbflkhgammaaGreatA43
set_option linter.unusedVariables false
set_option linter.unusedSimpArgs false
set_option linter.unnecessarySimpa false
set_option maxHeartbeats 2000000
namespace Go.Proofs.YtofnbflkhgammaaGreat
open Go.RowKit
namespace Fl
open Sx
set_option maxRecDepth 100000
structure Gn (s:Sx.St):Prop extends Fw s where
 qs:Qs s
 st:∀ g:Nat,g < s.gs.length→0≤(Sx.gr s g).status∧(Sx.gr s g).status≤2
 lk:∀ k:Nat,k < s.an.length→(cn s ((k:Int) + 1)).lock=-1∨0≤(cn s ((k:Int) + 1)).lock
 YP:∀ k:Nat,k < s.an.length→0≤(cn s ((k:Int) + 1)).cap∧(cn s ((k:Int) + 1)).cap≤64∧(((cn s ((k:Int) + 1)).buf.length:Nat):Int)≤(cn s ((k:Int) + 1)).cap
 ql:∀ k:Nat,k < s.an.length→(cn s ((k:Int) + 1)).recv.length≤1000∧(cn s ((k:Int) + 1)).send.length≤1000
 sN:0≤s.dB
 cN:0≤s.bN
 po:Po.of s.dB.toNat s.bN.toNat s.fresh.toNat s.cache s.middle=true
 pi:∀ H,Po.settle s.fresh.toNat (List.replicate s.dB.toNat false) (s.cache.flatten ++ s.middle)=(H,true)→Po.Inv s.dB.toNat s.bN.toNat ⟨s.cache,s.middle,s.fresh.toNat,H⟩
 d0:0≤s.drawn
 d1:s.drawn≤s.cL.length
theorem YQ {u u':U} {s:Sx.St} {k:Nat} {v w:Value} (e1:u'.sg k=v) (e2:u'.wk k=w) (h:∀ j,j < k→u'.sg j=u.sg j∧u'.wk j=u.wk j) :
  (tu u' s (k + 1)).Perm (.row w 3 1 (di (Sx.gr s k).ah) :: .row v 3 1 (di (Sx.gr s k).ak) :: tu u s k):=by
 have h1:((List.range (k + 1)).map fun g=>ai.row (u'.sg g) 3 1 (di (Sx.gr s g).ak))=((List.range k).map fun g=>ai.row (u.sg g) 3 1 (di (Sx.gr s g).ak)) ++ [.row v 3 1 (di (Sx.gr s k).ak)]:=(zf (by rw [e1]) fun j hj=>by rw [(h j hj).1]).symm;have h2:((List.range (k + 1)).map fun g=>ai.row (u'.wk g) 3 1 (di (Sx.gr s g).ah))=((List.range k).map fun g=>ai.row (u.wk g) 3 1 (di (Sx.gr s g).ah)) ++ [.row w 3 1 (di (Sx.gr s k).ah)]:=(zf (by rw [e2]) fun j hj=>by rw [(h j hj).2]).symm;unfold tu;rw [h1,h2];generalize ((List.range k).map fun g=>ai.row (u.sg g) 3 1 (di (Sx.gr s g).ak))=A;generalize ((List.range k).map fun g=>ai.row (u.wk g) 3 1 (di (Sx.gr s g).ah))=B;rw [← List.append_assoc];refine (List.perm_append_comm (l₁:=A ++ [_] ++ B) (l₂:=[_])).trans ?_;refine List.Perm.cons _ ?_;rw [List.append_assoc];exact List.perm_middle
abbrev uG (u:U) (k:Nat) (x:Value × Value × Value):U:={ u with vG:=x.1,sg:=fun i=>if i=k then x.2.1 else u.sg i,wk:=fun i=>if i=k then x.2.2 else u.wk i }
theorem YR (u:U) (s:Sx.St) (k:Nat) (x:Value × Value × Value):rO u s k ++ [gW (Sx.gr s k) x.2.1 x.2.2]=rO (uG u k x) s (k + 1) :=
 zf (by simp) fun j hj=>by have:j≠k:=(by omega);simp [this]
theorem Cm (s:Sx.St) (h:Gn s) :
  aq Tryz.prog 16 [.agg (ay s)] [] (fun x:{ x:Nat × U // dH x.2 s }=>(.c (.v (pt x.1.1)),wd x.1.1 x.1.2 s)):=by
 have g8:=h.gs;have c8:=h.ch;have iJ:=h.su;have dn:=h.dn;have dr:=h.dr;have d0:=h.d0;have d1:=h.d1;have fr:=h.fr;have sN:=h.sN;have cN:=h.cN;have CB:=Jr (s.gs.length:Int);rw [UA g8] at CB;have CL:=Jt (s.an.length:Int);rw [UD c8] at CL;have CD:=JG s.cL dr;have CQ:=Jx s.aB.length 16 iJ (by omega);rw [UH (s:=s)] at CQ;have CP:=WB s.dB.toNat s.bN.toNat s.fresh.toNat s.cache s.middle h.mb h.cb h.po;rw [show ((s.dB.toNat:Nat):Int)=s.dB by omega,show ((s.bN.toNat:Nat):Int)=s.bN by omega,show ((s.fresh.toNat:Nat):Int)=s.fresh by omega] at CP;refine aq.intro Tryz.func16 rfl rfl rfl (fun ok e=>?_)
 repeat (first | refine au ?_ | intro _)
 refine J.draw (by kernel_rfl) rfl ?_;refine JW.base none ?_;refine tk 0 ?_;refine tk 1 ?_;refine tk 2 ?_;refine tk 3 ?_;refine tk 4 ?_;refine tk 5 ?_;refine tk 6 ?_;refine tk 8 ?_;refine tk 9 ?_;refine tk 10 ?_;refine tk 12 ?_;refine tk 13 ?_;refine tk 15 ?_;refine tk 16 ?_;refine tk 18 ?_;refine tk 19 ?_;refine tk 21 ?_;refine tk 22 ?_;refine jl 7 rfl rfl rfl rfl (Ld.kr CB (qb rfl) rfl (.cons .refl .nil)) .none (fun _=>?_);refine jl 11 rfl rfl rfl rfl (Ld.kr CL (qb rfl) rfl (.cons .refl .nil)) .none (fun _=>?_);refine jl 14 rfl rfl rfl rfl (Ld.xy (qb rfl) rfl rfl .read (by (simp;omega))) .none (fun _=>?_);refine jl 17 rfl rfl rfl rfl (Ld.kr CD (qb rfl) rfl (.cons .refl .nil)) .none (fun _=>?_);refine jl 20 rfl rfl rfl rfl (Ld.gE (qb rfl) rfl rfl .read (by (simp;omega))) .none (fun _=>?_);refine jl 23 rfl rfl rfl rfl (Ld.xy (qb rfl) rfl rfl .read (by (simp;omega))) .none (fun _=>?_);refine jk 24 rfl rfl rfl rfl (Qt.build rfl (by kernel_rfl)) ?_;refine jl 25 rfl rfl rfl rfl (Ld.box (qb rfl) rfl rfl) .none (fun _=>?_);refine jk 26 rfl rfl rfl rfl (Qt.assign rfl) ?_;refine bH ?_;rename_i b1 xB xL vS bD _ vM bW
 repeat (first | (refine K.store ?_;refine JO.ld (Ld.cG rfl rfl (by exact rfl)) rfl (fun _=>?_)) | (refine K.call ?_;first | (refine JO.ld (Ld.kr CQ (qb rfl) rfl (.cons .refl (.cons .refl .nil))) rfl ?_;intro xQ) | (refine JO.ld (Ld.kr CP (qb rfl) rfl (.cons .refl (.cons .refl (.cons .refl (.cons .refl (.cons .refl .nil)))))) rfl ?_;intro xP)) | refine gn ?_)
 have CS:=SC bD s.cL s.drawn d0 d1 dr;refine J.draw (by kernel_rfl) rfl ?_;refine JW.iR [4] none ?_;refine tk 0 ?_;refine tk 1 ?_;refine tk 2 ?_;refine tk 3 ?_;refine tk 4 ?_;refine tk 5 ?_;refine jl 6 rfl rfl rfl rfl (Ld.ep CS (qb rfl) rfl (.cons .refl (.cons .refl .nil))) (.mz rfl) (fun _=>?_);refine bH ?_;refine J.jJ 47 25 ?_;refine J.jJ 110 1 ?_;refine J.jJ 4 1 ?_;refine J.LZ (Φ:=tR []) tR.ok tR.none ?_;obtain ⟨u0,qw⟩:∃ u:U,u=⟨.slice none 0 0,xB.1,.slice none 0 0,.slice none 0 0,xL.1,xQ.1,vS,xP.1.1,bD,vM,xB.2,xL.2,xQ.2,xP.1.2.1,[],xP.1.2.2,fun _=>.slice none 0 0,fun _=>.slice none 0 0,fun _=>.slice none 0 0⟩:=⟨_,rfl⟩
 have YS:dH u0 s:=by rw [qw];exact h.pi _ (by rw [show ((s.fresh.toNat:Nat):Int)=s.fresh by omega];exact xP.2)
 have hv:u0.vG=.slice none 0 0∧u0.vR=.slice none 0 0∧u0.vC=.slice none 0 0:=by rw [qw];exact ⟨rfl,rfl,rfl⟩
 refine J.perm (L2:=.box b1 36 (ay s) :: wo bW u0 s (rO u0 s 0) (bK s 0) (lF u0 0) (jN s 0) (lK s 0) (qK s 0 0 0) (pe u0 s 0) (tu u0 s 0)) ?_ ?_
 ·subst qw
  repeat (first | exact List.Perm.refl _ | refine bt 0 rfl rfl ?_ | refine bt 1 rfl rfl ?_ | refine bt 2 rfl rfl ?_ | refine bt 3 rfl rfl ?_ | refine bt 4 rfl rfl ?_ | refine bt 5 rfl rfl ?_ | refine bt 6 rfl rfl ?_ | refine bt 7 rfl rfl ?_ | refine bt 8 rfl rfl ?_ | refine bt 9 rfl rfl ?_ | refine bt 10 rfl rfl ?_ | refine bt 11 rfl rfl ?_ | refine bt 12 rfl rfl ?_)
 clear qw
 repeat (refine gn ?_)
 refine J.loop (ι:={ q:Nat × Value × (Nat→Value) × (Nat→Value) // q.1≤s.gs.length }) (fun q=>[(73,.c (nI q.1.1)),(72,.c (nI s.gs.length)),(71,.c (.r 25 (s.gs.map eG))),(3,.c (.v (pt bW))),(1,.c (.v (pt b1)))]) (fun q=>.box b1 36 (ay s) :: wo bW { u0 with vG:=q.1.2.1,sg:=q.1.2.2.1,wk:=q.1.2.2.2 } s (rO { u0 with vG:=q.1.2.1,sg:=q.1.2.2.1,wk:=q.1.2.2.2 } s q.1.1) (bK s q.1.1) (lF u0 0) (jN s 0) (lK s 0) (qK s 0 0 0) (pe u0 s 0) (tu { u0 with vG:=q.1.2.1,sg:=q.1.2.2.1,wk:=q.1.2.2.2 } s q.1.1)) (fun q=>s.gs.length - q.1.1) ⟨(0,u0.vG,u0.sg,u0.wk),Nat.zero_le _⟩ (fun X h=>h.aU ⟨rfl,rfl,rfl,rfl,rfl,trivial⟩) (fun q ih=>?_);obtain ⟨⟨k,vG,sg,wk⟩,hk⟩:=q;simp only at hk ih ⊢
 by_cases aR:k < s.gs.length
 ·have t1:(decide ((k:Int) < (s.gs.length:Int)))=true:=by simpa using aR
  have hx:s.gs[k]?=some (Sx.gr s k):=by unfold Sx.gr;rw [List.getD_eq_getElem?_getD,List.getElem?_eq_getElem aR];rfl
  have hm:=List.mem_of_getElem? hx;obtain ⟨o1,o2⟩:=h.op _ hm;obtain ⟨o3,o4,o5,o6⟩:=h.JI _ hm;have BS:=Sb u0.pB (bK s k) u0.TB (k:Int) (Sx.gr s k).status (Sx.gr s k).token;rw [Uz aR (h.st k aR)] at BS;have CG:=WI (Sx.gr s k) o1 o2 o3 o4 o5 o6;have gl:(rO { u0 with vG:=vG,sg:=sg,wk:=wk } s k).length≤8:=by simp [rO];omega
  repeat (first | (refine K.store ?_;refine JO.ld (Ld.aP rfl rfl rfl (by exact rfl) (by exact rfl)) rfl (fun _=>?_)) | refine au ?_ | intro _)
  refine J.draw (by kernel_rfl) rfl ?_;refine JW.iR [9] none ?_;refine tk 0 ?_;refine tk 1 ?_;refine tk 2 ?_;refine tk 3 ?_;refine tk 4 ?_;refine tk 5 ?_;refine tk 6 ?_;refine tk 7 ?_;refine tk 8 ?_;refine jl 9 rfl rfl rfl rfl (Ld.ep BS (qb rfl) rfl (.cons .refl (.cons .refl (.cons .refl (.cons .refl .nil))))) (.iH rfl) (fun _=>?_);refine bH ?_
  repeat (first | (refine K.store ?_;first | refine JO.ld (Ld.aP rfl rfl rfl (by exact rfl) (by exact rfl)) rfl (fun _=>?_) | refine JO.ld (Ld.cG rfl rfl (by exact rfl)) rfl (fun _=>?_)) | (refine K.call ?_;refine JO.ld (Ld.WH CG (qb rfl) rfl (.cons .refl .nil)) rfl ?_;intro x) | refine gn ?_)
  refine J.draw (by kernel_rfl) rfl ?_;refine JW.iR [5] (some 10) ?_;refine tk 0 ?_;refine tk 1 ?_;refine tk 2 ?_;refine tk 3 ?_;refine tk 4 ?_;refine tk 5 ?_;refine jl 6 rfl rfl rfl rfl (Ld.nt (qb rfl) rfl rfl rfl rfl rfl) .none (fun _=>?_);refine jl 7 rfl rfl rfl rfl (Ld.bY (qb rfl) rfl rfl .read (by (simp;omega))) (.tS rfl) (fun _=>?_);refine jk 8 rfl rfl rfl rfl (Qt.nilCheck rfl rfl) ?_;refine jk 9 rfl rfl rfl rfl (Qt.fieldAddr rfl rfl) ?_;refine jt 10 rfl rfl (Ld.cG rfl rfl (by exact rfl)) (fun _=>?_);refine bJ ?_
  repeat (refine gn ?_)
  rename_i b5 _ _ _ _ _ _ wH _;refine J.eF 3 ?_;refine J.perm (L2:=.box b1 36 (ay s) :: wo bW (uG { u0 with vG:=vG,sg:=sg,wk:=wk } k (wH,x)) s (rO (uG { u0 with vG:=vG,sg:=sg,wk:=wk } k (wH,x)) s (k + 1)) (bK s (k + 1)) (lF u0 0) (jN s 0) (lK s 0) (qK s 0 0 0) (pe u0 s 0) (tu (uG { u0 with vG:=vG,sg:=sg,wk:=wk } k (wH,x)) s (k + 1))) ?_ ?_
  ·rw [← YR]
   repeat (first | refine bt 0 rfl rfl ?_ | refine bt 1 rfl rfl ?_ | refine bt 2 rfl rfl ?_ | refine bt 3 rfl rfl ?_ | refine bt 4 rfl rfl ?_)
   exact YQ (u:={ u0 with vG:=vG,sg:=sg,wk:=wk }) (if_pos rfl) (if_pos rfl) fun j hj=>⟨if_neg (by omega),if_neg (by omega)⟩
  ·exact (ih ⟨(k + 1,wH,(uG { u0 with vG:=vG,sg:=sg,wk:=wk } k (wH,x)).sg,(uG { u0 with vG:=vG,sg:=sg,wk:=wk } k (wH,x)).wk),by simp only;omega⟩ (by simp only;omega)).aU ⟨rfl,rfl,rfl,rfl,rfl,trivial⟩
 ·have t1:(decide ((k:Int) < (s.gs.length:Int)))=false:=by simpa using aR
  obtain rfl:k=s.gs.length:=by omega
  rw [UB]
  repeat (refine gn ?_)
  have Nl:dH { u0 with vG:=vG,sg:=sg,wk:=wk } s:=YS;generalize Cl:({ u0 with vG:=vG,sg:=sg,wk:=wk }:U)=u1 at Nl ⊢;refine J.loop (ι:={ q:Nat × Value × Value × List Nat × (Nat→Value) // q.1≤s.an.length }) (fun q=>[(106,.c (nI q.1.1)),(105,.c (nI s.an.length)),(104,.c (.r 6 (s.an.map eC))),(3,.c (.v (pt bW))),(1,.c (.v (pt b1)))]) (fun q=>.box b1 36 (ay s) :: wo bW { u1 with vR:=q.1.2.1,vC:=q.1.2.2.1,TR:=q.1.2.2.2.1,rs:=q.1.2.2.2.2 } s (rO u1 s s.gs.length) (s.gs.map fun x=>(x.status,x.token)) (lF { u1 with vR:=q.1.2.1,vC:=q.1.2.2.1,TR:=q.1.2.2.2.1,rs:=q.1.2.2.2.2 } q.1.1) (jN s q.1.1) (lK s q.1.1) (qK s q.1.1 0 0) (pe { u1 with vR:=q.1.2.1,vC:=q.1.2.2.1,TR:=q.1.2.2.2.1,rs:=q.1.2.2.2.2 } s q.1.1) (tu u1 s s.gs.length)) (fun q=>s.an.length - q.1.1) ⟨(0,u1.vR,u1.vC,u1.TR,u1.rs),Nat.zero_le _⟩ (fun X h=>?_) (fun q kL=>?_)
  ·exact h.aU ⟨rfl,rfl,rfl,rfl,rfl,trivial⟩
  obtain ⟨⟨j,vR,vC,TR,rs⟩,hj⟩:=q;simp only at hj kL ⊢
  by_cases eW:j < s.an.length
  ·have t1:(decide ((j:Int) < (s.an.length:Int)))=true:=by simpa using eW
   have hx:(s.an.map eC)[((j:Int)).toNat]?=some (eC (cn s ((j:Int) + 1))):=by rw [Int.toNat_natCast,List.getElem?_map,oM eW];rfl
   have CA:=WM bW { u1 with vR:=vR,vC:=vC,TR:=TR,rs:=rs } s j (rO u1 s s.gs.length) (s.gs.map fun x=>(x.status,x.token)) (tu u1 s s.gs.length) eW h.qs (h.YP j eW) (h.lk j eW) (h.ql j eW).1 (h.ql j eW).2
   repeat (first | (refine K.store ?_;refine JO.ld (Ld.aP rfl rfl rfl (by exact rfl) (by exact rfl)) rfl (fun _=>?_)) | (refine K.call ?_;refine JO.ld (Ld.bU CA (qb rfl) rfl (.cons .refl (.cons .refl (.cons .refl .nil)))) rfl ?_;intro x) | refine au ?_ | intro _)
   refine J.eF 0 ?_;exact (kL ⟨(j + 1,x.2.1,x.2.2.1,TR ++ x.2.2.2,fun i=>if i=j then x.1 else rs i),by simp only;omega⟩ (by simp only;omega)).aU ⟨rfl,rfl,rfl,rfl,rfl,trivial⟩
  ·have t1:(decide ((j:Int) < (s.an.length:Int)))=false:=by simpa using eW
   obtain rfl:j=s.an.length:=by omega
   rw [UE,UJ,show jN s s.an.length=s.an.map fun c=>[bI c.closed] by unfold jN;rw [List.take_of_length_le (Nat.le_refl _)]]
   repeat (refine gn ?_)
   refine J.dZ (L':=.box b1 36 (ay s) :: wd bW { u1 with vR:=vR,vC:=vC,TR:=TR,rs:=rs } s) rfl ?_
   (exact J.nQ [_] rfl Tryz.func16 rfl (.cons (.tmp rfl) .nil) ⟨(bW,{ u1 with vR:=vR,vC:=vC,TR:=TR,rs:=rs }),Nl⟩ (by exact .refl) rfl)
end Fl
end Go.Proofs.YtofnbflkhgammaaGreat
