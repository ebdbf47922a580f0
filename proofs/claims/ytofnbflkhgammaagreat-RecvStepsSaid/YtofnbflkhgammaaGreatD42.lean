/-
  What the laws need, part D42.
  Conditions: none.
-/
import Derived.Test.YtofnbflkhgammaaGreatD41
set_option linter.unusedVariables false
set_option linter.unusedSimpArgs false
set_option linter.unnecessarySimpa false
set_option maxHeartbeats 2000000
namespace Go.Proofs.YtofnbflkhgammaaGreat
open Go.RowKit
namespace Fl
open Sx Go.Proofs.Tryz
set_option maxRecDepth 100000
structure Ho (s:ah):Prop extends Fw s where
 qs:Qs s
 st:∀ g:Nat,g < s.gs.length→0≤(aa s g).status∧(aa s g).status≤2
 lk:∀ k:Nat,k < s.au.length→(cn s ((k:Int) + 1)).lock=-1∨0≤(cn s ((k:Int) + 1)).lock
 Zh:∀ k:Nat,k < s.au.length→0≤(cn s ((k:Int) + 1)).cap∧(cn s ((k:Int) + 1)).cap≤64∧(((cn s ((k:Int) + 1)).buf.length:Nat):Int)≤(cn s ((k:Int) + 1)).cap
 ql:∀ k:Nat,k < s.au.length→(cn s ((k:Int) + 1)).recv.length≤1000∧(cn s ((k:Int) + 1)).send.length≤1000
 sN:0≤s.cV
 cN:0≤s.bN
 po:Po.of s.cV.toNat s.bN.toNat s.fresh.toNat s.cache s.middle=true
 pi:∀ H,Po.settle s.fresh.toNat (List.replicate s.cV.toNat false) (s.cache.flatten ++ s.middle)=(H,true)→Po.Inv s.cV.toNat s.bN.toNat ⟨s.cache,s.middle,s.fresh.toNat,H⟩
 d0:0≤s.drawn
 d1:s.drawn≤s.cG.length
theorem Zi {u u':U} {s:ah} {k:Nat} {v w:Value} (e1:u'.sg k=v) (e2:u'.wk k=w) (h:∀ j,j < k→u'.sg j=u.sg j∧u'.wk j=u.wk j) :
  (uf u' s (k + 1)).Perm (.row w 3 1 (dI (aa s k).an) :: .row v 3 1 (dI (aa s k).ay) :: uf u s k):=by
 have h1:((List.range (k + 1)).map fun g=>ak.row (u'.sg g) 3 1 (dI (aa s g).ay))=((List.range k).map fun g=>ak.row (u.sg g) 3 1 (dI (aa s g).ay)) ++ [.row v 3 1 (dI (aa s k).ay)]:=(Aq (by rw [e1]) fun j hj=>by rw [(h j hj).1]).symm;have h2:((List.range (k + 1)).map fun g=>ak.row (u'.wk g) 3 1 (dI (aa s g).an))=((List.range k).map fun g=>ak.row (u.wk g) 3 1 (dI (aa s g).an)) ++ [.row w 3 1 (dI (aa s k).an)]:=(Aq (by rw [e2]) fun j hj=>by rw [(h j hj).2]).symm;unfold uf;rw [h1,h2];generalize ((List.range k).map fun g=>ak.row (u.sg g) 3 1 (dI (aa s g).ay))=A;generalize ((List.range k).map fun g=>ak.row (u.wk g) 3 1 (dI (aa s g).an))=B;rw [← List.append_assoc];refine (List.perm_append_comm (l₁:=A ++ [_] ++ B) (l₂:=[_])).trans ?_;refine List.Perm.cons _ ?_;rw [List.append_assoc];exact List.perm_middle
abbrev uG (u:U) (k:Nat) (x:Value × Value × Value):U:={ u with vG:=x.1,sg:=fun i=>if i=k then x.2.1 else u.sg i,wk:=fun i=>if i=k then x.2.2 else u.wk i }
theorem Zj (u:U) (s:ah) (k:Nat) (x:Value × Value × Value):sQ u s k ++ [gW (aa s k) x.2.1 x.2.2]=sQ (uG u k x) s (k + 1) :=
 Aq (by simp) fun j hj=>by have:j≠k:=(by omega);simp [this]
theorem Dm (s:ah) (h:Ho s) :
  ax prog 16 [.agg (az s)] [] (fun x:{ x:Nat × U // dG x.2 s }=>(.c (.v (pt x.1.1)),wd x.1.1 x.1.2 s)):=by
 have g8:=h.gs;have c8:=h.ch;have kJ:=h.su;have dn:=h.dn;have dr:=h.dr;have d0:=h.d0;have d1:=h.d1;have fr:=h.fr;have sN:=h.sN;have cN:=h.cN;have CB:=Tv (s.gs.length:Int);rw [WB g8] at CB;have CL:=Ty (s.au.length:Int);rw [WG c8] at CL;have CD:=TT s.cG dr;have CQ:=TD s.aC.length 16 kJ (by omega);rw [WK (s:=s)] at CQ;have CP:=W4 s.cV.toNat s.bN.toNat s.fresh.toNat s.cache s.middle h.mb h.cb h.po;rw [show ((s.cV.toNat:Nat):Int)=s.cV by omega,show ((s.bN.toNat:Nat):Int)=s.bN by omega,show ((s.fresh.toNat:Nat):Int)=s.fresh by omega] at CP;refine ax.intro func16 rfl rfl rfl (fun ok e=>?_)
 repeat (first | refine av ?_ | intro _)
 refine J.draw (by kernel_rfl) rfl ?_;refine JW.base none ?_;refine tk 0 ?_;refine tk 1 ?_;refine tk 2 ?_;refine tk 3 ?_;refine tk 4 ?_;refine tk 5 ?_;refine tk 6 ?_;refine tk 8 ?_;refine tk 9 ?_;refine tk 10 ?_;refine tk 12 ?_;refine tk 13 ?_;refine tk 15 ?_;refine tk 16 ?_;refine tk 18 ?_;refine tk 19 ?_;refine tk 21 ?_;refine tk 22 ?_;refine jl 7 rfl rfl rfl rfl (Ld.wY CB (qb rfl) rfl (.cons .refl .nil)) .none (fun _=>?_);refine jl 11 rfl rfl rfl rfl (Ld.wY CL (qb rfl) rfl (.cons .refl .nil)) .none (fun _=>?_);refine jl 14 rfl rfl rfl rfl (Ld.yI (qb rfl) rfl rfl .read (by (simp;omega))) .none (fun _=>?_);refine jl 17 rfl rfl rfl rfl (Ld.wY CD (qb rfl) rfl (.cons .refl .nil)) .none (fun _=>?_);refine jl 20 rfl rfl rfl rfl (Ld.iT (qb rfl) rfl rfl .read (by (simp;omega))) .none (fun _=>?_);refine jl 23 rfl rfl rfl rfl (Ld.yI (qb rfl) rfl rfl .read (by (simp;omega))) .none (fun _=>?_);refine jk 24 rfl rfl rfl rfl (Qt.build rfl (by kernel_rfl)) ?_;refine jl 25 rfl rfl rfl rfl (Ld.box (qb rfl) rfl rfl) .none (fun _=>?_);refine jk 26 rfl rfl rfl rfl (Qt.assign rfl) ?_;refine bt ?_;rename_i b1 xB xL vS bD _ vM bW
 repeat (first | (refine K.store ?_;refine JO.ld (Ld.cZ rfl rfl (by exact rfl)) rfl (fun _=>?_)) | (refine K.call ?_;first | (refine JO.ld (Ld.wY CQ (qb rfl) rfl (.cons .refl (.cons .refl .nil))) rfl ?_;intro xQ) | (refine JO.ld (Ld.wY CP (qb rfl) rfl (.cons .refl (.cons .refl (.cons .refl (.cons .refl (.cons .refl .nil)))))) rfl ?_;intro xP)) | refine gn ?_)
 have CS:=TV bD s.cG s.drawn d0 d1 dr;refine J.draw (by kernel_rfl) rfl ?_;refine JW.iS [4] none ?_;refine tk 0 ?_;refine tk 1 ?_;refine tk 2 ?_;refine tk 3 ?_;refine tk 4 ?_;refine tk 5 ?_;refine jl 6 rfl rfl rfl rfl (Ld.fQ CS (qb rfl) rfl (.cons .refl (.cons .refl .nil))) (.m9 rfl) (fun _=>?_);refine bt ?_;refine J.oB 47 25 ?_;refine J.oB 110 1 ?_;refine J.oB 4 1 ?_;refine J.UA (Φ:=tR []) tR.ok tR.none ?_;obtain ⟨u0,rA⟩:∃ u:U,u=⟨.slice none 0 0,xB.1,.slice none 0 0,.slice none 0 0,xL.1,xQ.1,vS,xP.1.1,bD,vM,xB.2,xL.2,xQ.2,xP.1.2.1,[],xP.1.2.2,fun _=>.slice none 0 0,fun _=>.slice none 0 0,fun _=>.slice none 0 0⟩:=⟨_,rfl⟩
 have Zk:dG u0 s:=by rw [rA];exact h.pi _ (by rw [show ((s.fresh.toNat:Nat):Int)=s.fresh by omega];exact xP.2)
 have hv:u0.vG=.slice none 0 0∧u0.vR=.slice none 0 0∧u0.vC=.slice none 0 0:=by rw [rA];exact ⟨rfl,rfl,rfl⟩
 refine J.perm (L2:=.box b1 36 (az s) :: wo bW u0 s (sQ u0 s 0) (bK s 0) (l9 u0 0) (j7 s 0) (lK s 0) (qK s 0 0 0) (p9 u0 s 0) (uf u0 s 0)) ?_ ?_
 ·subst rA
  repeat (first | exact List.Perm.refl _ | refine gS 0 rfl rfl ?_ | refine gS 1 rfl rfl ?_ | refine gS 2 rfl rfl ?_ | refine gS 3 rfl rfl ?_ | refine gS 4 rfl rfl ?_ | refine gS 5 rfl rfl ?_ | refine gS 6 rfl rfl ?_ | refine gS 7 rfl rfl ?_ | refine gS 8 rfl rfl ?_ | refine gS 9 rfl rfl ?_ | refine gS 10 rfl rfl ?_ | refine gS 11 rfl rfl ?_ | refine gS 12 rfl rfl ?_)
 clear rA
 repeat (refine gn ?_)
 refine J.loop (ι:={ q:Nat × Value × (Nat→Value) × (Nat→Value) // q.1≤s.gs.length }) (fun q=>[(73,.c (nI q.1.1)),(72,.c (nI s.gs.length)),(71,.c (.r 25 (s.gs.map eG))),(3,.c (.v (pt bW))),(1,.c (.v (pt b1)))]) (fun q=>.box b1 36 (az s) :: wo bW { u0 with vG:=q.1.2.1,sg:=q.1.2.2.1,wk:=q.1.2.2.2 } s (sQ { u0 with vG:=q.1.2.1,sg:=q.1.2.2.1,wk:=q.1.2.2.2 } s q.1.1) (bK s q.1.1) (l9 u0 0) (j7 s 0) (lK s 0) (qK s 0 0 0) (p9 u0 s 0) (uf { u0 with vG:=q.1.2.1,sg:=q.1.2.2.1,wk:=q.1.2.2.2 } s q.1.1)) (fun q=>s.gs.length - q.1.1) ⟨(0,u0.vG,u0.sg,u0.wk),Nat.zero_le _⟩ (fun X h=>h.aW ⟨rfl,rfl,rfl,rfl,rfl,trivial⟩) (fun q ih=>?_);obtain ⟨⟨k,vG,sg,wk⟩,hk⟩:=q;simp only at hk ih ⊢
 by_cases aQ:k < s.gs.length
 ·have t1:(decide ((k:Int) < (s.gs.length:Int)))=true:=by simpa using aQ
  have hx:s.gs[k]?=some (aa s k):=by unfold aa;rw [List.getD_eq_getElem?_getD,List.getElem?_eq_getElem aQ];rfl
  have hm:=List.mem_of_getElem? hx;obtain ⟨o1,o2⟩:=h.op _ hm;obtain ⟨o3,o4,o5,o6⟩:=h.Lz _ hm;have BS:=Tu u0.pB (bK s k) u0.TB (k:Int) (aa s k).status (aa s k).token;rw [WA aQ (h.st k aQ)] at BS;have CG:=W9 (aa s k) o1 o2 o3 o4 o5 o6;have gl:(sQ { u0 with vG:=vG,sg:=sg,wk:=wk } s k).length≤8:=by simp [sQ];omega
  repeat (first | (refine K.store ?_;refine JO.ld (Ld.aX rfl rfl rfl (by exact rfl) (by exact rfl)) rfl (fun _=>?_)) | refine av ?_ | intro _)
  refine J.draw (by kernel_rfl) rfl ?_;refine JW.iS [9] none ?_;refine tk 0 ?_;refine tk 1 ?_;refine tk 2 ?_;refine tk 3 ?_;refine tk 4 ?_;refine tk 5 ?_;refine tk 6 ?_;refine tk 7 ?_;refine tk 8 ?_;refine jl 9 rfl rfl rfl rfl (Ld.fQ BS (qb rfl) rfl (.cons .refl (.cons .refl (.cons .refl (.cons .refl .nil))))) (.iO rfl) (fun _=>?_);refine bt ?_
  repeat (first | (refine K.store ?_;first | refine JO.ld (Ld.aX rfl rfl rfl (by exact rfl) (by exact rfl)) rfl (fun _=>?_) | refine JO.ld (Ld.cZ rfl rfl (by exact rfl)) rfl (fun _=>?_)) | (refine K.call ?_;refine JO.ld (Ld.W8 CG (qb rfl) rfl (.cons .refl .nil)) rfl ?_;intro x) | refine gn ?_)
  refine J.draw (by kernel_rfl) rfl ?_;refine JW.iS [5] (some 10) ?_;refine tk 0 ?_;refine tk 1 ?_;refine tk 2 ?_;refine tk 3 ?_;refine tk 4 ?_;refine tk 5 ?_;refine jl 6 rfl rfl rfl rfl (Ld.oZ (qb rfl) rfl rfl rfl rfl rfl) .none (fun _=>?_);refine jl 7 rfl rfl rfl rfl (Ld.cA (qb rfl) rfl rfl .read (by (simp;omega))) (.uI rfl) (fun _=>?_);refine jk 8 rfl rfl rfl rfl (Qt.nilCheck rfl rfl) ?_;refine jk 9 rfl rfl rfl rfl (Qt.fieldAddr rfl rfl) ?_;refine jt 10 rfl rfl (Ld.cZ rfl rfl (by exact rfl)) (fun _=>?_);refine bS ?_
  repeat (refine gn ?_)
  rename_i b5 _ _ _ _ _ _ xU _;refine J.eP 3 ?_;refine J.perm (L2:=.box b1 36 (az s) :: wo bW (uG { u0 with vG:=vG,sg:=sg,wk:=wk } k (xU,x)) s (sQ (uG { u0 with vG:=vG,sg:=sg,wk:=wk } k (xU,x)) s (k + 1)) (bK s (k + 1)) (l9 u0 0) (j7 s 0) (lK s 0) (qK s 0 0 0) (p9 u0 s 0) (uf (uG { u0 with vG:=vG,sg:=sg,wk:=wk } k (xU,x)) s (k + 1))) ?_ ?_
  ·rw [← Zj]
   repeat (first | refine gS 0 rfl rfl ?_ | refine gS 1 rfl rfl ?_ | refine gS 2 rfl rfl ?_ | refine gS 3 rfl rfl ?_ | refine gS 4 rfl rfl ?_)
   exact Zi (u:={ u0 with vG:=vG,sg:=sg,wk:=wk }) (if_pos rfl) (if_pos rfl) fun j hj=>⟨if_neg (by omega),if_neg (by omega)⟩
  ·exact (ih ⟨(k + 1,xU,(uG { u0 with vG:=vG,sg:=sg,wk:=wk } k (xU,x)).sg,(uG { u0 with vG:=vG,sg:=sg,wk:=wk } k (xU,x)).wk),by simp only;omega⟩ (by simp only;omega)).aW ⟨rfl,rfl,rfl,rfl,rfl,trivial⟩
 ·have t1:(decide ((k:Int) < (s.gs.length:Int)))=false:=by simpa using aQ
  obtain rfl:k=s.gs.length:=by omega
  rw [WC]
  repeat (refine gn ?_)
  have OI:dG { u0 with vG:=vG,sg:=sg,wk:=wk } s:=Zk;generalize Dl:({ u0 with vG:=vG,sg:=sg,wk:=wk }:U)=u1 at OI ⊢;refine J.loop (ι:={ q:Nat × Value × Value × List Nat × (Nat→Value) // q.1≤s.au.length }) (fun q=>[(106,.c (nI q.1.1)),(105,.c (nI s.au.length)),(104,.c (.r 6 (s.au.map eC))),(3,.c (.v (pt bW))),(1,.c (.v (pt b1)))]) (fun q=>.box b1 36 (az s) :: wo bW { u1 with vR:=q.1.2.1,vC:=q.1.2.2.1,TR:=q.1.2.2.2.1,rs:=q.1.2.2.2.2 } s (sQ u1 s s.gs.length) (s.gs.map fun x=>(x.status,x.token)) (l9 { u1 with vR:=q.1.2.1,vC:=q.1.2.2.1,TR:=q.1.2.2.2.1,rs:=q.1.2.2.2.2 } q.1.1) (j7 s q.1.1) (lK s q.1.1) (qK s q.1.1 0 0) (p9 { u1 with vR:=q.1.2.1,vC:=q.1.2.2.1,TR:=q.1.2.2.2.1,rs:=q.1.2.2.2.2 } s q.1.1) (uf u1 s s.gs.length)) (fun q=>s.au.length - q.1.1) ⟨(0,u1.vR,u1.vC,u1.TR,u1.rs),Nat.zero_le _⟩ (fun X h=>?_) (fun q iX=>?_)
  ·exact h.aW ⟨rfl,rfl,rfl,rfl,rfl,trivial⟩
  obtain ⟨⟨j,vR,vC,TR,rs⟩,hj⟩:=q;simp only at hj iX ⊢
  by_cases fy:j < s.au.length
  ·have t1:(decide ((j:Int) < (s.au.length:Int)))=true:=by simpa using fy
   have hx:(s.au.map eC)[((j:Int)).toNat]?=some (eC (cn s ((j:Int) + 1))):=by rw [Int.toNat_natCast,List.getElem?_map,oD fy];rfl
   have CA:=Xd bW { u1 with vR:=vR,vC:=vC,TR:=TR,rs:=rs } s j (sQ u1 s s.gs.length) (s.gs.map fun x=>(x.status,x.token)) (uf u1 s s.gs.length) fy h.qs (h.Zh j fy) (h.lk j fy) (h.ql j fy).1 (h.ql j fy).2
   repeat (first | (refine K.store ?_;refine JO.ld (Ld.aX rfl rfl rfl (by exact rfl) (by exact rfl)) rfl (fun _=>?_)) | (refine K.call ?_;refine JO.ld (Ld.aV CA (qb rfl) rfl (.cons .refl (.cons .refl (.cons .refl .nil)))) rfl ?_;intro x) | refine av ?_ | intro _)
   refine J.eP 0 ?_;exact (iX ⟨(j + 1,x.2.1,x.2.2.1,TR ++ x.2.2.2,fun i=>if i=j then x.1 else rs i),by simp only;omega⟩ (by simp only;omega)).aW ⟨rfl,rfl,rfl,rfl,rfl,trivial⟩
  ·have t1:(decide ((j:Int) < (s.au.length:Int)))=false:=by simpa using fy
   obtain rfl:j=s.au.length:=by omega
   rw [WH,WM,show j7 s s.au.length=s.au.map fun c=>[bI c.closed] by unfold j7;rw [List.take_of_length_le (Nat.le_refl _)]]
   repeat (refine gn ?_)
   refine J.fK (L':=.box b1 36 (az s) :: wd bW { u1 with vR:=vR,vC:=vC,TR:=TR,rs:=rs } s) rfl ?_
   (exact J.iN [_] rfl func16 rfl (.cons (.tmp rfl) .nil) ⟨(bW,{ u1 with vR:=vR,vC:=vC,TR:=TR,rs:=rs }),OI⟩ (by exact .refl) rfl)
end Fl
open Go.RowKit
namespace Fl
open Sx Go.Proofs.Tryz
set_option maxRecDepth 100000
theorem Zl (s:ah) (p:Int) (h:Sx.Good s) (h0:0≤s.step) (h1:s.step≤1000000) :
  Pure prog 125 [.agg (az s),.c (nI p)] (.aZ [.agg (az (Sx.one s p).1),.c (bI (Sx.one s p).2)]):=by
 have h':=h.toMInv;have aj:Sx.one s p=Sx.one s p:=rfl
 conv at aj=>rhs;unfold Sx.one;simp only
 refine ax.intro func125 rfl rfl rfl (fun ok e=>?_)
 by_cases a1:p < 0
 ·rw [if_pos (.inl a1)] at aj;rw [aj];have c1:(decide (p < 0))=true:=decide_eq_true a1
  repeat (first | refine aL c1 ?_ | refine av ?_ | intro _)
  exact aA func125
 have c1:(decide (p < 0))=false:=decide_eq_false a1
 by_cases a2:(s.gs.length:Int)≤p
 ·rw [if_pos (.inr (.inl a2))] at aj;rw [aj];have c2:(decide (p ≥ (s.gs.length:Int)))=true:=decide_eq_true a2
  repeat (first | refine aL c1 ?_ | refine aL c2 ?_ | refine av ?_ | intro _)
  exact aA func125
 have c2:(decide (p ≥ (s.gs.length:Int)))=false:=decide_eq_false a2;obtain ⟨g,rfl⟩:∃ g:Nat,p=g:=⟨p.toNat,by omega⟩
 have hg:g < s.gs.length:=by omega
 rw [Int.toNat_natCast] at aj
 by_cases a3:(aa s g).status=0
 ·have c3:((aa s g).status != 0)=false:=by simp [a3]
  rw [aB] at aj;obtain ⟨n,hn⟩:∃ n:ah,{ s with step:=s.step + 1 }=n:=⟨_,rfl⟩
  have gn:Sx.Good n:=by rw [← hn];exact ⟨h'.tick,h.z.of rfl⟩
  have AJ:g < n.gs.length:=by rw [← hn];exact hg
  have sn:(aa n g).status=0:=by rw [← hn];exact a3
  have C1:=Y2 n g (Y6 gn AJ);have C2:=N2 n g (OD gn AJ sn);have C3:=XY n g (Y4 gn AJ sn);have C4:=X6 n g (Y5 gn AJ);have C5:=YG n g (Y8 gn AJ sn);rw [hn] at aj;have en:az n=(az s).set 2 (nI (s.step + 1)):=by rw [← hn];rfl
  rw [en] at C1 C2 C3 C4 C5;clear hn en
  cases k1:(jj n g).2 with
  | true =>
   rw [if_pos k1] at aj;rw [aj];rw [k1] at C1
   repeat (first | (refine K.indexAddr ?_;refine jx rfl rfl rfl rfl (by omega) (iz hg) ?_) | (refine K.binOp ?_;first | refine aL c1 ?_ | refine aL c2 ?_ | refine aL c3 ?_ | refine jq rfl rfl rfl (Qt.dj rfl rfl rfl (eL (by omega) (by omega))) ?_) | refine aO (C1) ?_ | refine av ?_ | intro _)
   exact aA func125
  | false =>
  rw [if_neg (by rw [k1];simp)] at aj;rw [k1] at C1
  cases k2:(bu n g).2 with
  | true =>
   rw [if_pos k2] at aj;rw [aj];rw [k2] at C2
   repeat (first | (refine K.indexAddr ?_;refine jx rfl rfl rfl rfl (by omega) (iz hg) ?_) | (refine K.binOp ?_;first | refine aL c1 ?_ | refine aL c2 ?_ | refine aL c3 ?_ | refine jq rfl rfl rfl (Qt.dj rfl rfl rfl (eL (by omega) (by omega))) ?_) | refine aO (C1) ?_ | refine aO (C2) ?_ | refine av ?_ | intro _)
   exact aA func125
  | false =>
  rw [if_neg (by rw [k2];simp)] at aj;rw [k2] at C2
  cases k3:(bR n g).2 with
  | true =>
   rw [if_pos k3] at aj;rw [aj];rw [k3] at C3
   repeat (first | (refine K.indexAddr ?_;refine jx rfl rfl rfl rfl (by omega) (iz hg) ?_) | (refine K.binOp ?_;first | refine aL c1 ?_ | refine aL c2 ?_ | refine aL c3 ?_ | refine jq rfl rfl rfl (Qt.dj rfl rfl rfl (eL (by omega) (by omega))) ?_) | refine aO (C1) ?_ | refine aO (C2) ?_ | refine aO (C3) ?_ | refine av ?_ | intro _)
   exact aA func125
  | false =>
  rw [if_neg (by rw [k3];simp)] at aj;rw [k3] at C3
  cases k4:(dU n g).2 with
  | true =>
   rw [if_pos k4] at aj;rw [aj];rw [k4] at C4
   repeat (first | (refine K.indexAddr ?_;refine jx rfl rfl rfl rfl (by omega) (iz hg) ?_) | (refine K.binOp ?_;first | refine aL c1 ?_ | refine aL c2 ?_ | refine aL c3 ?_ | refine jq rfl rfl rfl (Qt.dj rfl rfl rfl (eL (by omega) (by omega))) ?_) | refine aO (C1) ?_ | refine aO (C2) ?_ | refine aO (C3) ?_ | refine aO (C4) ?_ | refine av ?_ | intro _)
   exact aA func125
  | false =>
  rw [if_neg (by rw [k4];simp)] at aj;rw [k4] at C4
  cases k5:(bL n g).2 with
  | true =>
   rw [if_pos k5] at aj;rw [aj];rw [k5] at C5
   repeat (first | (refine K.indexAddr ?_;refine jx rfl rfl rfl rfl (by omega) (iz hg) ?_) | (refine K.binOp ?_;first | refine aL c1 ?_ | refine aL c2 ?_ | refine aL c3 ?_ | refine jq rfl rfl rfl (Qt.dj rfl rfl rfl (eL (by omega) (by omega))) ?_) | refine aO (C1) ?_ | refine aO (C2) ?_ | refine aO (C3) ?_ | refine aO (C4) ?_ | refine aO (C5) ?_ | refine av ?_ | intro _)
   exact aA func125
  | false =>
   rw [if_neg (by rw [k5];simp)] at aj;rw [aj];rw [k5] at C5
   repeat (first | (refine K.indexAddr ?_;refine jx rfl rfl rfl rfl (by omega) (iz hg) ?_) | (refine K.binOp ?_;first | refine aL c1 ?_ | refine aL c2 ?_ | refine aL c3 ?_ | refine jq rfl rfl rfl (Qt.dj rfl rfl rfl (eL (by omega) (by omega))) ?_) | refine aO (C1) ?_ | refine aO (C2) ?_ | refine aO (C3) ?_ | refine aO (C4) ?_ | refine aO (C5) ?_ | refine av ?_ | intro _)
   exact aA func125
 ·rw [if_pos (.inr (.inr a3))] at aj;rw [aj];have c3:((aa s g).status != 0)=true:=by simp [a3]
  repeat (first | (refine K.indexAddr ?_;refine jx rfl rfl rfl rfl (by omega) (iz hg) ?_) | refine aL c1 ?_ | refine aL c2 ?_ | refine aL c3 ?_ | refine av ?_ | intro _)
  exact aA func125
end Fl
end Go.Proofs.YtofnbflkhgammaaGreat
