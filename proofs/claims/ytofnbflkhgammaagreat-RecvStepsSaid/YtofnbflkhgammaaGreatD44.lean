/-
  What the laws need, part D44.
  Conditions: none.
-/
import Derived.Test.YtofnbflkhgammaaGreatD43
set_option linter.unusedVariables false
set_option linter.unusedSimpArgs false
set_option linter.unnecessarySimpa false
set_option maxHeartbeats 2000000
namespace Go.Proofs.YtofnbflkhgammaaGreat
open Go.RowKit
namespace Fl
open Sx Go.Proofs.Tryz
set_option maxRecDepth 100000
theorem Bd.fw {n:Nat} {s:ah} (h:Sx.Bd n s) (hn:n≤1000):Fw s :=
 ⟨h.g8,h.c8,h.kJ,by have:=h.dn;omega,by have:=h.dr;omega,h.cl,fun l hl=>by have:=h.cb l hl;omega,by have:=h.mb;omega,h.fr,fun c hc=>(h.cs c hc).cp,
  fun x hx=>⟨by have:=(h.gs x hx).op;omega,fun o ho=>by have:=(h.gs x hx).oc o ho;omega⟩,fun x hx=>⟨by have:=(h.gs x hx).od;omega,by have:=(h.gs x hx).lk;omega,by have:=(h.gs x hx).sg;omega,by have:=(h.gs x hx).wk;omega⟩⟩
theorem Zs {s:ah} {x:Gr} (h:x∈s.gs):∃ g:Nat,g < s.gs.length∧aa s g=x:=by
 obtain ⟨g,hg⟩:=List.getElem?_of_mem h;have hl:=(List.getElem?_eq_some_iff.1 hg).1;exact ⟨g,hl,by unfold aa;rw [List.getD_eq_getElem?_getD,hg];rfl⟩
theorem Zt {s:ah} {c:Cn} (h:c∈s.au):∃ k:Nat,k < s.au.length∧Sx.cn s ((k:Int) + 1)=c:=by
 obtain ⟨g,hg⟩:=List.getElem?_of_mem h;have hl:=(List.getElem?_eq_some_iff.1 hg).1;have:=oD hl;rw [hg] at this;exact ⟨g,hl,by cases this;rfl⟩
section
variable {s:ah} {g:Nat}
theorem xV (h:Sx.Good s):Sx.Bd 200 s:=by
 have h':=h.toMInv;obtain ⟨H,I⟩:=h.po;have ln:=I.lens;simp only at ln;have f:=sS h;have z:=h.z;refine ⟨h.n8,h.c8,h.kJ,by have:=h'.dn;have:=OB h';omega,h.d5,h.ca,fun l hl=>?_,by omega,h.f0,fun x hx=>?_,fun c hc=>?_⟩
 ·have:=Sx.vT hl;omega
 ·obtain ⟨k,hk,rfl⟩:=Zs hx;have L:=h'.loc hk;have zk:=z k;have w:=xO (n:=s.gs.length) L.w4 (fun a ha=>L.w3 a ha);have n8:=h.n8;exact ⟨by have:=L.oE;omega,fun o ho=>by have:=zk.op o ho;omega,by have:=zk.od;omega,by have:=zk.lk;omega,by have:=zk.sg;omega,by omega⟩
 ·obtain ⟨k,hk,rfl⟩:=Zt hc;have q:=Di h' ((k:Int) + 1);have c4:=h'.gE (c:=(k:Int) + 1) (by omega) (by omega);exact ⟨by omega,by omega,by omega,by omega⟩
theorem Hp (h:Sx.Good s):Ho s:=by
 have h':=h.toMInv;obtain ⟨H,I⟩:=h.po;have c1:=h.c1;have sn:=h.sn;have po:=Po.Wy I (by have:=h.ca;have:=h.n8;omega);refine ⟨Bd.fw (xV h) (by omega),h.qs,fun k hk=>?_,fun k hk=>?_,fun k hk=>?_,fun k hk=>?_,by omega,by omega,po.1,po.2,h.sE,h.tW⟩
 ·have:=(h'.loc hk).lC;omega
 ·have:=Sx.Inv.j4 h'.v ((k:Int) + 1) (by omega) (by omega);omega
 ·have c4:=h'.gE (c:=(k:Int) + 1) (by omega) (by omega);omega
 ·have q:=Di h' ((k:Int) + 1);omega
end
def j8 (p:List (List Pn.Op)) (sn cn:Int) (d l:List Int):ah × Bool :=
 if 8 < p.length∨300 < d.length∨400 < l.length then (tg,false)
 else if (Sx.new p sn cn d).2=0 then ((Sx.runs (Sx.new p sn cn d).1 l).1,true) else ((Sx.new p sn cn d).1,false)
theorem Hq {p:List (List Pn.Op)} {sn cn:Int} {d l:List Int} (hd:∀ x∈d,0≤x∧x < 65536) (h:(j8 p sn cn d l).2=true):Sx.Good (j8 p sn cn d l).1:=by
 unfold j8 at h ⊢
 split at h
 ·cases h
 ·rename_i c;rw [if_neg c]
  split at h
  ·rename_i c2;rw [if_pos c2];unfold Sx.new at c2 ⊢
   split at c2
   ·cases c2
   ·rename_i r1
    split at c2
    ·cases c2
    ·rename_i r2;rw [if_neg r1,if_neg r2];exact (Sx.Good.start (by simpa using r1) (by simpa using r2) hd (by omega)).runs l
  ·cases h
theorem Hr (p:List (List Pn.Op)) (sn cn:Int) (d l:List Int) (hd:∀ x∈d,0≤x∧x < 65536) :
  Pure prog 15 [.agg (mO p sn cn d),.c (ints l)] (.aZ [.agg (az (j8 p sn cn d l).1),.c (bI (j8 p sn cn d l).2)]):=by
 have CN:=UG p sn cn d;refine ax.intro func15 rfl rfl rfl (fun ok e=>?_)
 cases t1:(decide ((p.length:Int) > 8)) with
 | true =>
  have er:j8 p sn cn d l=(tg,false):=by unfold j8;rw [if_pos (.inl (by have:=of_decide_eq_true t1;omega))]
  rw [er]
  repeat (first | (refine K.store ?_;refine JO.ld (Ld.aX rfl rfl rfl (by exact rfl) (by exact rfl)) rfl (fun _=>?_)) | refine av ?_ | intro _)
  (exact J.ret func15 rfl (.cons (.cell 0 rfl rfl rfl) (.cons (.tmp rfl) .nil)) () (by (exact .aZ (by repeat (first | exact .nil | refine .cons (.agg (by repeat (first | exact .nil | refine .cons .refl ?_ | refine .cons .nil ?_))) ?_ | refine .cons .refl ?_)))) [] .nil rfl rfl)
 | false =>
 cases t2:(decide ((d.length:Int) > 300)) with
 | true =>
  have er:j8 p sn cn d l=(tg,false):=by unfold j8;rw [if_pos (.inr (.inl (by have:=of_decide_eq_true t2;omega)))]
  rw [er]
  repeat (first | (refine K.store ?_;refine JO.ld (Ld.aX rfl rfl rfl (by exact rfl) (by exact rfl)) rfl (fun _=>?_)) | refine av ?_ | intro _)
  (exact J.ret func15 rfl (.cons (.cell 0 rfl rfl rfl) (.cons (.tmp rfl) .nil)) () (by (exact .aZ (by repeat (first | exact .nil | refine .cons (.agg (by repeat (first | exact .nil | refine .cons .refl ?_ | refine .cons .nil ?_))) ?_ | refine .cons .refl ?_)))) [] .nil rfl rfl)
 | false =>
 cases t3:(decide ((l.length:Int) > 400)) with
 | true =>
  have er:j8 p sn cn d l=(tg,false):=by unfold j8;rw [if_pos (.inr (.inr (by have:=of_decide_eq_true t3;omega)))]
  rw [er]
  repeat (first | (refine K.store ?_;refine JO.ld (Ld.aX rfl rfl rfl (by exact rfl) (by exact rfl)) rfl (fun _=>?_)) | refine av ?_ | intro _)
  (exact J.ret func15 rfl (.cons (.cell 0 rfl rfl rfl) (.cons (.tmp rfl) .nil)) () (by (exact .aZ (by repeat (first | exact .nil | refine .cons (.agg (by repeat (first | exact .nil | refine .cons .refl ?_ | refine .cons .nil ?_))) ?_ | refine .cons .refl ?_)))) [] .nil rfl rfl)
 | false =>
 have u1:=of_decide_eq_false t1;have u2:=of_decide_eq_false t2;have u3:=of_decide_eq_false t3;have e1:¬ (8 < p.length∨300 < d.length∨400 < l.length):=by omega
 cases t4:((Sx.new p sn cn d).2 != 0) with
 | true =>
  have er:j8 p sn cn d l=((Sx.new p sn cn d).1,false):=by unfold j8;rw [if_neg e1,if_neg (by simpa using t4)]
  rw [er]
  repeat (first | (refine K.store ?_;refine JO.ld (Ld.aX rfl rfl rfl (by exact rfl) (by exact rfl)) rfl (fun _=>?_)) | refine av ?_ | intro _)
  exact aA func15
 | false =>
  have t5:(Sx.new p sn cn d).2=0:=by simpa using t4
  have er:j8 p sn cn d l=((Sx.runs (Sx.new p sn cn d).1 l).1,true):=by unfold j8;rw [if_neg e1,if_pos t5]
  have hg:Sx.Good (Sx.new p sn cn d).1∧(Sx.new p sn cn d).1.step=0:=by
   unfold Sx.new at t5 ⊢
   split at t5
   ·cases t5
   ·rename_i r1
    split at t5
    ·cases t5
    ·rename_i r2;rw [if_neg r1,if_neg r2];exact ⟨Sx.Good.start (by simpa using r1) (by simpa using r2) hd (by omega),rfl⟩
  have CR:=Zr (Sx.new p sn cn d).1 l hg.1 (by rw [hg.2];omega) (by rw [hg.2];omega) (by omega);rw [er]
  repeat (first | (refine K.store ?_;refine JO.ld (Ld.aX rfl rfl rfl (by exact rfl) (by exact rfl)) rfl (fun _=>?_)) | refine av ?_ | intro _)
  exact aA func15
theorem Hs {w:World} {cs:List Value} {a:sy} {U:List Nat} (h:qP w cs a U):∀ x∈a.d,0≤x∧x < 65536:=by
 obtain ⟨vp,vd,_,_,xs,T,v1,v2,_⟩:=h;intro x hx;obtain ⟨k,hk⟩:=List.getElem?_of_mem hx;obtain ⟨V,u1,_⟩:=v2 k x hk;have:=u1.2.1;simp only [Lit.wf,IntKind.min,IntKind.max,Bool.and_eq_true] at this;obtain ⟨q1,q2⟩:=this;have q3:decide ((0:Int)≤x)=true:=q1;have q4:decide (x≤(65535:Int))=true:=q2;simp only [decide_eq_true_eq] at q3 q4;omega
theorem Ht:fE prog 28 (qm (kf .i64) 1) 1:=yh Tryz.underlying28 (by kernel_rfl) FK
end Fl
end Go.Proofs.YtofnbflkhgammaaGreat
