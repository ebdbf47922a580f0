/-
  What the laws need, part B23.
  Conditions: none.
-/
import Derived.Test.YtdjhhbpedllnhaaGreatB21
import Derived.Test.YtdjhhbpedllnhaaGreatB22
set_option linter.unusedVariables false
set_option linter.unusedSimpArgs false
set_option linter.unnecessarySimpa false
set_option maxHeartbeats 2000000
namespace Go.Proofs.YtdjhhbpedllnhaaGreat
open Go.RowKit
namespace Fl
open Sx Go.Proofs.Tryz
set_option maxRecDepth 100000
theorem Bd.fw {n:Nat} {s:ah} (h:Sx.Bd n s) (hn:n≤1000):Fw s :=
 ⟨h.g8,h.c8,h.mA,by have:=h.dn;omega,by have:=h.dr;omega,h.cl,fun l hl=>by have:=h.cb l hl;omega,by have:=h.mb;omega,h.fr,fun c hc=>(h.cs c hc).cp,
  fun x hx=>⟨by have:=(h.gs x hx).op;omega,fun o ho=>by have:=(h.gs x hx).oc o ho;omega⟩,fun x hx=>⟨by have:=(h.gs x hx).od;omega,by have:=(h.gs x hx).lk;omega,by have:=(h.gs x hx).sg;omega,by have:=(h.gs x hx).wk;omega⟩⟩
theorem UZ {s:ah} {x:Gr} (h:x∈s.gs):∃ g:Nat,g < s.gs.length∧aa s g=x:=by
 obtain ⟨g,hg⟩:=List.getElem?_of_mem h;have hl:=(List.getElem?_eq_some_iff.1 hg).1;exact ⟨g,hl,by unfold aa;rw [List.getD_eq_getElem?_getD,hg];rfl⟩
theorem U6 {s:ah} {c:Cn} (h:c∈s.av):∃ k:Nat,k < s.av.length∧Sx.cn s ((k:Int) + 1)=c:=by
 obtain ⟨g,hg⟩:=List.getElem?_of_mem h;have hl:=(List.getElem?_eq_some_iff.1 hg).1;have:=mY hl;rw [hg] at this;exact ⟨g,hl,by cases this;rfl⟩
theorem U7 {o:Pn.Op} (h:Pn.fG o=true):0≤o.ch∧o.ch≤8∧o.cases.length≤6:=by
 unfold Pn.fG at h;rw [decide_eq_true_iff] at h;omega
section
variable {s:ah} {g:Nat}
theorem zI (h:Sx.Good s):Sx.Bd 200 s:=by
 have h':=h.toMInv;obtain ⟨H,I⟩:=h.po;have ln:=I.lens;simp only at ln;have f:=tg h;have z:=h.z;refine ⟨h.n8,h.c8,h.mA,by have:=h'.dn;have:=Lb h';omega,h.d5,h.ca,fun l hl=>?_,by omega,h.f0,fun x hx=>?_,fun c hc=>?_⟩
 ·have:=Sx.Ai hl;omega
 ·obtain ⟨k,hk,rfl⟩:=UZ hx;have L:=h'.loc hk;have zk:=z k;have w:=zE (n:=s.gs.length) L.w4 (fun a ha=>L.w3 a ha);have n8:=h.n8;exact ⟨by have:=L.nU;omega,fun o ho=>by have:=zk.op o ho;omega,by have:=zk.od;omega,by have:=zk.lk;omega,by have:=zk.sg;omega,by omega⟩
 ·obtain ⟨k,hk,rfl⟩:=U6 hc;have q:=Cb h' ((k:Int) + 1);have c4:=h'.gP (c:=(k:Int) + 1) (by omega) (by omega);exact ⟨by omega,by omega,by omega,by omega⟩
theorem FJ (h:Sx.Good s):FI s:=by
 have h':=h.toMInv;obtain ⟨H,I⟩:=h.po;have c1:=h.c1;have sn:=h.sn;have po:=Po.RS I (by have:=h.ca;have:=h.n8;omega);refine ⟨Bd.fw (zI h) (by omega),h.qs,fun k hk=>?_,fun k hk=>?_,fun k hk=>?_,fun k hk=>?_,by omega,by omega,po.1,po.2,h.rK,h.sO⟩
 ·have:=(h'.loc hk).kG;omega
 ·have:=Sx.Inv.jV h'.v ((k:Int) + 1) (by omega) (by omega);omega
 ·have c4:=h'.gP (c:=(k:Int) + 1) (by omega) (by omega);omega
 ·have q:=Cb h' ((k:Int) + 1);omega
theorem U8 (h:Sx.MInv s) (hg:g < s.gs.length):0≤(ag s g).ch∧(ag s g).ch≤8∧(ag s g).cases.length≤6:=by
 have L:=h.loc hg;unfold ag;rw [List.getD_eq_getElem?_getD]
 cases e:(aa s g).ops[(aa s g).at_.toNat]? with
 | none=>simp [xX]
 | some o=>exact U7 (L.ig o (List.mem_of_getElem? e))
theorem U9 (h:Sx.MInv s) (hg:g < s.gs.length) (e:(aa s g).place=12∨(aa s g).place=16):aT s (ag s g).ch=true∧(Sx.cn s (ag s g).ch).lock=g:=by
 have hm:=zF h hg (by omega);have pl:=w8 h hg (by omega);obtain ⟨k,hk,bF⟩:=qo hm;refine ⟨hm,?_⟩;refine (Sx.Inv.iW h.v (g:Int) (by omega) (by omega) (ag s g).ch (by omega) (by omega)).1 ?_;have k1:2≤(ag s g).kind∧(ag s g).kind≤6:=by unfold bU at pl;omega
 exact .inl ⟨k1.1,k1.2,rfl,by show 5≤(aa s g).place∧(aa s g).place≤12∨(aa s g).place=16∨21≤(aa s g).place∧(aa s g).place≤23;omega⟩
theorem Va (h:Sx.Good s) (hg:g < s.gs.length):uO s g:=by
 have h':=h.toMInv;have L:=h'.loc hg;have o:=U8 h' hg;have co:=zG h hg;refine ⟨hg,L.a0,by omega,by omega,h.c8,h.f0,fun e=>zF h' hg (.inl e),fun e=>U9 h' hg e,fun e=>?_,fun e=>?_⟩
 ·have:=co.BH e;exact this.2
 ·obtain ⟨a,l,e1,a0,a1,a2⟩:=co.BI e;have wk:=Sx.Inv.wk h'.v (g:Int) (by omega) (by omega) a (by show a∈(aa s g).au;rw [e1];simp);refine ⟨a.toNat,l,by rw [e1,Int.toNat_of_nonneg a0],by omega,fun e2=>wk.1 (by omega),?_⟩;have:=zE (n:=s.gs.length) L.w4 (fun a ha=>L.w3 a ha);rw [e1] at this;have n8:=h.n8;simp at this;omega
end
def j6 (p:List (List Pn.Op)) (sn cn:Int) (d l:List Int):ah × Bool :=
 if 8 < p.length∨300 < d.length∨400 < l.length then (sy,false)
 else if (Sx.new p sn cn d).2=0 then ((Sx.runs (Sx.new p sn cn d).1 l).1,true) else ((Sx.new p sn cn d).1,false)
theorem FK {p:List (List Pn.Op)} {sn cn:Int} {d l:List Int} (hd:∀ x∈d,0≤x∧x < 65536) (h:(j6 p sn cn d l).2=true):Sx.Good (j6 p sn cn d l).1:=by
 unfold j6 at h ⊢
 split at h
 ·cases h
 ·rename_i c;rw [if_neg c]
  split at h
  ·rename_i c2;rw [if_pos c2];unfold Sx.new at c2 ⊢
   split at c2
   ·cases c2
   ·rename_i r1
    split at c2
    ·cases c2
    ·rename_i r2;rw [if_neg r1,if_neg r2];exact (Sx.Good.start (by simpa using r1) (by simpa using r2) hd (by omega)).runs l
  ·cases h
theorem FL (p:List (List Pn.Op)) (sn cn:Int) (d l:List Int) (hd:∀ x∈d,0≤x∧x < 65536) :
  Pure prog 13 [.agg (ng p sn cn d),.c (ints l)] (.bp [.agg (aC (j6 p sn cn d l).1),.c (bI (j6 p sn cn d l).2)]):=by
 have CN:=Qh p sn cn d;refine an.intro func13 rfl rfl rfl (fun ok e=>?_)
 cases t1:(decide ((p.length:Int) > 8)) with
 | true =>
  have er:j6 p sn cn d l=(sy,false):=by unfold j6;rw [if_pos (.inl (by have:=of_decide_eq_true t1;omega))]
  rw [er]
  repeat (first | (refine K.store ?_;refine JO.ld (Ld.bq rfl rfl rfl (by exact rfl) (by exact rfl)) rfl (fun _=>?_)) | refine ay ?_ | intro _)
  (exact J.ret func13 rfl (.cons (.cell 0 rfl rfl rfl) (.cons (.tmp rfl) .nil)) () (by (exact .bp (by repeat (first | exact .nil | refine .cons (.agg (by repeat (first | exact .nil | refine .cons .refl ?_ | refine .cons .nil ?_))) ?_ | refine .cons .refl ?_)))) [] .nil rfl rfl)
 | false =>
 cases t2:(decide ((d.length:Int) > 300)) with
 | true =>
  have er:j6 p sn cn d l=(sy,false):=by unfold j6;rw [if_pos (.inr (.inl (by have:=of_decide_eq_true t2;omega)))]
  rw [er]
  repeat (first | (refine K.store ?_;refine JO.ld (Ld.bq rfl rfl rfl (by exact rfl) (by exact rfl)) rfl (fun _=>?_)) | refine ay ?_ | intro _)
  (exact J.ret func13 rfl (.cons (.cell 0 rfl rfl rfl) (.cons (.tmp rfl) .nil)) () (by (exact .bp (by repeat (first | exact .nil | refine .cons (.agg (by repeat (first | exact .nil | refine .cons .refl ?_ | refine .cons .nil ?_))) ?_ | refine .cons .refl ?_)))) [] .nil rfl rfl)
 | false =>
 cases t3:(decide ((l.length:Int) > 400)) with
 | true =>
  have er:j6 p sn cn d l=(sy,false):=by unfold j6;rw [if_pos (.inr (.inr (by have:=of_decide_eq_true t3;omega)))]
  rw [er]
  repeat (first | (refine K.store ?_;refine JO.ld (Ld.bq rfl rfl rfl (by exact rfl) (by exact rfl)) rfl (fun _=>?_)) | refine ay ?_ | intro _)
  (exact J.ret func13 rfl (.cons (.cell 0 rfl rfl rfl) (.cons (.tmp rfl) .nil)) () (by (exact .bp (by repeat (first | exact .nil | refine .cons (.agg (by repeat (first | exact .nil | refine .cons .refl ?_ | refine .cons .nil ?_))) ?_ | refine .cons .refl ?_)))) [] .nil rfl rfl)
 | false =>
 have u1:=of_decide_eq_false t1;have u2:=of_decide_eq_false t2;have u3:=of_decide_eq_false t3;have e1:¬ (8 < p.length∨300 < d.length∨400 < l.length):=by omega
 cases t4:((Sx.new p sn cn d).2 != 0) with
 | true =>
  have er:j6 p sn cn d l=((Sx.new p sn cn d).1,false):=by unfold j6;rw [if_neg e1,if_neg (by simpa using t4)]
  rw [er]
  repeat (first | (refine K.store ?_;refine JO.ld (Ld.bq rfl rfl rfl (by exact rfl) (by exact rfl)) rfl (fun _=>?_)) | refine ay ?_ | intro _)
  exact aD func13
 | false =>
  have t5:(Sx.new p sn cn d).2=0:=by simpa using t4
  have er:j6 p sn cn d l=((Sx.runs (Sx.new p sn cn d).1 l).1,true):=by unfold j6;rw [if_neg e1,if_pos t5]
  have hg:Sx.Good (Sx.new p sn cn d).1∧(Sx.new p sn cn d).1.step=0:=by
   unfold Sx.new at t5 ⊢
   split at t5
   ·cases t5
   ·rename_i r1
    split at t5
    ·cases t5
    ·rename_i r2;rw [if_neg r1,if_neg r2];exact ⟨Sx.Good.start (by simpa using r1) (by simpa using r2) hd (by omega),rfl⟩
  have CR:=UY (Sx.new p sn cn d).1 l hg.1 (by rw [hg.2];omega) (by rw [hg.2];omega) (by omega);rw [er]
  repeat (first | (refine K.store ?_;refine JO.ld (Ld.bq rfl rfl rfl (by exact rfl) (by exact rfl)) rfl (fun _=>?_)) | refine ay ?_ | intro _)
  exact aD func13
theorem FM {w:World} {cs:List Value} {a:uq} {U:List Nat} (h:sG w cs a U):∀ x∈a.d,0≤x∧x < 65536:=by
 obtain ⟨vp,vd,_,_,xs,T,v1,v2,_⟩:=h;intro x hx;obtain ⟨k,hk⟩:=List.getElem?_of_mem hx;obtain ⟨V,u1,_⟩:=v2 k x hk;have:=u1.2.1;simp only [Lit.wf,IntKind.min,IntKind.max,Bool.and_eq_true] at this;obtain ⟨q1,q2⟩:=this;have q3:decide ((0:Int)≤x)=true:=q1;have q4:decide (x≤(65535:Int))=true:=q2;simp only [decide_eq_true_eq] at q3 q4;omega
theorem FN:fK prog 28 (pO (kY .i64) 1) 1:=xd Tryz.underlying28 (by kernel_rfl) En
theorem FP {F:FuncId} {a:uq} {l:List Int} (h:Pure prog F [.agg (ng a.p a.sn a.cn a.d),.c (ints l)] (.c (bI true))) {w:World} {cs:Array Value} {U:List Nat} {v:Value} {S:List Nat} (he:sG w cs.toList a U) (hl:GV (kY .i64) 1 w v l S):Calls prog F #[.agg cs,v] w fun e w'=>e=.returned (.bool true)∧aP [] w w' :=
 QA h (xs:=[.agg cs,v]) (cK.cons (by unfold RD;exact ⟨cs.toList,by simp,Qp he fun _ _=>trivial⟩) (cK.cons (by unfold RD;exact Qn.ra hl fun _ _=>trivial) cK.nil))
end Fl
end Go.Proofs.YtdjhhbpedllnhaaGreat
