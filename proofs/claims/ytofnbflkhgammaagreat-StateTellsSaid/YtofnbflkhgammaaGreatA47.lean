/-
  What the laws need, part A47.
  Conditions: none.
-/
import Derived.Test.YtofnbflkhgammaaGreatA44
import Derived.Test.YtofnbflkhgammaaGreatA46
set_option linter.unusedVariables false
set_option linter.unusedSimpArgs false
set_option linter.unnecessarySimpa false
set_option maxHeartbeats 2000000
namespace Go.Proofs.YtofnbflkhgammaaGreat
open Go.RowKit
namespace Fl
open Sx
set_option maxRecDepth 100000
theorem Bd.fw {n:Nat} {s:Sx.St} (h:Sx.Bd n s) (hn:n≤1000):Fw s :=
 ⟨h.g8,h.c8,h.iJ,by have:=h.dn;omega,by have:=h.dr;omega,h.cl,fun l hl=>by have:=h.cb l hl;omega,by have:=h.mb;omega,h.fr,fun c hc=>(h.cs c hc).cp,
  fun x hx=>⟨by have:=(h.gs x hx).op;omega,fun o ho=>by have:=(h.gs x hx).oc o ho;omega⟩,fun x hx=>⟨by have:=(h.gs x hx).od;omega,by have:=(h.gs x hx).lk;omega,by have:=(h.gs x hx).sg;omega,by have:=(h.gs x hx).wk;omega⟩⟩
theorem Bd.fe {n:Nat} {s:Sx.St} (h:Sx.Bd n s) (hn:n≤1000):Fe s :=
 ⟨by have:=h.g8;omega,by have:=h.c8;omega,by have:=h.iJ;omega,by have:=h.dr;omega,by have:=h.dn;omega,h.cl,fun l hl=>by have:=h.cb l hl;omega,by have:=h.mb;omega,
  fun x hx=>⟨by have:=(h.gs x hx).op;omega,fun o ho=>by have:=(h.gs x hx).oc o ho;omega,by have:=(h.gs x hx).od;omega,by have:=(h.gs x hx).lk;omega,by have:=(h.gs x hx).sg;omega,by have:=(h.gs x hx).wk;omega⟩,
  fun c hc=>by have:=(h.cs c hc);have:=this.bf;have:=(h.cs c hc).rv;have:=(h.cs c hc).sd;omega⟩
theorem Y0 {s:Sx.St} {x:Gr} (h:x∈s.gs):∃ g:Nat,g < s.gs.length∧Sx.gr s g=x:=by
 obtain ⟨g,hg⟩:=List.getElem?_of_mem h;have hl:=(List.getElem?_eq_some_iff.1 hg).1;exact ⟨g,hl,by unfold Sx.gr;rw [List.getD_eq_getElem?_getD,hg];rfl⟩
theorem Y1 {s:Sx.St} {c:Cn} (h:c∈s.an):∃ k:Nat,k < s.an.length∧Sx.cn s ((k:Int) + 1)=c:=by
 obtain ⟨g,hg⟩:=List.getElem?_of_mem h;have hl:=(List.getElem?_eq_some_iff.1 hg).1;have:=oM hl;rw [hg] at this;exact ⟨g,hl,by cases this;rfl⟩
theorem Y2 {o:Pn.Op} (h:Pn.c7 o=true):0≤o.ch∧o.ch≤8∧o.cases.length≤6:=by
 unfold Pn.c7 at h;rw [decide_eq_true_iff] at h;omega
section
variable {s:Sx.St} {g:Nat}
theorem zE (h:Sx.Good s):Sx.Bd 200 s:=by
 have h':=h.toMInv;obtain ⟨H,I⟩:=h.po;have ln:=I.lens;simp only at ln;have f:=rQ h;have z:=h.z;refine ⟨h.n8,h.c8,h.iJ,by have:=h'.dn;have:=Ng h';omega,h.d5,h.ca,fun l hl=>?_,by omega,h.f0,fun x hx=>?_,fun c hc=>?_⟩
 ·have:=Sx.uQ hl;omega
 ·obtain ⟨k,hk,rfl⟩:=Y0 hx;have L:=h'.loc hk;have zk:=z k;have w:=zB (n:=s.gs.length) L.w4 (fun a ha=>L.w3 a ha);have n8:=h.n8;exact ⟨by have:=L.nV;omega,fun o ho=>by have:=zk.op o ho;omega,by have:=zk.od;omega,by have:=zk.lk;omega,by have:=zk.sg;omega,by omega⟩
 ·obtain ⟨k,hk,rfl⟩:=Y1 hc;have q:=Gj h' ((k:Int) + 1);have c4:=h'.gK (c:=(k:Int) + 1) (by omega) (by omega);exact ⟨by omega,by omega,by omega,by omega⟩
theorem Gp (h:Sx.Good s):Gn s:=by
 have h':=h.toMInv;obtain ⟨H,I⟩:=h.po;have c1:=h.c1;have sn:=h.sn;have po:=Po.Ux I (by have:=h.ca;have:=h.n8;omega);refine ⟨Bd.fw (zE h) (by omega),h.qs,fun k hk=>?_,fun k hk=>?_,fun k hk=>?_,fun k hk=>?_,by omega,by omega,po.1,po.2,h.rA,h.sR⟩
 ·have:=(h'.loc hk).rm;omega
 ·have:=Sx.Inv.jK h'.v ((k:Int) + 1) (by omega) (by omega);omega
 ·have c4:=h'.gK (c:=(k:Int) + 1) (by omega) (by omega);omega
 ·have q:=Gj h' ((k:Int) + 1);omega
theorem Np (h:Sx.MInv s) (hg:g < s.gs.length):0≤(Sx.op s g).ch∧(Sx.op s g).ch≤8∧(Sx.op s g).cases.length≤6:=by
 have L:=h.loc hg;unfold Sx.op;rw [List.getD_eq_getElem?_getD]
 cases e:(Sx.gr s g).ops[(Sx.gr s g).at_.toNat]? with
 | none=>simp [xE]
 | some o=>exact Y2 (L.gO o (List.mem_of_getElem? e))
theorem Y3 (h:Sx.MInv s) (hg:g < s.gs.length) (e:(Sx.gr s g).place=12∨(Sx.gr s g).place=16):Sx.made s (Sx.op s g).ch=true∧(Sx.cn s (Sx.op s g).ch).lock=g:=by
 have hm:=zC h hg (by omega);have pl:=wQ h hg (by omega);obtain ⟨k,hk,aR⟩:=rK hm;refine ⟨hm,?_⟩;refine (Sx.Inv.iX h.v (g:Int) (by omega) (by omega) (Sx.op s g).ch (by omega) (by omega)).1 ?_;have k1:2≤(Sx.op s g).kind∧(Sx.op s g).kind≤6:=by unfold aZ at pl;omega
 exact .inl ⟨k1.1,k1.2,rfl,by show 5≤(Sx.gr s g).place∧(Sx.gr s g).place≤12∨(Sx.gr s g).place=16∨21≤(Sx.gr s g).place∧(Sx.gr s g).place≤23;omega⟩
theorem Nq (h:Sx.Good s) (hg:g < s.gs.length):Ck s g:=by
 have h':=h.toMInv;have L:=h'.loc hg;have o:=Np h' hg;have co:=wE h hg;refine ⟨hg,L.a0,by omega,by omega,h.c8,h.f0,fun e=>zC h' hg (.inl e),fun e=>Y3 h' hg e,fun e=>?_,fun e=>?_⟩
 ·have:=co.BW e;exact this.2
 ·obtain ⟨a,l,e1,a0,a1,a2⟩:=co.BX e;have wk:=Sx.Inv.wk h'.v (g:Int) (by omega) (by omega) a (by show a∈(Sx.gr s g).ah;rw [e1];simp);refine ⟨a.toNat,l,by rw [e1,Int.toNat_of_nonneg a0],by omega,fun e2=>wk.1 (by omega),?_⟩;have:=zB (n:=s.gs.length) L.w4 (fun a ha=>L.w3 a ha);rw [e1] at this;have n8:=h.n8;simp at this;omega
end
def jO (p:List (List Pn.Op)) (sn cn:Int) (d l:List Int):Sx.St × Bool :=
 if 8 < p.length∨300 < d.length∨400 < l.length then (sj,false)
 else if (Sx.new p sn cn d).2=0 then ((Sx.runs (Sx.new p sn cn d).1 l).1,true) else ((Sx.new p sn cn d).1,false)
theorem Gq {p:List (List Pn.Op)} {sn cn:Int} {d l:List Int} (hd:∀ x∈d,0≤x∧x < 65536) (h:(jO p sn cn d l).2=true):Sx.Good (jO p sn cn d l).1:=by
 unfold jO at h ⊢
 split at h
 ·cases h
 ·rename_i c;rw [if_neg c]
  split at h
  ·rename_i c2;rw [if_pos c2];unfold Sx.new at c2 ⊢
   split at c2
   ·cases c2
   ·rename_i r1
    split at c2
    ·cases c2
    ·rename_i r2;rw [if_neg r1,if_neg r2];exact (Sx.Good.start (by simpa using r1) (by simpa using r2) hd (by omega)).runs l
  ·cases h
theorem Gs (p:List (List Pn.Op)) (sn cn:Int) (d l:List Int) (hd:∀ x∈d,0≤x∧x < 65536) :
  Pure Tryz.prog 15 [.agg (kP p sn cn d),.c (ints l)] (.aV [.agg (ay (jO p sn cn d l).1),.c (bI (jO p sn cn d l).2)]):=by
 have CN:=Wi p sn cn d;refine aq.intro Tryz.func15 rfl rfl rfl (fun ok e=>?_)
 cases t1:(decide ((p.length:Int) > 8)) with
 | true =>
  have er:jO p sn cn d l=(sj,false):=by unfold jO;rw [if_pos (.inl (by have:=of_decide_eq_true t1;omega))]
  rw [er]
  repeat (first | (refine K.store ?_;refine JO.ld (Ld.aP rfl rfl rfl (by exact rfl) (by exact rfl)) rfl (fun _=>?_)) | refine au ?_ | intro _)
  (exact J.ret Tryz.func15 rfl (.cons (.cell 0 rfl rfl rfl) (.cons (.tmp rfl) .nil)) () (by (exact .aV (by repeat (first | exact .nil | refine .cons (.agg (by repeat (first | exact .nil | refine .cons .refl ?_ | refine .cons .nil ?_))) ?_ | refine .cons .refl ?_)))) [] .nil rfl rfl)
 | false =>
 cases t2:(decide ((d.length:Int) > 300)) with
 | true =>
  have er:jO p sn cn d l=(sj,false):=by unfold jO;rw [if_pos (.inr (.inl (by have:=of_decide_eq_true t2;omega)))]
  rw [er]
  repeat (first | (refine K.store ?_;refine JO.ld (Ld.aP rfl rfl rfl (by exact rfl) (by exact rfl)) rfl (fun _=>?_)) | refine au ?_ | intro _)
  (exact J.ret Tryz.func15 rfl (.cons (.cell 0 rfl rfl rfl) (.cons (.tmp rfl) .nil)) () (by (exact .aV (by repeat (first | exact .nil | refine .cons (.agg (by repeat (first | exact .nil | refine .cons .refl ?_ | refine .cons .nil ?_))) ?_ | refine .cons .refl ?_)))) [] .nil rfl rfl)
 | false =>
 cases t3:(decide ((l.length:Int) > 400)) with
 | true =>
  have er:jO p sn cn d l=(sj,false):=by unfold jO;rw [if_pos (.inr (.inr (by have:=of_decide_eq_true t3;omega)))]
  rw [er]
  repeat (first | (refine K.store ?_;refine JO.ld (Ld.aP rfl rfl rfl (by exact rfl) (by exact rfl)) rfl (fun _=>?_)) | refine au ?_ | intro _)
  (exact J.ret Tryz.func15 rfl (.cons (.cell 0 rfl rfl rfl) (.cons (.tmp rfl) .nil)) () (by (exact .aV (by repeat (first | exact .nil | refine .cons (.agg (by repeat (first | exact .nil | refine .cons .refl ?_ | refine .cons .nil ?_))) ?_ | refine .cons .refl ?_)))) [] .nil rfl rfl)
 | false =>
 have u1:=of_decide_eq_false t1;have u2:=of_decide_eq_false t2;have u3:=of_decide_eq_false t3;have e1:¬ (8 < p.length∨300 < d.length∨400 < l.length):=by omega
 cases t4:((Sx.new p sn cn d).2 != 0) with
 | true =>
  have er:jO p sn cn d l=((Sx.new p sn cn d).1,false):=by unfold jO;rw [if_neg e1,if_neg (by simpa using t4)]
  rw [er]
  repeat (first | (refine K.store ?_;refine JO.ld (Ld.aP rfl rfl rfl (by exact rfl) (by exact rfl)) rfl (fun _=>?_)) | refine au ?_ | intro _)
  exact az Tryz.func15
 | false =>
  have t5:(Sx.new p sn cn d).2=0:=by simpa using t4
  have er:jO p sn cn d l=((Sx.runs (Sx.new p sn cn d).1 l).1,true):=by unfold jO;rw [if_neg e1,if_pos t5]
  have hg:Sx.Good (Sx.new p sn cn d).1∧(Sx.new p sn cn d).1.step=0:=by
   unfold Sx.new at t5 ⊢
   split at t5
   ·cases t5
   ·rename_i r1
    split at t5
    ·cases t5
    ·rename_i r2;rw [if_neg r1,if_neg r2];exact ⟨Sx.Good.start (by simpa using r1) (by simpa using r2) hd (by omega),rfl⟩
  have CR:=YZ (Sx.new p sn cn d).1 l hg.1 (by rw [hg.2];omega) (by rw [hg.2];omega) (by omega);rw [er]
  repeat (first | (refine K.store ?_;refine JO.ld (Ld.aP rfl rfl rfl (by exact rfl) (by exact rfl)) rfl (fun _=>?_)) | refine au ?_ | intro _)
  exact az Tryz.func15
theorem Gt {w:World} {cs:List Value} {a:tq} {U:List Nat} (h:rN w cs a U):∀ x∈a.d,0≤x∧x < 65536:=by
 obtain ⟨vp,vd,_,_,xs,T,v1,v2,_⟩:=h;intro x hx;obtain ⟨k,hk⟩:=List.getElem?_of_mem hx;obtain ⟨V,u1,_⟩:=v2 k x hk;have:=u1.2.1;simp only [Lit.wf,IntKind.min,IntKind.max,Bool.and_eq_true] at this;obtain ⟨q1,q2⟩:=this;have q3:decide ((0:Int)≤x)=true:=q1;have q4:decide (x≤(65535:Int))=true:=q2;simp only [decide_eq_true_eq] at q3 q4;omega
theorem Gu:fz Tryz.prog 28 (pF (kz .i64) 1) 1:=wS Tryz.underlying28 (by kernel_rfl) FK
theorem Nr {F:FuncId} {a:tq} {l:List Int} (h:Pure Tryz.prog F [.agg (kP a.p a.sn a.cn a.d),.c (ints l)] (.c (bI true))) {w:World} {cs:Array Value} {U:List Nat} {v:Value} {S:List Nat} (he:rN w cs.toList a U) (hl:GV (kz .i64) 1 w v l S):Calls Tryz.prog F #[.agg cs,v] w fun e w'=>e=.returned (.bool true)∧aj [] w w' :=
 Ml h (xs:=[.agg cs,v]) (bL.cons (by unfold RD;exact ⟨cs.toList,by simp,Mi he fun _ _=>trivial⟩) (bL.cons (by unfold RD;exact Mh.ra hl fun _ _=>trivial) bL.nil))
theorem Y4 {F:FuncId} {a:tq} {l:List Int} {n:Int} (h:Pure Tryz.prog F [.agg (kP a.p a.sn a.cn a.d),.c (ints l),.c (nI n)] (.c (bI true))) {w:World} {cs:Array Value} {U:List Nat} {v:Value} {S:List Nat} (he:rN w cs.toList a U) (hl:GV (kz .i64) 1 w v l S):Calls Tryz.prog F #[.agg cs,v,.int .i64 n] w fun e w'=>e=.returned (.bool true)∧aj [] w w' :=
 Ml h (xs:=[.agg cs,v,.int .i64 n]) (bL.cons (by unfold RD;exact ⟨cs.toList,by simp,Mi he fun _ _=>trivial⟩) (bL.cons (by unfold RD;exact Mh.ra hl fun _ _=>trivial) (bL.cons (RD.v rfl) bL.nil)))
end Fl
end Go.Proofs.YtofnbflkhgammaaGreat
