/-
  What the laws need, part B22.
  Conditions: none.
-/
import Derived.Test.YtgjpdogjekmemaaGreatB21
set_option linter.unusedVariables false
set_option linter.unusedSimpArgs false
set_option linter.unnecessarySimpa false
set_option maxHeartbeats 2000000
namespace Go.Proofs.YtgjpdogjekmemaaGreat
open Go.RowKit
namespace Fl
open Sx Go.Proofs.Tryz
set_option maxRecDepth 100000
section
variable {s:ai} {g:Nat}
end
def iU (p:List (List Pn.Op)) (sn cn:Int) (d l:List Int):ai × Bool :=
 if 8 < p.length∨300 < d.length∨400 < l.length then (nC,false)
 else if (Sx.new p sn cn d).2=0 then ((Sx.runs (Sx.new p sn cn d).1 l).1,true) else ((Sx.new p sn cn d).1,false)
theorem LN {p:List (List Pn.Op)} {sn cn:Int} {d l:List Int} (hd:∀ x∈d,0≤x∧x < 65536) (h:(iU p sn cn d l).2=true):Sx.Good (iU p sn cn d l).1:=by
 unfold iU at h ⊢
 split at h
 ·cases h
 ·rename_i c;rw [if_neg c]
  split at h
  ·rename_i c2;rw [if_pos c2];unfold Sx.new at c2 ⊢
   split at c2
   ·cases c2
   ·rename_i r1
    split at c2
    ·cases c2
    ·rename_i r2;rw [if_neg r1,if_neg r2];exact (Sx.Good.start (by simpa using r1) (by simpa using r2) hd (by omega)).runs l
  ·cases h
theorem LO (p:List (List Pn.Op)) (sn cn:Int) (d l:List Int) (hd:∀ x∈d,0≤x∧x < 65536) :
  Pure prog 7 [.agg (vN p sn cn d),.c (ints l)] (.aU [.agg (aC (iU p sn cn d l).1),.c (bI (iU p sn cn d l).2)]):=by
 have CN:=JV p sn cn d;refine aA.intro func7 rfl rfl rfl (fun ok e=>?_)
 cases t1:(decide ((p.length:Int) > 8)) with
 | true =>
  have er:iU p sn cn d l=(nC,false):=by unfold iU;rw [if_pos (.inl (by have:=of_decide_eq_true t1;omega))]
  rw [er]
  repeat (first | (refine K.store ?_;refine JO.ld (Ld.bu rfl rfl rfl (by exact rfl) (by exact rfl)) rfl (fun _=>?_)) | refine au ?_ | intro _)
  (exact J.ret func7 rfl (.cons (.cell 0 rfl rfl rfl) (.cons (.tmp rfl) .nil)) () (by (exact .aU (by repeat (first | exact .nil | refine .cons (.agg (by repeat (first | exact .nil | refine .cons .refl ?_ | refine .cons .nil ?_))) ?_ | refine .cons .refl ?_)))) [] .nil rfl rfl)
 | false =>
 cases t2:(decide ((d.length:Int) > 300)) with
 | true =>
  have er:iU p sn cn d l=(nC,false):=by unfold iU;rw [if_pos (.inr (.inl (by have:=of_decide_eq_true t2;omega)))]
  rw [er]
  repeat (first | (refine K.store ?_;refine JO.ld (Ld.bu rfl rfl rfl (by exact rfl) (by exact rfl)) rfl (fun _=>?_)) | refine au ?_ | intro _)
  (exact J.ret func7 rfl (.cons (.cell 0 rfl rfl rfl) (.cons (.tmp rfl) .nil)) () (by (exact .aU (by repeat (first | exact .nil | refine .cons (.agg (by repeat (first | exact .nil | refine .cons .refl ?_ | refine .cons .nil ?_))) ?_ | refine .cons .refl ?_)))) [] .nil rfl rfl)
 | false =>
 cases t3:(decide ((l.length:Int) > 400)) with
 | true =>
  have er:iU p sn cn d l=(nC,false):=by unfold iU;rw [if_pos (.inr (.inr (by have:=of_decide_eq_true t3;omega)))]
  rw [er]
  repeat (first | (refine K.store ?_;refine JO.ld (Ld.bu rfl rfl rfl (by exact rfl) (by exact rfl)) rfl (fun _=>?_)) | refine au ?_ | intro _)
  (exact J.ret func7 rfl (.cons (.cell 0 rfl rfl rfl) (.cons (.tmp rfl) .nil)) () (by (exact .aU (by repeat (first | exact .nil | refine .cons (.agg (by repeat (first | exact .nil | refine .cons .refl ?_ | refine .cons .nil ?_))) ?_ | refine .cons .refl ?_)))) [] .nil rfl rfl)
 | false =>
 have u1:=of_decide_eq_false t1;have u2:=of_decide_eq_false t2;have u3:=of_decide_eq_false t3;have e1:¬ (8 < p.length∨300 < d.length∨400 < l.length):=by omega
 cases t4:((Sx.new p sn cn d).2 != 0) with
 | true =>
  have er:iU p sn cn d l=((Sx.new p sn cn d).1,false):=by unfold iU;rw [if_neg e1,if_neg (by simpa using t4)]
  rw [er]
  repeat (first | (refine K.store ?_;refine JO.ld (Ld.bu rfl rfl rfl (by exact rfl) (by exact rfl)) rfl (fun _=>?_)) | refine au ?_ | intro _)
  exact az func7
 | false =>
  have t5:(Sx.new p sn cn d).2=0:=by simpa using t4
  have er:iU p sn cn d l=((Sx.runs (Sx.new p sn cn d).1 l).1,true):=by unfold iU;rw [if_neg e1,if_pos t5]
  have hg:Sx.Good (Sx.new p sn cn d).1∧(Sx.new p sn cn d).1.step=0:=by
   unfold Sx.new at t5 ⊢
   split at t5
   ·cases t5
   ·rename_i r1
    split at t5
    ·cases t5
    ·rename_i r2;rw [if_neg r1,if_neg r2];exact ⟨Sx.Good.start (by simpa using r1) (by simpa using r2) hd (by omega),rfl⟩
  have CR:=LM (Sx.new p sn cn d).1 l hg.1 (by rw [hg.2];omega) (by rw [hg.2];omega) (by omega);rw [er]
  repeat (first | (refine K.store ?_;refine JO.ld (Ld.bu rfl rfl rfl (by exact rfl) (by exact rfl)) rfl (fun _=>?_)) | refine au ?_ | intro _)
  exact az func7
theorem LU {w:World} {cs:List Value} {a:tU} {U:List Nat} (h:qU w cs a U):∀ x∈a.d,0≤x∧x < 65536:=by
 obtain ⟨vp,vd,_,_,xs,T,v1,v2,_⟩:=h;intro x hx;obtain ⟨k,hk⟩:=List.getElem?_of_mem hx;obtain ⟨V,u1,_⟩:=v2 k x hk;have:=u1.2.1;simp only [Lit.wf,IntKind.min,IntKind.max,Bool.and_eq_true] at this;obtain ⟨q1,q2⟩:=this;have q3:decide ((0:Int)≤x)=true:=q1;have q4:decide (x≤(65535:Int))=true:=q2;simp only [decide_eq_true_eq] at q3 q4;omega
theorem LW:eI prog 28 (lG (jH .i64) 1) 1:=rq Tryz.underlying28 (by kernel_rfl) yZ
theorem LX {F:FuncId} {a:tU} {l:List Int} (h:Pure prog F [.agg (vN a.p a.sn a.cn a.d),.c (ints l)] (.c (bI true))) {w:World} {cs:Array Value} {U:List Nat} {v:Value} {S:List Nat} (he:qU w cs.toList a U) (hl:GV (jH .i64) 1 w v l S):Calls prog F #[.agg cs,v] w fun e w'=>e=.returned (.bool true)∧aP [] w w' :=
 Hv h (xs:=[.agg cs,v]) (bU.cons (by unfold RD;exact ⟨cs.toList,by simp,J7 he fun _ _=>trivial⟩) (bU.cons (by unfold RD;exact J5.ra hl fun _ _=>trivial) bU.nil))
end Fl
open Go.RowKit
namespace Ta
theorem LY {s:Sx.ai} (h:Sx.MInv s):s.done.length≤128:=by
 have e:=h.dn;have:=Fl.Dy h;omega
end Ta
namespace Fl
open Sx Go.Proofs.Tryz
set_option maxRecDepth 100000
set_option maxHeartbeats 4000000
theorem LZ (p:List (List Pn.Op)) (sn cn:Int) (d l:List Int) (hd:∀ x∈d,0≤x∧x < 65536) :
  Pure prog 3 [.agg (vN p sn cn d),.c (ints l)] (.c (bI true)):=by
 have CA:=Hu;have CR:=LO p sn cn d l hd;have HG:=LN (p:=p) (sn:=sn) (cn:=cn) (l:=l) hd;generalize iU p sn cn d l=r at CR HG;obtain ⟨s,o⟩:=r;refine aA.intro func3 rfl rfl rfl (fun ok e=>?_)
 cases o with
 | false =>
  repeat (first | refine ke (CA) ?_ | refine au ?_ | intro _)
  refine J.draw (by kernel_rfl) rfl ?_;refine JW.base none ?_;refine tk 0 ?_;refine tk 1 ?_;refine tk 2 ?_
  (refine JD.skip 3 rfl rfl (by kernel_rfl) rfl (qb rfl) ?_)
  (refine JD.skip 4 rfl rfl (by kernel_rfl) rfl (qb rfl) ?_)
  (refine JD.skip 5 rfl rfl (by kernel_rfl) rfl (qb rfl) ?_)
  (refine JD.skip 6 rfl rfl (by kernel_rfl) rfl (qb rfl) ?_)
  (refine JD.skip 7 rfl rfl (by kernel_rfl) rfl (qb rfl) ?_)
  refine tk 8 ?_;refine tk 9 ?_;refine aX ?_;exact az func3
 | true =>
 have G:Sx.Good s:=HG rfl;have g8:=G.n8;have dn:=Ta.LY G.toMInv;have ln:=Ta.qu s s.gs.length;have lm:(Ta.marks s).length≤400:=by unfold Ta.marks Ta.told;rw [Ss.fL];omega
 have C1:=FQ s (by omega) g8;have C2:=G3 s (by omega) g8;have C3:=Ht (Ta.marks s) lm;clear HG
 repeat (first | refine ke (CA) ?_ | refine au ?_ | intro _)
 refine J.draw (by kernel_rfl) rfl ?_;refine JW.base none ?_;refine tk 0 ?_;refine tk 1 ?_;refine tk 2 ?_;refine tk 3 ?_;refine tk 5 ?_;refine jl 4 rfl rfl rfl rfl (Ld.pure (C1) (qb rfl) rfl (by repeat (first | exact bR.nil | refine bR.cons (dm.agg (by repeat (first | exact .nil | refine .cons .refl ?_))) ?_))) .none (fun _=>?_);refine jl 6 rfl rfl rfl rfl (Ld.pure (C2) (qb rfl) rfl (by repeat (first | exact bR.nil | refine bR.cons (dm.agg (by repeat (first | exact .nil | refine .cons .refl ?_))) ?_))) .none (fun _=>?_);refine cz 7 (C3) ?_;refine jk 8 rfl rfl rfl rfl (Qt.pick rfl rfl) ?_;refine jk 9 rfl rfl rfl rfl (Qt.assign rfl) ?_;refine aX ?_
 all_goals
  exact az func3
theorem L3 (w:World) (cs:Array Value) (a:tU) (U:List Nat) (sz:cs.size=4) (he:qU w cs.toList a U) (oc:∀ y∈cs.toList,y.oneCell'=true) (v:Value) (l:List Int) (S:List Nat) (hl:GV (jH .i64) 1 w v l S) :
  Calls prog 3 #[.agg cs,v] w fun e w'=>e=.returned (.bool true)∧aP [] w w' :=
 LX (LZ a.p a.sn a.cn a.d l (LU he)) he hl
end Fl
end Go.Proofs.YtgjpdogjekmemaaGreat
