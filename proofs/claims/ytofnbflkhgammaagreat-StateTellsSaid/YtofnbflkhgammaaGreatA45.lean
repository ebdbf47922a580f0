/-
  What the laws need, part A45.
  Conditions: none.
-/
import Derived.Test.YtofnbflkhgammaaGreatA42
set_option linter.unusedVariables false
set_option linter.unusedSimpArgs false
set_option linter.unnecessarySimpa false
set_option maxHeartbeats 2000000
namespace Go.Proofs.YtofnbflkhgammaaGreat
open Go.RowKit
namespace Fl
open Sx
set_option maxRecDepth 100000
theorem YT (s:Sx.St) (p:Int) (h:Sx.Good s) (h0:0≤s.step) (h1:s.step≤1000000) :
    Pure Tryz.prog 125 [.agg (ay s),.c (nI p)] (.aV [.agg (ay (Sx.one s p).1),.c (bI (Sx.one s p).2)]):=by
  have h':=h.toMInv;have ag:Sx.one s p=Sx.one s p:=rfl
  conv at ag=>rhs;unfold Sx.one;simp only
  refine aq.intro Tryz.func125 rfl rfl rfl (fun ok e=>?_)
  by_cases a1:p < 0
  · rw [if_pos (.inl a1)] at ag;rw [ag];have c1:(decide (p < 0))=true:=decide_eq_true a1
    repeat (first
        | (refine K.load ?_;(refine JO.q rfl rfl (qb rfl) (Qt.fB rfl (by exact rfl)) ?_))
        | (refine K.move ?_;refine JO.q rfl rfl (qb rfl) (Qt.move rfl) ?_)
        | (refine K.store ?_;(refine JO.ld (Ld.aP rfl rfl rfl (by exact rfl) (by exact rfl)) rfl (fun _=>?_)))
        | (refine K.assign ?_;refine JO.q rfl rfl (qb rfl) (Qt.assign rfl) ?_)
        | (refine K.binOp ?_;(refine JO.q rfl rfl (qb rfl) (Qt.cmp rfl rfl (congrArg some c1)) ?_))
        | (refine JO.alloc rfl (qb rfl) ?_;intro _)
        | (refine JO.box rfl (qb rfl) rfl rfl ?_;intro _)
        | (refine K.pick ?_;refine JO.q rfl rfl (qb rfl) (Qt.pick rfl rfl) ?_)
        | refine JO.nil ?_
        | refine J.seq ?_
        | refine J.region ?_
        | refine J.eN rfl ?_
        | refine JO.no rfl rfl (qb rfl) ?_)
    exact az Tryz.func125
  have c1:(decide (p < 0))=false:=decide_eq_false a1
  by_cases a2:(s.gs.length:Int)≤p
  · rw [if_pos (.inr (.inl a2))] at ag;rw [ag];have c2:(decide (p ≥ (s.gs.length:Int)))=true:=decide_eq_true a2
    repeat (first
        | (refine K.fieldAddr ?_;refine JO.q rfl rfl (qb rfl) (Qt.fieldAddr rfl rfl) ?_)
        | (refine K.load ?_;first | refine JO.q rfl rfl (qb rfl) (Qt.iC rfl (by exact rfl)) ?_ | refine JO.q rfl rfl (qb rfl) (Qt.fB rfl (by exact rfl)) ?_)
        | (refine K.move ?_;refine JO.q rfl rfl (qb rfl) (Qt.move rfl) ?_)
        | (refine K.store ?_;(refine JO.ld (Ld.aP rfl rfl rfl (by exact rfl) (by exact rfl)) rfl (fun _=>?_)))
        | (refine K.assign ?_;refine JO.q rfl rfl (qb rfl) (Qt.assign rfl) ?_)
        | (refine K.binOp ?_;first | refine JO.q rfl rfl (qb rfl) (Qt.cmp rfl rfl (congrArg some c1)) ?_ | refine JO.q rfl rfl (qb rfl) (Qt.cmp rfl rfl (congrArg some c2)) ?_)
        | (refine K.bi ?_;(refine JO.q rfl rfl (qb rfl) (Qt.jX rfl) ?_))
        | (refine JO.alloc rfl (qb rfl) ?_;intro _)
        | (refine JO.box rfl (qb rfl) rfl rfl ?_;intro _)
        | (refine K.pick ?_;refine JO.q rfl rfl (qb rfl) (Qt.pick rfl rfl) ?_)
        | refine JO.nil ?_
        | refine J.seq ?_
        | refine J.region ?_
        | refine J.eN rfl ?_
        | refine JO.no rfl rfl (qb rfl) ?_)
    exact az Tryz.func125
  have c2:(decide (p ≥ (s.gs.length:Int)))=false:=decide_eq_false a2;obtain ⟨g,rfl⟩:∃ g:Nat,p=g:=⟨p.toNat,by omega⟩
  have hg:g < s.gs.length:=by omega
  rw [Int.toNat_natCast] at ag
  by_cases a3:(Sx.gr s g).status=0
  · have c3:((Sx.gr s g).status != 0)=false:=by simp [a3]
    rw [ax] at ag;obtain ⟨n,hn⟩:∃ n:Sx.St,{ s with step:=s.step + 1 }=n:=⟨_,rfl⟩
    have gn:Sx.Good n:=by rw [← hn];exact ⟨h'.tick,h.z.of rfl⟩
    have zD:g < n.gs.length:=by rw [← hn];exact hg
    have sn:(Sx.gr n g).status=0:=by rw [← hn];exact a3
    have C1:=YA n g (YE gn zD);have C2:=Xm n g (YC gn zD sn);have C3:=XA n g (YD gn zD sn);have C4:=MP n g (Nh gn zD);have C5:=Ye n g (YG gn zD sn);rw [hn] at ag;have en:ay n=(ay s).set 2 (nI (s.step + 1)):=by rw [← hn];rfl
    rw [en] at C1 C2 C3 C4 C5;clear hn en
    cases k1:(iT n g).2 with
    | true =>
      rw [if_pos k1] at ag;rw [ag];rw [k1] at C1
      repeat (first
          | (refine K.fieldAddr ?_;refine JO.q rfl rfl (qb rfl) (Qt.fieldAddr rfl rfl) ?_)
          | (refine K.load ?_;first | refine JO.q rfl rfl (qb rfl) (Qt.lN rfl .el rfl) ?_ | refine JO.q rfl rfl (qb rfl) (Qt.iC rfl (by exact rfl)) ?_ | refine JO.q rfl rfl (qb rfl) (Qt.fB rfl (by exact rfl)) ?_)
          | (refine K.move ?_;refine JO.q rfl rfl (qb rfl) (Qt.move rfl) ?_)
          | (refine K.store ?_;first | refine JO.ld (Ld.aP rfl rfl rfl (by exact rfl) (by exact rfl)) rfl (fun _=>?_) | refine JO.ld (Ld.cG rfl rfl (by exact rfl)) rfl (fun _=>?_))
          | (refine K.assign ?_;refine JO.q rfl rfl (qb rfl) (Qt.assign rfl) ?_)
          | (refine K.indexAddr ?_;refine JO.q rfl rfl (qb rfl) (Qt.cq rfl rfl (by omega) (iA hg)) ?_)
          | (refine K.binOp ?_;first | refine JO.q rfl rfl (qb rfl) (Qt.cmp rfl rfl (congrArg some c1)) ?_ | refine JO.q rfl rfl (qb rfl) (Qt.cmp rfl rfl (congrArg some c2)) ?_ | refine JO.q rfl rfl (qb rfl) (Qt.cmp rfl rfl (congrArg some c3)) ?_ | refine JO.q rfl rfl (qb rfl) (Qt.cP rfl rfl rfl (fJ (by omega) (by omega))) ?_)
          | refine ei (C1) ?_
          | (refine K.bi ?_;(refine JO.q rfl rfl (qb rfl) (Qt.jX rfl) ?_))
          | (refine K.extract ?_;refine JO.q rfl rfl (qb rfl) (Qt.extract rfl rfl) ?_)
          | (refine JO.alloc rfl (qb rfl) ?_;intro _)
          | (refine JO.box rfl (qb rfl) rfl rfl ?_;intro _)
          | (refine K.pick ?_;refine JO.q rfl rfl (qb rfl) (Qt.pick rfl rfl) ?_)
          | refine JO.nil ?_
          | refine J.seq ?_
          | refine J.region ?_
          | refine J.skip ?_
          | refine J.eN rfl ?_
          | refine J.ez rfl ?_)
      exact az Tryz.func125
    | false =>
    rw [if_neg (by rw [k1];simp)] at ag;rw [k1] at C1
    cases k2:(bO n g).2 with
    | true =>
      rw [if_pos k2] at ag;rw [ag];rw [k2] at C2
      repeat (first
          | (refine K.fieldAddr ?_;refine JO.q rfl rfl (qb rfl) (Qt.fieldAddr rfl rfl) ?_)
          | (refine K.load ?_;first | refine JO.q rfl rfl (qb rfl) (Qt.lN rfl .el rfl) ?_ | refine JO.q rfl rfl (qb rfl) (Qt.iC rfl (by exact rfl)) ?_ | refine JO.q rfl rfl (qb rfl) (Qt.fB rfl (by exact rfl)) ?_)
          | (refine K.move ?_;refine JO.q rfl rfl (qb rfl) (Qt.move rfl) ?_)
          | (refine K.store ?_;first | refine JO.ld (Ld.aP rfl rfl rfl (by exact rfl) (by exact rfl)) rfl (fun _=>?_) | refine JO.ld (Ld.cG rfl rfl (by exact rfl)) rfl (fun _=>?_))
          | (refine K.assign ?_;refine JO.q rfl rfl (qb rfl) (Qt.assign rfl) ?_)
          | (refine K.indexAddr ?_;refine JO.q rfl rfl (qb rfl) (Qt.cq rfl rfl (by omega) (iA hg)) ?_)
          | (refine K.binOp ?_;first | refine JO.q rfl rfl (qb rfl) (Qt.cmp rfl rfl (congrArg some c1)) ?_ | refine JO.q rfl rfl (qb rfl) (Qt.cmp rfl rfl (congrArg some c2)) ?_ | refine JO.q rfl rfl (qb rfl) (Qt.cmp rfl rfl (congrArg some c3)) ?_ | refine JO.q rfl rfl (qb rfl) (Qt.cP rfl rfl rfl (fJ (by omega) (by omega))) ?_)
          | refine ei (C1) ?_ | refine ei (C2) ?_
          | (refine K.bi ?_;(refine JO.q rfl rfl (qb rfl) (Qt.jX rfl) ?_))
          | (refine K.extract ?_;refine JO.q rfl rfl (qb rfl) (Qt.extract rfl rfl) ?_)
          | (refine JO.alloc rfl (qb rfl) ?_;intro _)
          | (refine JO.box rfl (qb rfl) rfl rfl ?_;intro _)
          | (refine K.pick ?_;refine JO.q rfl rfl (qb rfl) (Qt.pick rfl rfl) ?_)
          | refine JO.nil ?_
          | refine J.seq ?_
          | refine J.region ?_
          | refine J.skip ?_
          | refine J.eN rfl ?_
          | refine J.ez rfl ?_)
      exact az Tryz.func125
    | false =>
    rw [if_neg (by rw [k2];simp)] at ag;rw [k2] at C2
    cases k3:(bE n g).2 with
    | true =>
      rw [if_pos k3] at ag;rw [ag];rw [k3] at C3
      repeat (first
          | (refine K.fieldAddr ?_;refine JO.q rfl rfl (qb rfl) (Qt.fieldAddr rfl rfl) ?_)
          | (refine K.load ?_;first | refine JO.q rfl rfl (qb rfl) (Qt.lN rfl .el rfl) ?_ | refine JO.q rfl rfl (qb rfl) (Qt.iC rfl (by exact rfl)) ?_ | refine JO.q rfl rfl (qb rfl) (Qt.fB rfl (by exact rfl)) ?_)
          | (refine K.move ?_;refine JO.q rfl rfl (qb rfl) (Qt.move rfl) ?_)
          | (refine K.store ?_;first | refine JO.ld (Ld.aP rfl rfl rfl (by exact rfl) (by exact rfl)) rfl (fun _=>?_) | refine JO.ld (Ld.cG rfl rfl (by exact rfl)) rfl (fun _=>?_))
          | (refine K.assign ?_;refine JO.q rfl rfl (qb rfl) (Qt.assign rfl) ?_)
          | (refine K.indexAddr ?_;refine JO.q rfl rfl (qb rfl) (Qt.cq rfl rfl (by omega) (iA hg)) ?_)
          | (refine K.binOp ?_;first | refine JO.q rfl rfl (qb rfl) (Qt.cmp rfl rfl (congrArg some c1)) ?_ | refine JO.q rfl rfl (qb rfl) (Qt.cmp rfl rfl (congrArg some c2)) ?_ | refine JO.q rfl rfl (qb rfl) (Qt.cmp rfl rfl (congrArg some c3)) ?_ | refine JO.q rfl rfl (qb rfl) (Qt.cP rfl rfl rfl (fJ (by omega) (by omega))) ?_)
          | refine ei (C1) ?_ | refine ei (C2) ?_ | refine ei (C3) ?_
          | (refine K.bi ?_;(refine JO.q rfl rfl (qb rfl) (Qt.jX rfl) ?_))
          | (refine K.extract ?_;refine JO.q rfl rfl (qb rfl) (Qt.extract rfl rfl) ?_)
          | (refine JO.alloc rfl (qb rfl) ?_;intro _)
          | (refine JO.box rfl (qb rfl) rfl rfl ?_;intro _)
          | (refine K.pick ?_;refine JO.q rfl rfl (qb rfl) (Qt.pick rfl rfl) ?_)
          | refine JO.nil ?_
          | refine J.seq ?_
          | refine J.region ?_
          | refine J.skip ?_
          | refine J.eN rfl ?_
          | refine J.ez rfl ?_)
      exact az Tryz.func125
    | false =>
    rw [if_neg (by rw [k3];simp)] at ag;rw [k3] at C3
    cases k4:(cD n g).2 with
    | true =>
      rw [if_pos k4] at ag;rw [ag];rw [k4] at C4
      repeat (first
          | (refine K.fieldAddr ?_;refine JO.q rfl rfl (qb rfl) (Qt.fieldAddr rfl rfl) ?_)
          | (refine K.load ?_;first | refine JO.q rfl rfl (qb rfl) (Qt.lN rfl .el rfl) ?_ | refine JO.q rfl rfl (qb rfl) (Qt.iC rfl (by exact rfl)) ?_ | refine JO.q rfl rfl (qb rfl) (Qt.fB rfl (by exact rfl)) ?_)
          | (refine K.move ?_;refine JO.q rfl rfl (qb rfl) (Qt.move rfl) ?_)
          | (refine K.store ?_;first | refine JO.ld (Ld.aP rfl rfl rfl (by exact rfl) (by exact rfl)) rfl (fun _=>?_) | refine JO.ld (Ld.cG rfl rfl (by exact rfl)) rfl (fun _=>?_))
          | (refine K.assign ?_;refine JO.q rfl rfl (qb rfl) (Qt.assign rfl) ?_)
          | (refine K.indexAddr ?_;refine JO.q rfl rfl (qb rfl) (Qt.cq rfl rfl (by omega) (iA hg)) ?_)
          | (refine K.binOp ?_;first | refine JO.q rfl rfl (qb rfl) (Qt.cmp rfl rfl (congrArg some c1)) ?_ | refine JO.q rfl rfl (qb rfl) (Qt.cmp rfl rfl (congrArg some c2)) ?_ | refine JO.q rfl rfl (qb rfl) (Qt.cmp rfl rfl (congrArg some c3)) ?_ | refine JO.q rfl rfl (qb rfl) (Qt.cP rfl rfl rfl (fJ (by omega) (by omega))) ?_)
          | refine ei (C1) ?_ | refine ei (C2) ?_ | refine ei (C3) ?_ | refine ei (C4) ?_
          | (refine K.bi ?_;(refine JO.q rfl rfl (qb rfl) (Qt.jX rfl) ?_))
          | (refine K.extract ?_;refine JO.q rfl rfl (qb rfl) (Qt.extract rfl rfl) ?_)
          | (refine JO.alloc rfl (qb rfl) ?_;intro _)
          | (refine JO.box rfl (qb rfl) rfl rfl ?_;intro _)
          | (refine K.pick ?_;refine JO.q rfl rfl (qb rfl) (Qt.pick rfl rfl) ?_)
          | refine JO.nil ?_
          | refine J.seq ?_
          | refine J.region ?_
          | refine J.skip ?_
          | refine J.eN rfl ?_
          | refine J.ez rfl ?_)
      exact az Tryz.func125
    | false =>
    rw [if_neg (by rw [k4];simp)] at ag;rw [k4] at C4
    cases k5:(bg n g).2 with
    | true =>
      rw [if_pos k5] at ag;rw [ag];rw [k5] at C5
      repeat (first
          | (refine K.fieldAddr ?_;refine JO.q rfl rfl (qb rfl) (Qt.fieldAddr rfl rfl) ?_)
          | (refine K.load ?_;first | refine JO.q rfl rfl (qb rfl) (Qt.lN rfl .el rfl) ?_ | refine JO.q rfl rfl (qb rfl) (Qt.iC rfl (by exact rfl)) ?_ | refine JO.q rfl rfl (qb rfl) (Qt.fB rfl (by exact rfl)) ?_)
          | (refine K.move ?_;refine JO.q rfl rfl (qb rfl) (Qt.move rfl) ?_)
          | (refine K.store ?_;first | refine JO.ld (Ld.aP rfl rfl rfl (by exact rfl) (by exact rfl)) rfl (fun _=>?_) | refine JO.ld (Ld.cG rfl rfl (by exact rfl)) rfl (fun _=>?_))
          | (refine K.assign ?_;refine JO.q rfl rfl (qb rfl) (Qt.assign rfl) ?_)
          | (refine K.indexAddr ?_;refine JO.q rfl rfl (qb rfl) (Qt.cq rfl rfl (by omega) (iA hg)) ?_)
          | (refine K.binOp ?_;first | refine JO.q rfl rfl (qb rfl) (Qt.cmp rfl rfl (congrArg some c1)) ?_ | refine JO.q rfl rfl (qb rfl) (Qt.cmp rfl rfl (congrArg some c2)) ?_ | refine JO.q rfl rfl (qb rfl) (Qt.cmp rfl rfl (congrArg some c3)) ?_ | refine JO.q rfl rfl (qb rfl) (Qt.cP rfl rfl rfl (fJ (by omega) (by omega))) ?_)
          | refine ei (C1) ?_ | refine ei (C2) ?_ | refine ei (C3) ?_ | refine ei (C4) ?_ | refine ei (C5) ?_
          | (refine K.bi ?_;(refine JO.q rfl rfl (qb rfl) (Qt.jX rfl) ?_))
          | (refine K.extract ?_;refine JO.q rfl rfl (qb rfl) (Qt.extract rfl rfl) ?_)
          | (refine JO.alloc rfl (qb rfl) ?_;intro _)
          | (refine JO.box rfl (qb rfl) rfl rfl ?_;intro _)
          | (refine K.pick ?_;refine JO.q rfl rfl (qb rfl) (Qt.pick rfl rfl) ?_)
          | refine JO.nil ?_
          | refine J.seq ?_
          | refine J.region ?_
          | refine J.skip ?_
          | refine J.eN rfl ?_
          | refine J.ez rfl ?_)
      exact az Tryz.func125
    | false =>
      rw [if_neg (by rw [k5];simp)] at ag;rw [ag];rw [k5] at C5
      repeat (first
          | (refine K.fieldAddr ?_;refine JO.q rfl rfl (qb rfl) (Qt.fieldAddr rfl rfl) ?_)
          | (refine K.load ?_;first | refine JO.q rfl rfl (qb rfl) (Qt.lN rfl .el rfl) ?_ | refine JO.q rfl rfl (qb rfl) (Qt.iC rfl (by exact rfl)) ?_ | refine JO.q rfl rfl (qb rfl) (Qt.fB rfl (by exact rfl)) ?_)
          | (refine K.move ?_;refine JO.q rfl rfl (qb rfl) (Qt.move rfl) ?_)
          | (refine K.store ?_;first | refine JO.ld (Ld.aP rfl rfl rfl (by exact rfl) (by exact rfl)) rfl (fun _=>?_) | refine JO.ld (Ld.cG rfl rfl (by exact rfl)) rfl (fun _=>?_))
          | (refine K.assign ?_;refine JO.q rfl rfl (qb rfl) (Qt.assign rfl) ?_)
          | (refine K.indexAddr ?_;refine JO.q rfl rfl (qb rfl) (Qt.cq rfl rfl (by omega) (iA hg)) ?_)
          | (refine K.binOp ?_;first | refine JO.q rfl rfl (qb rfl) (Qt.cmp rfl rfl (congrArg some c1)) ?_ | refine JO.q rfl rfl (qb rfl) (Qt.cmp rfl rfl (congrArg some c2)) ?_ | refine JO.q rfl rfl (qb rfl) (Qt.cmp rfl rfl (congrArg some c3)) ?_ | refine JO.q rfl rfl (qb rfl) (Qt.cP rfl rfl rfl (fJ (by omega) (by omega))) ?_)
          | refine ei (C1) ?_ | refine ei (C2) ?_ | refine ei (C3) ?_ | refine ei (C4) ?_ | refine ei (C5) ?_
          | (refine K.bi ?_;(refine JO.q rfl rfl (qb rfl) (Qt.jX rfl) ?_))
          | (refine K.extract ?_;refine JO.q rfl rfl (qb rfl) (Qt.extract rfl rfl) ?_)
          | (refine JO.alloc rfl (qb rfl) ?_;intro _)
          | (refine JO.box rfl (qb rfl) rfl rfl ?_;intro _)
          | (refine K.pick ?_;refine JO.q rfl rfl (qb rfl) (Qt.pick rfl rfl) ?_)
          | refine JO.nil ?_
          | refine J.seq ?_
          | refine J.region ?_
          | refine J.skip ?_
          | refine J.ez rfl ?_)
      exact az Tryz.func125
  · rw [if_pos (.inr (.inr a3))] at ag;rw [ag];have c3:((Sx.gr s g).status != 0)=true:=by simp [a3]
    repeat (first
        | (refine K.fieldAddr ?_;refine JO.q rfl rfl (qb rfl) (Qt.fieldAddr rfl rfl) ?_)
        | (refine K.load ?_;first | refine JO.q rfl rfl (qb rfl) (Qt.lN rfl .el rfl) ?_ | refine JO.q rfl rfl (qb rfl) (Qt.iC rfl (by exact rfl)) ?_ | refine JO.q rfl rfl (qb rfl) (Qt.fB rfl (by exact rfl)) ?_)
        | (refine K.move ?_;refine JO.q rfl rfl (qb rfl) (Qt.move rfl) ?_)
        | (refine K.store ?_;(refine JO.ld (Ld.aP rfl rfl rfl (by exact rfl) (by exact rfl)) rfl (fun _=>?_)))
        | (refine K.assign ?_;refine JO.q rfl rfl (qb rfl) (Qt.assign rfl) ?_)
        | (refine K.indexAddr ?_;refine JO.q rfl rfl (qb rfl) (Qt.cq rfl rfl (by omega) (iA hg)) ?_)
        | (refine K.binOp ?_;first | refine JO.q rfl rfl (qb rfl) (Qt.cmp rfl rfl (congrArg some c1)) ?_ | refine JO.q rfl rfl (qb rfl) (Qt.cmp rfl rfl (congrArg some c2)) ?_ | refine JO.q rfl rfl (qb rfl) (Qt.cmp rfl rfl (congrArg some c3)) ?_)
        | (refine K.bi ?_;(refine JO.q rfl rfl (qb rfl) (Qt.jX rfl) ?_))
        | (refine JO.alloc rfl (qb rfl) ?_;intro _)
        | (refine JO.box rfl (qb rfl) rfl rfl ?_;intro _)
        | (refine K.pick ?_;refine JO.q rfl rfl (qb rfl) (Qt.pick rfl rfl) ?_)
        | refine JO.nil ?_
        | refine J.seq ?_
        | refine J.region ?_
        | refine J.eN rfl ?_)
    exact az Tryz.func125
end Fl
end Go.Proofs.YtofnbflkhgammaaGreat
