/-
  What the laws need, part B19.
  Conditions: none.
-/
import Derived.Test.YtgjpdogjekmemaaGreatB18
set_option linter.unusedVariables false
set_option linter.unusedSimpArgs false
set_option linter.unnecessarySimpa false
set_option maxHeartbeats 2000000
namespace Go.Proofs.YtgjpdogjekmemaaGreat
open Go.RowKit
namespace Fl
open Sx Go.Proofs.Tryz
set_option maxRecDepth 100000
theorem Du {s:ai} {g:Nat} {x:Gr} (h:g < s.gs.length):aa (ah s g x) g=x:=by
 unfold aa ah;simp [h]
structure BeOk (s:ai) (g:Nat):Prop where
 lt:g < s.gs.length
 fit:Fit s
 cJ:0≤(aa s g).at_
 dr:0≤s.drawn∧s.drawn≤50000
 du:∀ x∈s.cY,0≤x∧x < 65536
 cl:(ag s g).cases.length≤1000
theorem Ln (s:ai) (g:Nat) (h:BeOk s g) :
  Pure prog 98 [.agg (aC s),.c (nI g)] (.agg (aC (iB s g))):=by
 have hg:=h.lt;have hb:=h.fit.1.1;have aj:iB s g=iB s g:=rfl
 conv at aj=>rhs;unfold iB;simp only
 refine aA.intro func98 rfl rfl rfl (fun ok e=>?_)
 by_cases ha:((aa s g).ops.length:Int)≤(aa s g).at_
 ·rw [if_pos ha] at aj;rw [aj];have c1:(decide ((aa s g).at_ ≥ ((aa s g).ops.length:Int)))=true:=decide_eq_true ha
  repeat (first | refine aO (cj s g { aa s g with status:=2,token:=false } hg hb) ?_ | refine au ?_ | intro _)
  exact az func98
 ·rw [if_neg ha] at aj;have c1:(decide ((aa s g).at_ ≥ ((aa s g).ops.length:Int)))=false:=decide_eq_false ha;have C1:=Az s g hg hb;have g1:g < (Sx.clear s g).gs.length:=by unfold Sx.clear;rw [bP];exact hg
  have b1:(Sx.clear s g).gs.length≤100000:=by unfold Sx.clear;rw [bP];exact hb
  have f1:Fit (Sx.clear s g):=h.fit.ff g _ ⟨by simp [kO,clean],by simp [kO,clean],by simp [kO,clean]⟩;have e1:aa (Sx.clear s g) g=kO (aa s g):=Du hg;have jY:(Sx.clear s g).drawn=s.drawn:=rfl;have Lp:(Sx.clear s g).cY=s.cY:=rfl;generalize Sx.clear s g=s1 at *;have C2:=cj s1 g { aa s1 g with call:=s1.step } g1 b1;have e2:aa (ah s1 g { aa s1 g with call:=s1.step }) g={ aa s1 g with call:=s1.step }:=Du g1;have g2:g < (ah s1 g { aa s1 g with call:=s1.step }).gs.length:=by rw [bP];exact g1
  have b2:(ah s1 g { aa s1 g with call:=s1.step }).gs.length≤100000:=by rw [bP];exact b1
  have f2:Fit (ah s1 g { aa s1 g with call:=s1.step }):=f1.ff g _ ⟨f1.wk g,f1.od g,f1.sg g⟩;have Ls:(ah s1 g { aa s1 g with call:=s1.step }).drawn=s.drawn:=jY;have Lu:(ah s1 g { aa s1 g with call:=s1.step }).cY=s.cY:=Lp;generalize ah s1 g { aa s1 g with call:=s1.step }=s2 at *;have eo:ag s2 g=ag s g:=by unfold ag;rw [e2,e1];rfl
  have C3:=cO s2 g g2 (by rw [e2,e1];exact h.cJ);rw [eo] at aj C3;have CM:=dN s2 (ag s g).ch;have Dn:Dt s2 g (ag s g):=⟨g2,f2,by rw [Ls];exact h.dr,by rw [Lu];exact h.du,h.cl⟩
  have KE:∀ v:Int,(ag s g).kind=v→∀ c,((ag s g).kind == c)=(v == c):=fun v hv c=>by rw [hv]
  by_cases y9:(ag s g).kind=1∨(ag s g).kind=7∨(ag s g).kind=8
  ·rw [if_pos y9] at aj;rw [aj];have C4:=dX s2 g 20 g2 b2;rcases y9 with hk | hk | hk
   all_goals
    repeat (first | refine aM (KE _ hk _) ?_ | refine au ?_ | intro _)
    exact az func98
  rw [if_neg y9] at aj
  by_cases vW:(ag s g).kind=2∨(ag s g).kind=3
  ·rw [if_pos vW] at aj
   cases hm:aR s2 (ag s g).ch with
   | true =>
    rw [if_pos hm] at aj;rw [hm] at CM;rw [aj];have C4:=dX s2 g 4 g2 b2;rcases vW with hk | hk
    all_goals
     repeat (first | refine aM (KE _ hk _) ?_ | refine au ?_ | intro _)
     exact az func98
   | false =>
    rw [if_neg (by rw [hm];simp)] at aj;rw [hm] at CM;rw [aj];have C4:=Bm s2 g g2 b2;rcases vW with hk | hk
    all_goals
     repeat (first | refine aM (KE _ hk _) ?_ | refine au ?_ | intro _)
     exact az func98
  rw [if_neg vW] at aj
  by_cases vX:(ag s g).kind=4∨(ag s g).kind=5
  ·rw [if_pos vX] at aj
   cases hm:aR s2 (ag s g).ch with
   | true =>
    rw [if_pos hm] at aj;rw [hm] at CM;rw [aj];have C4:=dX s2 g 1 g2 b2;rcases vX with hk | hk
    all_goals
     repeat (first | refine aM (KE _ hk _) ?_ | refine au ?_ | intro _)
     exact az func98
   | false =>
    rw [if_neg (by rw [hm];simp)] at aj;rw [hm] at CM;rw [aj];have C4:=gE s2 g (res 2) 18 g2 b2;rcases vX with hk | hk
    all_goals
     repeat (first | refine aM (KE _ hk _) ?_ | refine au ?_ | intro _)
     exact az func98
  rw [if_neg vX] at aj
  by_cases hk:(ag s g).kind=6
  ·rw [if_pos hk] at aj
   cases hm:aR s2 (ag s g).ch with
   | true =>
    rw [if_pos hm] at aj;rw [hm] at CM;rw [aj];have C4:=dX s2 g 4 g2 b2
    repeat (first | refine aM (KE _ hk _) ?_ | refine au ?_ | intro _)
    exact az func98
   | false =>
    rw [if_neg (by rw [hm];simp)] at aj;rw [hm] at CM;rw [aj];have C4:=gE s2 g (res 5) 18 g2 b2
    repeat (first | refine aM (KE _ hk _) ?_ | refine au ?_ | intro _)
    exact az func98
  rw [if_neg hk] at aj;rw [aj];have C4:=Lh s2 g (ag s g) Dn;have n1:((ag s g).kind == 1)=false:=by simp;omega
  have n2:((ag s g).kind == 2)=false:=by simp;omega
  have n3:((ag s g).kind == 3)=false:=by simp;omega
  have n4:((ag s g).kind == 4)=false:=by simp;omega
  have n5:((ag s g).kind == 5)=false:=by simp;omega
  have n6:((ag s g).kind == 6)=false:=by simp;omega
  have n7:((ag s g).kind == 7)=false:=by simp;omega
  have n8:((ag s g).kind == 8)=false:=by simp;omega
  repeat (first | refine au ?_ | intro _)
  exact az func98
structure Dv (s:ai) (g:Nat):Prop extends BeOk s g where
 ab:(aa s g).at_≤100000
theorem Lv (s:ai) (g:Nat) (h:Dv s g) :
  Pure prog 83 [.agg (aC s),.c (nI g)] (.aU [.agg (aC (gC s g).1),.c (bI (gC s g).2)]):=by
 have hg:=h.lt;have ha:=h.cJ;have aj:gC s g=gC s g:=rfl
 conv at aj=>rhs;unfold gC;simp only
 have P:∀ v:Int,(aa s g).place=v→∀ c,((aa s g).place == c)=(v == c):=fun v hv c=>by rw [hv]
 refine aA.intro func83 rfl rfl rfl (fun ok e=>?_)
 by_cases e0:(aa s g).place=0
 ·rw [if_pos e0] at aj;rw [aj]
  repeat (first | refine aM (P _ e0 _) ?_ | refine aO (Ln s g h.toBeOk) ?_ | refine au ?_ | intro _)
  exact az func83
 rw [if_neg e0] at aj
 by_cases e1:(aa s g).place=20
 ·rw [if_pos e1] at aj;rw [aj]
  repeat (first | refine aM (P _ e1 _) ?_ | refine aO (G0 s g hg h.fit ha) ?_ | refine au ?_ | intro _)
  exact az func83
 rw [if_neg e1] at aj
 by_cases e2:(aa s g).place=18
 ·rw [if_pos e2] at aj;rw [aj]
  repeat (first | refine aM (P _ e2 _) ?_ | refine aO (GZ s g hg h.fit ⟨by omega,h.ab⟩) ?_ | refine au ?_ | intro _)
  exact az func83
 rw [if_neg e2] at aj;rw [aj];have n0:((aa s g).place == 0)=false:=by simp;omega
 have n1:((aa s g).place == 20)=false:=by simp;omega
 have n2:((aa s g).place == 18)=false:=by simp;omega
 repeat (first | refine au ?_ | intro _)
 exact az func83
end Fl
end Go.Proofs.YtgjpdogjekmemaaGreat
