/-
  What the laws need, part D39.
  Conditions: none.
-/
import Derived.Test.YtofnbflkhgammaaGreatD38
set_option linter.unusedVariables false
set_option linter.unusedSimpArgs false
set_option linter.unnecessarySimpa false
set_option maxHeartbeats 2000000
namespace Go.Proofs.YtofnbflkhgammaaGreat
open Go.RowKit
namespace Fl
open Sx Go.Proofs.Tryz
set_option maxRecDepth 100000
theorem Oy {s:ah} {g:Nat} {x:Gr} (h:g < s.gs.length):aa (ai s g x) g=x:=by
 unfold aa ai;simp [h]
structure BeOk (s:ah) (g:Nat):Prop where
 lt:g < s.gs.length
 fit:Fit s
 dh:0≤(aa s g).at_
 dr:0≤s.drawn∧s.drawn≤50000
 du:∀ x∈s.cG,0≤x∧x < 65536
 cl:(ag s g).cases.length≤1000
theorem YY (s:ah) (g:Nat) (h:BeOk s g) :
  Pure prog 198 [.agg (az s),.c (nI g)] (.agg (az (kA s g))):=by
 have hg:=h.lt;have hb:=h.fit.1.1;have aj:kA s g=kA s g:=rfl
 conv at aj=>rhs;unfold kA;simp only
 refine ax.intro func198 rfl rfl rfl (fun ok e=>?_)
 by_cases ha:((aa s g).ops.length:Int)≤(aa s g).at_
 ·rw [if_pos ha] at aj;rw [aj];have c1:(decide ((aa s g).at_ ≥ ((aa s g).ops.length:Int)))=true:=decide_eq_true ha
  repeat (first | refine aO (cP s g { aa s g with status:=2,token:=false } hg hb) ?_ | refine av ?_ | intro _)
  exact aA func198
 ·rw [if_neg ha] at aj;have c1:(decide ((aa s g).at_ ≥ ((aa s g).ops.length:Int)))=false:=decide_eq_false ha;have C1:=LM s g hg hb;have g1:g < (Sx.clear s g).gs.length:=by unfold Sx.clear;rw [cr];exact hg
  have b1:(Sx.clear s g).gs.length≤100000:=by unfold Sx.clear;rw [cr];exact hb
  have f1:Fit (Sx.clear s g):=h.fit.dy g _ ⟨by simp [o9,clean],by simp [o9,clean],by simp [o9,clean]⟩;have e1:aa (Sx.clear s g) g=o9 (aa s g):=Oy hg;have jK:(Sx.clear s g).drawn=s.drawn:=rfl;have YZ:(Sx.clear s g).cG=s.cG:=rfl;generalize Sx.clear s g=s1 at *;have C2:=cP s1 g { aa s1 g with call:=s1.step } g1 b1;have e2:aa (ai s1 g { aa s1 g with call:=s1.step }) g={ aa s1 g with call:=s1.step }:=Oy g1;have g2:g < (ai s1 g { aa s1 g with call:=s1.step }).gs.length:=by rw [cr];exact g1
  have b2:(ai s1 g { aa s1 g with call:=s1.step }).gs.length≤100000:=by rw [cr];exact b1
  have f2:Fit (ai s1 g { aa s1 g with call:=s1.step }):=f1.dy g _ ⟨f1.wk g,f1.od g,f1.sg g⟩;have Y0:(ai s1 g { aa s1 g with call:=s1.step }).drawn=s.drawn:=jK;have Y1:(ai s1 g { aa s1 g with call:=s1.step }).cG=s.cG:=YZ;generalize ai s1 g { aa s1 g with call:=s1.step }=s2 at *;have eo:ag s2 g=ag s g:=by unfold ag;rw [e2,e1];rfl
  have C3:=dA s2 g g2 (by rw [e2,e1];exact h.dh);rw [eo] at aj C3;have CM:=fu s2 (ag s g).ch;have On:Ox s2 g (ag s g):=⟨g2,f2,by rw [Y0];exact h.dr,by rw [Y1];exact h.du,h.cl⟩
  have KE:∀ v:Int,(ag s g).kind=v→∀ c,((ag s g).kind == c)=(v == c):=fun v hv c=>by rw [hv]
  by_cases Hj:(ag s g).kind=1∨(ag s g).kind=7∨(ag s g).kind=8
  ·rw [if_pos Hj] at aj;rw [aj];have C4:=fM s2 g 20 g2 b2;rcases Hj with hk | hk | hk
   all_goals
    repeat (first | refine aL (KE _ hk _) ?_ | refine av ?_ | intro _)
    exact aA func198
  rw [if_neg Hj] at aj
  by_cases Df:(ag s g).kind=2∨(ag s g).kind=3
  ·rw [if_pos Df] at aj
   cases hm:aN s2 (ag s g).ch with
   | true =>
    rw [if_pos hm] at aj;rw [hm] at CM;rw [aj];have C4:=fM s2 g 4 g2 b2;rcases Df with hk | hk
    all_goals
     repeat (first | refine aL (KE _ hk _) ?_ | refine av ?_ | intro _)
     exact aA func198
   | false =>
    rw [if_neg (by rw [hm];simp)] at aj;rw [hm] at CM;rw [aj];have C4:=Oo s2 g g2 b2;rcases Df with hk | hk
    all_goals
     repeat (first | refine aL (KE _ hk _) ?_ | refine av ?_ | intro _)
     exact aA func198
  rw [if_neg Df] at aj
  by_cases Dg:(ag s g).kind=4∨(ag s g).kind=5
  ·rw [if_pos Dg] at aj
   cases hm:aN s2 (ag s g).ch with
   | true =>
    rw [if_pos hm] at aj;rw [hm] at CM;rw [aj];have C4:=fM s2 g 1 g2 b2;rcases Dg with hk | hk
    all_goals
     repeat (first | refine aL (KE _ hk _) ?_ | refine av ?_ | intro _)
     exact aA func198
   | false =>
    rw [if_neg (by rw [hm];simp)] at aj;rw [hm] at CM;rw [aj];have C4:=jv s2 g (res 2) 18 g2 b2;rcases Dg with hk | hk
    all_goals
     repeat (first | refine aL (KE _ hk _) ?_ | refine av ?_ | intro _)
     exact aA func198
  rw [if_neg Dg] at aj
  by_cases hk:(ag s g).kind=6
  ·rw [if_pos hk] at aj
   cases hm:aN s2 (ag s g).ch with
   | true =>
    rw [if_pos hm] at aj;rw [hm] at CM;rw [aj];have C4:=fM s2 g 4 g2 b2
    repeat (first | refine aL (KE _ hk _) ?_ | refine av ?_ | intro _)
    exact aA func198
   | false =>
    rw [if_neg (by rw [hm];simp)] at aj;rw [hm] at CM;rw [aj];have C4:=jv s2 g (res 5) 18 g2 b2
    repeat (first | refine aL (KE _ hk _) ?_ | refine av ?_ | intro _)
    exact aA func198
  rw [if_neg hk] at aj;rw [aj];have C4:=YU s2 g (ag s g) On;have n1:((ag s g).kind == 1)=false:=by simp;omega
  have n2:((ag s g).kind == 2)=false:=by simp;omega
  have n3:((ag s g).kind == 3)=false:=by simp;omega
  have n4:((ag s g).kind == 4)=false:=by simp;omega
  have n5:((ag s g).kind == 5)=false:=by simp;omega
  have n6:((ag s g).kind == 6)=false:=by simp;omega
  have n7:((ag s g).kind == 7)=false:=by simp;omega
  have n8:((ag s g).kind == 8)=false:=by simp;omega
  repeat (first | refine av ?_ | intro _)
  exact aA func198
structure Oz (s:ah) (g:Nat):Prop extends BeOk s g where
 ab:(aa s g).at_≤100000
theorem Y2 (s:ah) (g:Nat) (h:Oz s g) :
  Pure prog 178 [.agg (az s),.c (nI g)] (.aZ [.agg (az (jj s g).1),.c (bI (jj s g).2)]):=by
 have hg:=h.lt;have ha:=h.dh;have aj:jj s g=jj s g:=rfl
 conv at aj=>rhs;unfold jj;simp only
 have P:∀ v:Int,(aa s g).place=v→∀ c,((aa s g).place == c)=(v == c):=fun v hv c=>by rw [hv]
 refine ax.intro func178 rfl rfl rfl (fun ok e=>?_)
 by_cases e0:(aa s g).place=0
 ·rw [if_pos e0] at aj;rw [aj]
  repeat (first | refine aL (P _ e0 _) ?_ | refine aO (YY s g h.toBeOk) ?_ | refine av ?_ | intro _)
  exact aA func178
 rw [if_neg e0] at aj
 by_cases e1:(aa s g).place=20
 ·rw [if_pos e1] at aj;rw [aj]
  repeat (first | refine aL (P _ e1 _) ?_ | refine aO (YR s g hg h.fit ha) ?_ | refine av ?_ | intro _)
  exact aA func178
 rw [if_neg e1] at aj
 by_cases e2:(aa s g).place=18
 ·rw [if_pos e2] at aj;rw [aj]
  repeat (first | refine aL (P _ e2 _) ?_ | refine aO (YQ s g hg h.fit ⟨by omega,h.ab⟩) ?_ | refine av ?_ | intro _)
  exact aA func178
 rw [if_neg e2] at aj;rw [aj];have n0:((aa s g).place == 0)=false:=by simp;omega
 have n1:((aa s g).place == 20)=false:=by simp;omega
 have n2:((aa s g).place == 18)=false:=by simp;omega
 repeat (first | refine av ?_ | intro _)
 exact aA func178
end Fl
end Go.Proofs.YtofnbflkhgammaaGreat
