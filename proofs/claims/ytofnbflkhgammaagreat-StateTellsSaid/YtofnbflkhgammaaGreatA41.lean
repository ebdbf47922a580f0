/-
  What the laws need, part A41.
  Conditions: none.
-/
import Derived.Test.YtofnbflkhgammaaGreatA40
set_option linter.unusedVariables false
set_option linter.unusedSimpArgs false
set_option linter.unnecessarySimpa false
set_option maxHeartbeats 2000000
namespace Go.Proofs.YtofnbflkhgammaaGreat
open Go.RowKit
namespace Fl
open Sx
set_option maxRecDepth 100000
theorem Nc {s:Sx.St} {g:Nat} {x:Gr} (h:g < s.gs.length):Sx.gr (Sx.aa s g x) g=x:=by
 unfold Sx.gr Sx.aa;simp [h]
structure BeOk (s:Sx.St) (g:Nat):Prop where
 lt:g < s.gs.length
 fit:Fit s
 cY:0≤(Sx.gr s g).at_
 dr:0≤s.drawn∧s.drawn≤50000
 du:∀ x∈s.cL,0≤x∧x < 65536
 cl:(Sx.op s g).cases.length≤1000
theorem Yw (s:Sx.St) (g:Nat) (h:BeOk s g) :
  Pure Tryz.prog 198 [.agg (ay s),.c (nI g)] (.agg (ay (j7 s g))):=by
 have hg:=h.lt;have hb:=h.fit.1.1;have ag:j7 s g=j7 s g:=rfl
 conv at ag=>rhs;unfold j7;simp only
 refine aq.intro Tryz.func198 rfl rfl rfl (fun ok e=>?_)
 by_cases ha:((Sx.gr s g).ops.length:Int)≤(Sx.gr s g).at_
 ·rw [if_pos ha] at ag;rw [ag];have c1:(decide ((Sx.gr s g).at_ ≥ ((Sx.gr s g).ops.length:Int)))=true:=decide_eq_true ha
  repeat (first | refine aJ (cE s g { Sx.gr s g with status:=2,token:=false } hg hb) ?_ | refine au ?_ | intro _)
  exact az Tryz.func198
 ·rw [if_neg ha] at ag;have c1:(decide ((Sx.gr s g).at_ ≥ ((Sx.gr s g).ops.length:Int)))=false:=decide_eq_false ha;have C1:=FH s g hg hb;have g1:g < (Sx.clear s g).gs.length:=by unfold Sx.clear;rw [bV];exact hg
  have b1:(Sx.clear s g).gs.length≤100000:=by unfold Sx.clear;rw [bV];exact hb
  have f1:Fit (Sx.clear s g):=h.fit.aa g _ ⟨by simp [gu,clean],by simp [gu,clean],by simp [gu,clean]⟩;have e1:Sx.gr (Sx.clear s g) g=gu (Sx.gr s g):=Nc hg;have jG:(Sx.clear s g).drawn=s.drawn:=rfl;have Yx:(Sx.clear s g).cL=s.cL:=rfl;generalize Sx.clear s g=s1 at *;have C2:=cE s1 g { Sx.gr s1 g with call:=s1.step } g1 b1;have e2:Sx.gr (Sx.aa s1 g { Sx.gr s1 g with call:=s1.step }) g={ Sx.gr s1 g with call:=s1.step }:=Nc g1;have g2:g < (Sx.aa s1 g { Sx.gr s1 g with call:=s1.step }).gs.length:=by rw [bV];exact g1
  have b2:(Sx.aa s1 g { Sx.gr s1 g with call:=s1.step }).gs.length≤100000:=by rw [bV];exact b1
  have f2:Fit (Sx.aa s1 g { Sx.gr s1 g with call:=s1.step }):=f1.aa g _ ⟨f1.wk g,f1.od g,f1.sg g⟩;have Yy:(Sx.aa s1 g { Sx.gr s1 g with call:=s1.step }).drawn=s.drawn:=jG;have Yz:(Sx.aa s1 g { Sx.gr s1 g with call:=s1.step }).cL=s.cL:=Yx;generalize Sx.aa s1 g { Sx.gr s1 g with call:=s1.step }=s2 at *;have eo:Sx.op s2 g=Sx.op s g:=by unfold Sx.op;rw [e2,e1];rfl
  have C3:=dj s2 g g2 (by rw [e2,e1];exact h.cY);rw [eo] at ag C3;have CM:=eK s2 (Sx.op s g).ch;have M5:Nb s2 g (Sx.op s g):=⟨g2,f2,by rw [Yy];exact h.dr,by rw [Yz];exact h.du,h.cl⟩
  have KE:∀ v:Int,(Sx.op s g).kind=v→∀ c,((Sx.op s g).kind == c)=(v == c):=fun v hv c=>by rw [hv]
  by_cases Gi:(Sx.op s g).kind=1∨(Sx.op s g).kind=7∨(Sx.op s g).kind=8
  ·rw [if_pos Gi] at ag;rw [ag];have C4:=fG s2 g 20 g2 b2;rcases Gi with hk | hk | hk
   all_goals
    repeat (first | refine aM (KE _ hk _) ?_ | refine au ?_ | intro _)
    exact az Tryz.func198
  rw [if_neg Gi] at ag
  by_cases Cf:(Sx.op s g).kind=2∨(Sx.op s g).kind=3
  ·rw [if_pos Cf] at ag
   cases hm:Sx.made s2 (Sx.op s g).ch with
   | true =>
    rw [if_pos hm] at ag;rw [hm] at CM;rw [ag];have C4:=fG s2 g 4 g2 b2;rcases Cf with hk | hk
    all_goals
     repeat (first | refine aM (KE _ hk _) ?_ | refine au ?_ | intro _)
     exact az Tryz.func198
   | false =>
    rw [if_neg (by rw [hm];simp)] at ag;rw [hm] at CM;rw [ag];have C4:=M6 s2 g g2 b2;rcases Cf with hk | hk
    all_goals
     repeat (first | refine aM (KE _ hk _) ?_ | refine au ?_ | intro _)
     exact az Tryz.func198
  rw [if_neg Cf] at ag
  by_cases Cg:(Sx.op s g).kind=4∨(Sx.op s g).kind=5
  ·rw [if_pos Cg] at ag
   cases hm:Sx.made s2 (Sx.op s g).ch with
   | true =>
    rw [if_pos hm] at ag;rw [hm] at CM;rw [ag];have C4:=fG s2 g 1 g2 b2;rcases Cg with hk | hk
    all_goals
     repeat (first | refine aM (KE _ hk _) ?_ | refine au ?_ | intro _)
     exact az Tryz.func198
   | false =>
    rw [if_neg (by rw [hm];simp)] at ag;rw [hm] at CM;rw [ag];have C4:=jh s2 g (res 2) 18 g2 b2;rcases Cg with hk | hk
    all_goals
     repeat (first | refine aM (KE _ hk _) ?_ | refine au ?_ | intro _)
     exact az Tryz.func198
  rw [if_neg Cg] at ag
  by_cases hk:(Sx.op s g).kind=6
  ·rw [if_pos hk] at ag
   cases hm:Sx.made s2 (Sx.op s g).ch with
   | true =>
    rw [if_pos hm] at ag;rw [hm] at CM;rw [ag];have C4:=fG s2 g 4 g2 b2
    repeat (first | refine aM (KE _ hk _) ?_ | refine au ?_ | intro _)
    exact az Tryz.func198
   | false =>
    rw [if_neg (by rw [hm];simp)] at ag;rw [hm] at CM;rw [ag];have C4:=jh s2 g (res 5) 18 g2 b2
    repeat (first | refine aM (KE _ hk _) ?_ | refine au ?_ | intro _)
    exact az Tryz.func198
  rw [if_neg hk] at ag;rw [ag];have C4:=Ys s2 g (Sx.op s g) M5;have n1:((Sx.op s g).kind == 1)=false:=by simp;omega
  have n2:((Sx.op s g).kind == 2)=false:=by simp;omega
  have n3:((Sx.op s g).kind == 3)=false:=by simp;omega
  have n4:((Sx.op s g).kind == 4)=false:=by simp;omega
  have n5:((Sx.op s g).kind == 5)=false:=by simp;omega
  have n6:((Sx.op s g).kind == 6)=false:=by simp;omega
  have n7:((Sx.op s g).kind == 7)=false:=by simp;omega
  have n8:((Sx.op s g).kind == 8)=false:=by simp;omega
  repeat (first | refine au ?_ | intro _)
  exact az Tryz.func198
structure Nd (s:Sx.St) (g:Nat):Prop extends BeOk s g where
 ab:(Sx.gr s g).at_≤100000
theorem YA (s:Sx.St) (g:Nat) (h:Nd s g) :
  Pure Tryz.prog 178 [.agg (ay s),.c (nI g)] (.aV [.agg (ay (iT s g).1),.c (bI (iT s g).2)]):=by
 have hg:=h.lt;have ha:=h.cY;have ag:iT s g=iT s g:=rfl
 conv at ag=>rhs;unfold iT;simp only
 have P:∀ v:Int,(Sx.gr s g).place=v→∀ c,((Sx.gr s g).place == c)=(v == c):=fun v hv c=>by rw [hv]
 refine aq.intro Tryz.func178 rfl rfl rfl (fun ok e=>?_)
 by_cases e0:(Sx.gr s g).place=0
 ·rw [if_pos e0] at ag;rw [ag]
  repeat (first | refine aM (P _ e0 _) ?_ | refine aJ (Yw s g h.toBeOk) ?_ | refine au ?_ | intro _)
  exact az Tryz.func178
 rw [if_neg e0] at ag
 by_cases e1:(Sx.gr s g).place=20
 ·rw [if_pos e1] at ag;rw [ag]
  repeat (first | refine aM (P _ e1 _) ?_ | refine aJ (Yp s g hg h.fit ha) ?_ | refine au ?_ | intro _)
  exact az Tryz.func178
 rw [if_neg e1] at ag
 by_cases e2:(Sx.gr s g).place=18
 ·rw [if_pos e2] at ag;rw [ag]
  repeat (first | refine aM (P _ e2 _) ?_ | refine aJ (Yo s g hg h.fit ⟨by omega,h.ab⟩) ?_ | refine au ?_ | intro _)
  exact az Tryz.func178
 rw [if_neg e2] at ag;rw [ag];have n0:((Sx.gr s g).place == 0)=false:=by simp;omega
 have n1:((Sx.gr s g).place == 20)=false:=by simp;omega
 have n2:((Sx.gr s g).place == 18)=false:=by simp;omega
 repeat (first | refine au ?_ | intro _)
 exact az Tryz.func178
end Fl
end Go.Proofs.YtofnbflkhgammaaGreat
