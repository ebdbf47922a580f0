/-
  What the laws need, part A33.
  Conditions: none.
-/
import Derived.Test.YtofnbflkhgammaaGreatA32
set_option linter.unusedVariables false
set_option linter.unusedSimpArgs false
set_option linter.unnecessarySimpa false
set_option maxHeartbeats 2000000
namespace Go.Proofs.YtofnbflkhgammaaGreat
open Go.RowKit
namespace Fl
open Sx
set_option maxRecDepth 100000
structure uM (s:Sx.St) (g:Nat):Prop where
 co:wz s g
 fit:Fit s
 B6:(Sx.gr s g).place=22→(∀ i l,(cn s (Sx.op s g).ch).recv=i :: l→dm s i)∧(∀ i l,(cn s (Sx.op s g).ch).send=i :: l→dm s i)
 Gc:(Sx.gr s g).place=23→dm s (Sx.gr s g).hold
theorem MN {s:Sx.St} {g:Nat} {x:Gr} (h:g < s.gs.length):Sx.gr (Sx.aa s g x) g=x:=by
 unfold Sx.gr Sx.aa;simp [h]
theorem XB {s:Sx.St} {o g:Nat} {x:Gr} (e:x.hold=(Sx.gr s o).hold):(Sx.gr (Sx.aa s o x) g).hold=(Sx.gr s g).hold:=by
 by_cases h:o=g
 ·subst h;rcases B3 s o x o with e1 | e1
  ·rw [e1,e]
  ·rw [e1]
 ·have:Sx.gr (Sx.aa s o x) g=Sx.gr s g:=by
   unfold Sx.gr Sx.aa;simp only [List.getD_eq_getElem?_getD,List.getElem?_set];rw [if_neg h]
  rw [this]
theorem MO (s:Sx.St) (g:Nat):(Sx.eU s g).gs.length=s.gs.length:=by
 unfold Sx.eU;simp only [rP,bV,fL]
theorem XC (s:Sx.St) (g:Nat) (h:uM s g) (hk:(Sx.op s g).kind=6) (hc:(common s g).2=false) (hm:Sx.made s (Sx.op s g).ch=true) (e0:(Sx.gr s g).place=21) :
  Pure Tryz.prog 94 [.agg (ay s),.c (nI g)] (.aV [.agg (ay (cD s g).1),.c (bI (cD s g).2)]):=by
 have hg:=h.co.lt;have hf:Few s:=h.fit.toAnd;have hb:=hf.1;have dz:=hf.2.1;have C0:=dj s g hg h.co.cY;have C1:=fy s g h.co;have K6:((Sx.op s g).kind != 6)=false:=by rw [hk];rfl
 have aS:¬ ((Sx.op s g).kind≠6):=by omega
 have cr:¬ (common s g).2=true:=by rw [hc];simp
 rw [hc] at C1;have CM:=eK s (Sx.op s g).ch;have cz:¬ Sx.made s (Sx.op s g).ch=false:=by rw [hm];simp
 have hl:=eD hm;rw [hm] at CM;have ag:cD s g=cD s g:=rfl
 conv at ag=>rhs;unfold cD;simp only;rw [if_neg aS,if_neg cr,if_neg cz]
 have P:∀ c,((Sx.gr s g).place == c)=((21:Int) == c):=fun c=>by rw [e0]
 refine aq.intro Tryz.func94 rfl rfl rfl (fun ok e=>?_);rw [if_pos e0] at ag
 cases bQ:(cn s (Sx.op s g).ch).closed with
 | true =>
  rw [if_pos bQ] at ag;rw [ag]
  repeat (first | refine J.eN (congrArg (fun b=>some (D.c (bI b))) bQ) ?_ | refine aM (P _) ?_ | refine aJ (jh s g (res 4) 16 hg hb) ?_ | refine au ?_ | intro _)
  exact az Tryz.func94
 | false =>
  rw [if_neg (by rw [bQ];simp)] at ag;rw [ag]
  repeat (first | refine J.ez (congrArg (fun b=>some (D.c (bI b))) bQ) ?_ | refine aM (P _) ?_ | refine aJ (mX s (Sx.op s g).ch { (cn s (Sx.op s g).ch) with closed:=true } hm dz) ?_ | refine aJ (jh (Sx.av s (Sx.op s g).ch { (cn s (Sx.op s g).ch) with closed:=true }) g lu 22 hg hb) ?_ | refine au ?_ | intro _)
  exact az Tryz.func94
theorem XD (s:Sx.St) (g:Nat) (h:uM s g) (hk:(Sx.op s g).kind=6) (hc:(common s g).2=false) (hm:Sx.made s (Sx.op s g).ch=true) (e0:(Sx.gr s g).place=22) :
  Pure Tryz.prog 94 [.agg (ay s),.c (nI g)] (.aV [.agg (ay (cD s g).1),.c (bI (cD s g).2)]):=by
 have hg:=h.co.lt;have hf:Few s:=h.fit.toAnd;have hb:=hf.1;have dz:=hf.2.1;have C0:=dj s g hg h.co.cY;have C1:=fy s g h.co;have K6:((Sx.op s g).kind != 6)=false:=by rw [hk];rfl
 have aS:¬ ((Sx.op s g).kind≠6):=by omega
 have cr:¬ (common s g).2=true:=by rw [hc];simp
 rw [hc] at C1;have CM:=eK s (Sx.op s g).ch;have cz:¬ Sx.made s (Sx.op s g).ch=false:=by rw [hm];simp
 have hl:=eD hm;rw [hm] at CM;have ag:cD s g=cD s g:=rfl
 conv at ag=>rhs;unfold cD;simp only;rw [if_neg aS,if_neg cr,if_neg cz]
 have P:∀ c,((Sx.gr s g).place == c)=((22:Int) == c):=fun c=>by rw [e0]
 refine aq.intro Tryz.func94 rfl rfl rfl (fun ok e=>?_);rw [ax] at ag;rw [if_pos e0] at ag
 cases hr:(cn s (Sx.op s g).ch).recv with
 | cons a l =>
  have hz:(decide (((cn s (Sx.op s g).ch).recv.length:Int) > 0))=true:=by rw [hr];simp
  have w0:((cn s (Sx.op s g).ch).recv.map fun n=>[nI n])[(0:Int).toNat]?=some [nI a]:=by rw [hr];rfl
  rw [if_pos (by rw [hr];simp),hr] at ag;dsimp only [List.headD_cons] at ag;have k0:dm s a:=(h.B6 e0).1 a l hr;have k1:dm (Sx.aa s g { Sx.gr s g with hold:=a }) a:=k0.of rfl (bV _ _ _);have g1:g < (Sx.aa s g { Sx.gr s g with hold:=a }).gs.length:=by rw [bV];exact hg
  have f1:=h.fit.aa g { Sx.gr s g with hold:=a } ⟨h.fit.wk g,h.fit.od g,h.fit.sg g⟩;have hh:(Sx.gr (Sx.aa s g { Sx.gr s g with hold:=a }) g).hold=a:=by rw [MN hg]
  have D1:=cE s g { Sx.gr s g with hold:=a } hg hb;have D2:=fG (Sx.aa s g { Sx.gr s g with hold:=a }) g 23 g1 f1.1.1;have D3:=Gb (Sx.aa s g { Sx.gr s g with hold:=a }) g g1 (by rw [hh];exact k1) f1;have tw:eB s g a=if 0≤(su (Sx.aa s g { Sx.gr s g with hold:=a }) a).cs then Sx.aE (Sx.aa s g { Sx.gr s g with hold:=a }) g 23 else Sx.eU (Sx.aa s g { Sx.gr s g with hold:=a }) g:=rfl
  rw [tw] at ag;clear tw hh;generalize Sx.aa s g { Sx.gr s g with hold:=a }=s1 at *;have q0:=k1.1
  cases ji:decide ((su s1 a).cs ≥ 0) with
  | true =>
   rw [if_pos (by simpa using ji)] at ag;rw [ag]
   repeat (first | (refine K.indexAddr ?_;refine jx rfl rfl rfl rfl (by omega) (ic k1.1 k1.2.1) ?_) | refine aM (P _) ?_ | refine au ?_ | intro _)
   exact az Tryz.func94
  | false =>
   rw [if_neg (by simpa using ji)] at ag;rw [ag]
   repeat (first | (refine K.indexAddr ?_;refine jx rfl rfl rfl rfl (by omega) (ic k1.1 k1.2.1) ?_) | refine aM (P _) ?_ | refine au ?_ | intro _)
   exact az Tryz.func94
 | nil =>
  have hz:(decide (((cn s (Sx.op s g).ch).recv.length:Int) > 0))=false:=by rw [hr];rfl
  rw [if_neg (by rw [hr];simp)] at ag
  cases hs:(cn s (Sx.op s g).ch).send with
  | cons a l =>
   have hy:(decide (((cn s (Sx.op s g).ch).send.length:Int) > 0))=true:=by rw [hs];simp
   have w0:((cn s (Sx.op s g).ch).send.map fun n=>[nI n])[(0:Int).toNat]?=some [nI a]:=by rw [hs];rfl
   rw [if_pos (by rw [hs];simp),hs] at ag;dsimp only [List.headD_cons] at ag;have k0:dm s a:=(h.B6 e0).2 a l hs;have k1:dm (Sx.aa s g { Sx.gr s g with hold:=a }) a:=k0.of rfl (bV _ _ _);have g1:g < (Sx.aa s g { Sx.gr s g with hold:=a }).gs.length:=by rw [bV];exact hg
   have f1:=h.fit.aa g { Sx.gr s g with hold:=a } ⟨h.fit.wk g,h.fit.od g,h.fit.sg g⟩;have hh:(Sx.gr (Sx.aa s g { Sx.gr s g with hold:=a }) g).hold=a:=by rw [MN hg]
   have D1:=cE s g { Sx.gr s g with hold:=a } hg hb;have D2:=fG (Sx.aa s g { Sx.gr s g with hold:=a }) g 23 g1 f1.1.1;have D3:=Gb (Sx.aa s g { Sx.gr s g with hold:=a }) g g1 (by rw [hh];exact k1) f1;have tw:eB s g a=if 0≤(su (Sx.aa s g { Sx.gr s g with hold:=a }) a).cs then Sx.aE (Sx.aa s g { Sx.gr s g with hold:=a }) g 23 else Sx.eU (Sx.aa s g { Sx.gr s g with hold:=a }) g:=rfl
   rw [tw] at ag;clear tw hh;generalize Sx.aa s g { Sx.gr s g with hold:=a }=s1 at *;have q0:=k1.1
   cases ji:decide ((su s1 a).cs ≥ 0) with
   | true =>
    rw [if_pos (by simpa using ji)] at ag;rw [ag]
    repeat (first | (refine K.indexAddr ?_;refine jx rfl rfl rfl rfl (by omega) (ic k1.1 k1.2.1) ?_) | refine aM (P _) ?_ | refine au ?_ | intro _)
    exact az Tryz.func94
   | false =>
    rw [if_neg (by simpa using ji)] at ag;rw [ag]
    repeat (first | (refine K.indexAddr ?_;refine jx rfl rfl rfl rfl (by omega) (ic k1.1 k1.2.1) ?_) | refine aM (P _) ?_ | refine au ?_ | intro _)
    exact az Tryz.func94
  | nil =>
   have hy:(decide (((cn s (Sx.op s g).ch).send.length:Int) > 0))=false:=by rw [hs];rfl
   rw [if_neg (by rw [hs];simp)] at ag;rw [ag]
   repeat (first | refine aM (P _) ?_ | refine aJ (fG s g 16 hg hb) ?_ | refine au ?_ | intro _)
   exact az Tryz.func94
theorem XE (s:Sx.St) (g:Nat) (h:uM s g) (hk:(Sx.op s g).kind=6) (hc:(common s g).2=false) (hm:Sx.made s (Sx.op s g).ch=true) (e0:(Sx.gr s g).place=23) :
  Pure Tryz.prog 94 [.agg (ay s),.c (nI g)] (.aV [.agg (ay (cD s g).1),.c (bI (cD s g).2)]):=by
 have hg:=h.co.lt;have hf:Few s:=h.fit.toAnd;have hb:=hf.1;have dz:=hf.2.1;have C0:=dj s g hg h.co.cY;have C1:=fy s g h.co;have K6:((Sx.op s g).kind != 6)=false:=by rw [hk];rfl
 have aS:¬ ((Sx.op s g).kind≠6):=by omega
 have cr:¬ (common s g).2=true:=by rw [hc];simp
 rw [hc] at C1;have CM:=eK s (Sx.op s g).ch;have cz:¬ Sx.made s (Sx.op s g).ch=false:=by rw [hm];simp
 have hl:=eD hm;rw [hm] at CM;have ag:cD s g=cD s g:=rfl
 conv at ag=>rhs;unfold cD;simp only;rw [if_neg aS,if_neg cr,if_neg cz]
 have P:∀ c,((Sx.gr s g).place == c)=((23:Int) == c):=fun c=>by rw [e0]
 refine aq.intro Tryz.func94 rfl rfl rfl (fun ok e=>?_);rw [ax,ax] at ag;rw [if_pos e0] at ag;have hi:=h.Gc e0;obtain ⟨fV,dI,dA,gP⟩:=id hi;have W8:=hi.gr;have tw:gN s g=if (Sx.gr s (su s (Sx.gr s g).hold).g.toNat).aX=true then Sx.aa (Sx.drop s (Sx.gr s g).hold) g { Sx.gr s g with hold:=-1,place:=22 } else Sx.aE (Sx.eU (Sx.aa s (su s (Sx.gr s g).hold).g.toNat { Sx.gr s (su s (Sx.gr s g).hold).g.toNat with aX:=true }) g) g 22:=rfl
 rw [tw] at ag;clear tw
 cases hp:(Sx.gr s (su s (Sx.gr s g).hold).g.toNat).aX with
 | true =>
  rw [if_pos hp] at ag;have D1:=tr s (Sx.gr s g).hold fV dI (Nat.le_trans (h.fit.rv _) (by omega)) (Nat.le_trans (h.fit.sd _) (by omega)) dz;have D2:=cE (Sx.drop s (Sx.gr s g).hold) g { Sx.gr s g with hold:=-1,place:=22 } (by rw [fL];exact hg) (by rw [fL];exact hb);rw [ag]
  repeat (first | refine J.eN (congrArg (fun b=>some (D.c (bI b))) hp) ?_ | (refine K.indexAddr ?_;refine jx rfl rfl rfl rfl (by omega) (ic fV dI) ?_) | refine aM (P _) ?_ | refine au ?_ | intro _)
  exact az Tryz.func94
 | false =>
  rw [if_neg (by rw [hp];simp)] at ag;have D1:=zc s (su s (Sx.gr s g).hold).g { Sx.gr s (su s (Sx.gr s g).hold).g.toNat with aX:=true } dA gP hb;have f1:=h.fit.aa (su s (Sx.gr s g).hold).g.toNat { Sx.gr s (su s (Sx.gr s g).hold).g.toNat with aX:=true } ⟨h.fit.wk _,h.fit.od _,h.fit.sg _⟩;have k1:dm (Sx.aa s (su s (Sx.gr s g).hold).g.toNat { Sx.gr s (su s (Sx.gr s g).hold).g.toNat with aX:=true }) (Sx.gr s g).hold:=hi.of rfl (bV _ _ _);have g1:g < (Sx.aa s (su s (Sx.gr s g).hold).g.toNat { Sx.gr s (su s (Sx.gr s g).hold).g.toNat with aX:=true }).gs.length:=by rw [bV];exact hg
  have hh:(Sx.gr (Sx.aa s (su s (Sx.gr s g).hold).g.toNat { Sx.gr s (su s (Sx.gr s g).hold).g.toNat with aX:=true }) g).hold=(Sx.gr s g).hold:=XB rfl;have D2:=Gb _ g g1 (by rw [hh];exact k1) f1;generalize Sx.aa s (su s (Sx.gr s g).hold).g.toNat { Sx.gr s (su s (Sx.gr s g).hold).g.toNat with aX:=true }=s1 at *;have D3:=fG (Sx.eU s1 g) g 22 (by rw [MO];exact g1) (by rw [MO];exact f1.1.1);rw [ag]
  repeat (first | refine J.ez (congrArg (fun b=>some (D.c (bI b))) hp) ?_ | (refine K.indexAddr ?_;refine jx rfl rfl rfl rfl (by omega) (ic fV dI) ?_) | refine aM (P _) ?_ | refine au ?_ | intro _)
  exact az Tryz.func94
theorem XF (s:Sx.St) (g:Nat) (h:uM s g) (hk:(Sx.op s g).kind=6) (hc:(common s g).2=false) (hm:Sx.made s (Sx.op s g).ch=true) (e0:¬ ((Sx.gr s g).place=21∨(Sx.gr s g).place=22∨(Sx.gr s g).place=23)) :
  Pure Tryz.prog 94 [.agg (ay s),.c (nI g)] (.aV [.agg (ay (cD s g).1),.c (bI (cD s g).2)]):=by
 have hg:=h.co.lt;have hf:Few s:=h.fit.toAnd;have hb:=hf.1;have dz:=hf.2.1;have C0:=dj s g hg h.co.cY;have C1:=fy s g h.co;have K6:((Sx.op s g).kind != 6)=false:=by rw [hk];rfl
 have aS:¬ ((Sx.op s g).kind≠6):=by omega
 have cr:¬ (common s g).2=true:=by rw [hc];simp
 rw [hc] at C1;have CM:=eK s (Sx.op s g).ch;have cz:¬ Sx.made s (Sx.op s g).ch=false:=by rw [hm];simp
 have hl:=eD hm;rw [hm] at CM;have ag:cD s g=cD s g:=rfl
 conv at ag=>rhs;unfold cD;simp only;rw [if_neg aS,if_neg cr,if_neg cz]
 refine aq.intro Tryz.func94 rfl rfl rfl (fun ok e=>?_);rw [ax,ax,ax] at ag;have P21:((Sx.gr s g).place == 21)=false:=by simp;omega
 have P22:((Sx.gr s g).place == 22)=false:=by simp;omega
 have P23:((Sx.gr s g).place == 23)=false:=by simp;omega
 rw [ag]
 repeat (first | refine au ?_ | intro _)
 exact az Tryz.func94
theorem MP (s:Sx.St) (g:Nat) (h:uM s g) :
  Pure Tryz.prog 94 [.agg (ay s),.c (nI g)] (.aV [.agg (ay (cD s g).1),.c (bI (cD s g).2)]):=by
 have hg:=h.co.lt;have C0:=dj s g hg h.co.cY;have C1:=fy s g h.co
 by_cases hk:(Sx.op s g).kind=6
 case neg =>
  refine aq.intro Tryz.func94 rfl rfl rfl (fun ok e=>?_);have K6:((Sx.op s g).kind != 6)=true:=by simp;omega
  have er:cD s g=(s,false):=by unfold cD;simp only;rw [if_pos (by omega)]
  rw [er]
  repeat (first | refine au ?_ | intro _)
  exact az Tryz.func94
 case pos =>
 have aS:¬ ((Sx.op s g).kind≠6):=by omega
 have K6:((Sx.op s g).kind != 6)=false:=by rw [hk];rfl
 cases hc:(common s g).2 with
 | true =>
  refine aq.intro Tryz.func94 rfl rfl rfl (fun ok e=>?_);have er:cD s g=((common s g).1,true):=by unfold cD;simp only;rw [if_neg aS,if_pos hc]
  rw [er];rw [hc] at C1
  repeat (first | refine au ?_ | intro _)
  exact az Tryz.func94
 | false =>
 cases hm:Sx.made s (Sx.op s g).ch with
 | false =>
  have CM:=eK s (Sx.op s g).ch;have cr:¬ (common s g).2=true:=by rw [hc];simp
  refine aq.intro Tryz.func94 rfl rfl rfl (fun ok e=>?_);have er:cD s g=(s,false):=by unfold cD;simp only;rw [if_neg aS,if_neg cr,if_pos hm]
  rw [er];rw [hc] at C1;rw [hm] at CM
  repeat (first | refine au ?_ | intro _)
  exact az Tryz.func94
 | true =>
  by_cases Gd:(Sx.gr s g).place=21
  ·exact XC s g h hk hc hm Gd
  by_cases B7:(Sx.gr s g).place=22
  ·exact XD s g h hk hc hm B7
  by_cases B8:(Sx.gr s g).place=23
  ·exact XE s g h hk hc hm B8
  exact XF s g h hk hc hm (by omega)
end Fl
end Go.Proofs.YtofnbflkhgammaaGreat
