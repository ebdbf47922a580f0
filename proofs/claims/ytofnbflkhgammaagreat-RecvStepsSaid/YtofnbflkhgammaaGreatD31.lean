/-
  What the laws need, part D31.
  Conditions: none.
-/
import Derived.Test.YtofnbflkhgammaaGreatD30
set_option linter.unusedVariables false
set_option linter.unusedSimpArgs false
set_option linter.unnecessarySimpa false
set_option maxHeartbeats 2000000
namespace Go.Proofs.YtofnbflkhgammaaGreat
open Go.RowKit
namespace Fl
open Sx Go.Proofs.Tryz
set_option maxRecDepth 100000
structure xM (s:ah) (g:Nat):Prop where
 co:xH s g
 fit:Fit s
 G9:(aa s g).place=22→(∀ i l,(cn s (ag s g).ch).recv=i :: l→dz s i)∧(∀ i l,(cn s (ag s g).ch).send=i :: l→dz s i)
 N6:(aa s g).place=23→dz s (aa s g).hold
theorem N7 {s:ah} {g:Nat} {x:Gr} (h:g < s.gs.length):aa (ai s g x) g=x:=by
 unfold aa ai;simp [h]
theorem XZ {s:ah} {o g:Nat} {x:Gr} (e:x.hold=(aa s o).hold):(aa (ai s o x) g).hold=(aa s g).hold:=by
 by_cases h:o=g
 ·subst h;rcases C8 s o x o with e1 | e1
  ·rw [e1,e]
  ·rw [e1]
 ·have:aa (ai s o x) g=aa s g:=by
   unfold aa ai;simp only [List.getD_eq_getElem?_getD,List.getElem?_set];rw [if_neg h]
  rw [this]
theorem N8 (s:ah) (g:Nat):(ji s g).gs.length=s.gs.length:=by
 unfold ji;simp only [sR,cr,fX]
theorem X0 (s:ah) (g:Nat) (h:xM s g) (hk:(ag s g).kind=6) (hc:(common s g).2=false) (hm:aN s (ag s g).ch=true) (e0:(aa s g).place=21) :
  Pure prog 94 [.agg (az s),.c (nI g)] (.aZ [.agg (az (dU s g).1),.c (bI (dU s g).2)]):=by
 have hg:=h.co.lt;have hf:Few s:=h.fit.toAnd;have hb:=hf.1;have dF:=hf.2.1;have C0:=dA s g hg h.co.dh;have C1:=fN s g h.co;have K6:((ag s g).kind != 6)=false:=by rw [hk];rfl
 have br:¬ ((ag s g).kind≠6):=by omega
 have cF:¬ (common s g).2=true:=by rw [hc];simp
 rw [hc] at C1;have CM:=fu s (ag s g).ch;have cB:¬ aN s (ag s g).ch=false:=by rw [hm];simp
 have hl:=eV hm;rw [hm] at CM;have aj:dU s g=dU s g:=rfl
 conv at aj=>rhs;unfold dU;simp only;rw [if_neg br,if_neg cF,if_neg cB]
 have P:∀ c,((aa s g).place == c)=((21:Int) == c):=fun c=>by rw [e0]
 refine ax.intro func94 rfl rfl rfl (fun ok e=>?_);rw [if_pos e0] at aj
 cases bZ:(cn s (ag s g).ch).closed with
 | true =>
  rw [if_pos bZ] at aj;rw [aj]
  repeat (first | refine J.gZ (congrArg (fun b=>some (D.c (bI b))) bZ) ?_ | refine aL (P _) ?_ | refine aO (jv s g (res 4) 16 hg hb) ?_ | refine av ?_ | intro _)
  exact aA func94
 | false =>
  rw [if_neg (by rw [bZ];simp)] at aj;rw [aj]
  repeat (first | refine J.gw (congrArg (fun b=>some (D.c (bI b))) bZ) ?_ | refine aL (P _) ?_ | refine aO (nA s (ag s g).ch { (cn s (ag s g).ch) with closed:=true } hm dF) ?_ | refine aO (jv (aE s (ag s g).ch { (cn s (ag s g).ch) with closed:=true }) g jG 22 hg hb) ?_ | refine av ?_ | intro _)
  exact aA func94
theorem X3 (s:ah) (g:Nat) (h:xM s g) (hk:(ag s g).kind=6) (hc:(common s g).2=false) (hm:aN s (ag s g).ch=true) (e0:(aa s g).place=22) :
  Pure prog 94 [.agg (az s),.c (nI g)] (.aZ [.agg (az (dU s g).1),.c (bI (dU s g).2)]):=by
 have hg:=h.co.lt;have hf:Few s:=h.fit.toAnd;have hb:=hf.1;have dF:=hf.2.1;have C0:=dA s g hg h.co.dh;have C1:=fN s g h.co;have K6:((ag s g).kind != 6)=false:=by rw [hk];rfl
 have br:¬ ((ag s g).kind≠6):=by omega
 have cF:¬ (common s g).2=true:=by rw [hc];simp
 rw [hc] at C1;have CM:=fu s (ag s g).ch;have cB:¬ aN s (ag s g).ch=false:=by rw [hm];simp
 have hl:=eV hm;rw [hm] at CM;have aj:dU s g=dU s g:=rfl
 conv at aj=>rhs;unfold dU;simp only;rw [if_neg br,if_neg cF,if_neg cB]
 have P:∀ c,((aa s g).place == c)=((22:Int) == c):=fun c=>by rw [e0]
 refine ax.intro func94 rfl rfl rfl (fun ok e=>?_);rw [aB] at aj;rw [if_pos e0] at aj
 cases hr:(cn s (ag s g).ch).recv with
 | cons a l =>
  have hz:(decide (((cn s (ag s g).ch).recv.length:Int) > 0))=true:=by rw [hr];simp
  have w0:((cn s (ag s g).ch).recv.map fun n=>[nI n])[(0:Int).toNat]?=some [nI a]:=by rw [hr];rfl
  rw [if_pos (by rw [hr];simp),hr] at aj;dsimp only [List.headD_cons] at aj;have k0:dz s a:=(h.G9 e0).1 a l hr;have k1:dz (ai s g { aa s g with hold:=a }) a:=k0.of rfl (cr _ _ _);have g1:g < (ai s g { aa s g with hold:=a }).gs.length:=by rw [cr];exact hg
  have f1:=h.fit.dy g { aa s g with hold:=a } ⟨h.fit.wk g,h.fit.od g,h.fit.sg g⟩;have hh:(aa (ai s g { aa s g with hold:=a }) g).hold=a:=by rw [N7 hg]
  have D1:=cP s g { aa s g with hold:=a } hg hb;have D2:=fM (ai s g { aa s g with hold:=a }) g 23 g1 f1.1.1;have D3:=G8 (ai s g { aa s g with hold:=a }) g g1 (by rw [hh];exact k1) f1;have uk:mE s g a=if 0≤(su (ai s g { aa s g with hold:=a }) a).cs then Sx.aI (ai s g { aa s g with hold:=a }) g 23 else ji (ai s g { aa s g with hold:=a }) g:=rfl
  rw [uk] at aj;clear uk hh;generalize ai s g { aa s g with hold:=a }=s1 at *;have q0:=k1.1
  cases jC:decide ((su s1 a).cs ≥ 0) with
  | true =>
   rw [if_pos (by simpa using jC)] at aj;rw [aj]
   repeat (first | (refine K.indexAddr ?_;refine jx rfl rfl rfl rfl (by omega) (iu k1.1 k1.2.1) ?_) | refine aL (P _) ?_ | refine av ?_ | intro _)
   exact aA func94
  | false =>
   rw [if_neg (by simpa using jC)] at aj;rw [aj]
   repeat (first | (refine K.indexAddr ?_;refine jx rfl rfl rfl rfl (by omega) (iu k1.1 k1.2.1) ?_) | refine aL (P _) ?_ | refine av ?_ | intro _)
   exact aA func94
 | nil =>
  have hz:(decide (((cn s (ag s g).ch).recv.length:Int) > 0))=false:=by rw [hr];rfl
  rw [if_neg (by rw [hr];simp)] at aj
  cases hs:(cn s (ag s g).ch).send with
  | cons a l =>
   have hy:(decide (((cn s (ag s g).ch).send.length:Int) > 0))=true:=by rw [hs];simp
   have w0:((cn s (ag s g).ch).send.map fun n=>[nI n])[(0:Int).toNat]?=some [nI a]:=by rw [hs];rfl
   rw [if_pos (by rw [hs];simp),hs] at aj;dsimp only [List.headD_cons] at aj;have k0:dz s a:=(h.G9 e0).2 a l hs;have k1:dz (ai s g { aa s g with hold:=a }) a:=k0.of rfl (cr _ _ _);have g1:g < (ai s g { aa s g with hold:=a }).gs.length:=by rw [cr];exact hg
   have f1:=h.fit.dy g { aa s g with hold:=a } ⟨h.fit.wk g,h.fit.od g,h.fit.sg g⟩;have hh:(aa (ai s g { aa s g with hold:=a }) g).hold=a:=by rw [N7 hg]
   have D1:=cP s g { aa s g with hold:=a } hg hb;have D2:=fM (ai s g { aa s g with hold:=a }) g 23 g1 f1.1.1;have D3:=G8 (ai s g { aa s g with hold:=a }) g g1 (by rw [hh];exact k1) f1;have uk:mE s g a=if 0≤(su (ai s g { aa s g with hold:=a }) a).cs then Sx.aI (ai s g { aa s g with hold:=a }) g 23 else ji (ai s g { aa s g with hold:=a }) g:=rfl
   rw [uk] at aj;clear uk hh;generalize ai s g { aa s g with hold:=a }=s1 at *;have q0:=k1.1
   cases jC:decide ((su s1 a).cs ≥ 0) with
   | true =>
    rw [if_pos (by simpa using jC)] at aj;rw [aj]
    repeat (first | (refine K.indexAddr ?_;refine jx rfl rfl rfl rfl (by omega) (iu k1.1 k1.2.1) ?_) | refine aL (P _) ?_ | refine av ?_ | intro _)
    exact aA func94
   | false =>
    rw [if_neg (by simpa using jC)] at aj;rw [aj]
    repeat (first | (refine K.indexAddr ?_;refine jx rfl rfl rfl rfl (by omega) (iu k1.1 k1.2.1) ?_) | refine aL (P _) ?_ | refine av ?_ | intro _)
    exact aA func94
  | nil =>
   have hy:(decide (((cn s (ag s g).ch).send.length:Int) > 0))=false:=by rw [hs];rfl
   rw [if_neg (by rw [hs];simp)] at aj;rw [aj]
   repeat (first | refine aL (P _) ?_ | refine aO (fM s g 16 hg hb) ?_ | refine av ?_ | intro _)
   exact aA func94
theorem X4 (s:ah) (g:Nat) (h:xM s g) (hk:(ag s g).kind=6) (hc:(common s g).2=false) (hm:aN s (ag s g).ch=true) (e0:(aa s g).place=23) :
  Pure prog 94 [.agg (az s),.c (nI g)] (.aZ [.agg (az (dU s g).1),.c (bI (dU s g).2)]):=by
 have hg:=h.co.lt;have hf:Few s:=h.fit.toAnd;have hb:=hf.1;have dF:=hf.2.1;have C0:=dA s g hg h.co.dh;have C1:=fN s g h.co;have K6:((ag s g).kind != 6)=false:=by rw [hk];rfl
 have br:¬ ((ag s g).kind≠6):=by omega
 have cF:¬ (common s g).2=true:=by rw [hc];simp
 rw [hc] at C1;have CM:=fu s (ag s g).ch;have cB:¬ aN s (ag s g).ch=false:=by rw [hm];simp
 have hl:=eV hm;rw [hm] at CM;have aj:dU s g=dU s g:=rfl
 conv at aj=>rhs;unfold dU;simp only;rw [if_neg br,if_neg cF,if_neg cB]
 have P:∀ c,((aa s g).place == c)=((23:Int) == c):=fun c=>by rw [e0]
 refine ax.intro func94 rfl rfl rfl (fun ok e=>?_);rw [aB,aB] at aj;rw [if_pos e0] at aj;have hi:=h.N6 e0;obtain ⟨gq,dR,dx,iw⟩:=id hi;have Xx:=hi.gr;have uk:nY s g=if (aa s (su s (aa s g).hold).g.toNat).bz=true then ai (bq s (aa s g).hold) g { aa s g with hold:=-1,place:=22 } else Sx.aI (ji (ai s (su s (aa s g).hold).g.toNat { aa s (su s (aa s g).hold).g.toNat with bz:=true }) g) g 22:=rfl
 rw [uk] at aj;clear uk
 cases hp:(aa s (su s (aa s g).hold).g.toNat).bz with
 | true =>
  rw [if_pos hp] at aj;have D1:=ue s (aa s g).hold gq dR (Nat.le_trans (h.fit.rv _) (by omega)) (Nat.le_trans (h.fit.sd _) (by omega)) dF;have D2:=cP (bq s (aa s g).hold) g { aa s g with hold:=-1,place:=22 } (by rw [fX];exact hg) (by rw [fX];exact hb);rw [aj]
  repeat (first | refine J.gZ (congrArg (fun b=>some (D.c (bI b))) hp) ?_ | (refine K.indexAddr ?_;refine jx rfl rfl rfl rfl (by omega) (iu gq dR) ?_) | refine aL (P _) ?_ | refine av ?_ | intro _)
  exact aA func94
 | false =>
  rw [if_neg (by rw [hp];simp)] at aj;have D1:=An s (su s (aa s g).hold).g { aa s (su s (aa s g).hold).g.toNat with bz:=true } dx iw hb;have f1:=h.fit.dy (su s (aa s g).hold).g.toNat { aa s (su s (aa s g).hold).g.toNat with bz:=true } ⟨h.fit.wk _,h.fit.od _,h.fit.sg _⟩;have k1:dz (ai s (su s (aa s g).hold).g.toNat { aa s (su s (aa s g).hold).g.toNat with bz:=true }) (aa s g).hold:=hi.of rfl (cr _ _ _);have g1:g < (ai s (su s (aa s g).hold).g.toNat { aa s (su s (aa s g).hold).g.toNat with bz:=true }).gs.length:=by rw [cr];exact hg
  have hh:(aa (ai s (su s (aa s g).hold).g.toNat { aa s (su s (aa s g).hold).g.toNat with bz:=true }) g).hold=(aa s g).hold:=XZ rfl;have D2:=G8 _ g g1 (by rw [hh];exact k1) f1;generalize ai s (su s (aa s g).hold).g.toNat { aa s (su s (aa s g).hold).g.toNat with bz:=true }=s1 at *;have D3:=fM (ji s1 g) g 22 (by rw [N8];exact g1) (by rw [N8];exact f1.1.1);rw [aj]
  repeat (first | refine J.gw (congrArg (fun b=>some (D.c (bI b))) hp) ?_ | (refine K.indexAddr ?_;refine jx rfl rfl rfl rfl (by omega) (iu gq dR) ?_) | refine aL (P _) ?_ | refine av ?_ | intro _)
  exact aA func94
theorem X5 (s:ah) (g:Nat) (h:xM s g) (hk:(ag s g).kind=6) (hc:(common s g).2=false) (hm:aN s (ag s g).ch=true) (e0:¬ ((aa s g).place=21∨(aa s g).place=22∨(aa s g).place=23)) :
  Pure prog 94 [.agg (az s),.c (nI g)] (.aZ [.agg (az (dU s g).1),.c (bI (dU s g).2)]):=by
 have hg:=h.co.lt;have hf:Few s:=h.fit.toAnd;have hb:=hf.1;have dF:=hf.2.1;have C0:=dA s g hg h.co.dh;have C1:=fN s g h.co;have K6:((ag s g).kind != 6)=false:=by rw [hk];rfl
 have br:¬ ((ag s g).kind≠6):=by omega
 have cF:¬ (common s g).2=true:=by rw [hc];simp
 rw [hc] at C1;have CM:=fu s (ag s g).ch;have cB:¬ aN s (ag s g).ch=false:=by rw [hm];simp
 have hl:=eV hm;rw [hm] at CM;have aj:dU s g=dU s g:=rfl
 conv at aj=>rhs;unfold dU;simp only;rw [if_neg br,if_neg cF,if_neg cB]
 refine ax.intro func94 rfl rfl rfl (fun ok e=>?_);rw [aB,aB,aB] at aj;have P21:((aa s g).place == 21)=false:=by simp;omega
 have P22:((aa s g).place == 22)=false:=by simp;omega
 have P23:((aa s g).place == 23)=false:=by simp;omega
 rw [aj]
 repeat (first | refine av ?_ | intro _)
 exact aA func94
theorem X6 (s:ah) (g:Nat) (h:xM s g) :
  Pure prog 94 [.agg (az s),.c (nI g)] (.aZ [.agg (az (dU s g).1),.c (bI (dU s g).2)]):=by
 have hg:=h.co.lt;have C0:=dA s g hg h.co.dh;have C1:=fN s g h.co
 by_cases hk:(ag s g).kind=6
 case neg =>
  refine ax.intro func94 rfl rfl rfl (fun ok e=>?_);have K6:((ag s g).kind != 6)=true:=by simp;omega
  have er:dU s g=(s,false):=by unfold dU;simp only;rw [if_pos (by omega)]
  rw [er]
  repeat (first | refine av ?_ | intro _)
  exact aA func94
 case pos =>
 have br:¬ ((ag s g).kind≠6):=by omega
 have K6:((ag s g).kind != 6)=false:=by rw [hk];rfl
 cases hc:(common s g).2 with
 | true =>
  refine ax.intro func94 rfl rfl rfl (fun ok e=>?_);have er:dU s g=((common s g).1,true):=by unfold dU;simp only;rw [if_neg br,if_pos hc]
  rw [er];rw [hc] at C1
  repeat (first | refine av ?_ | intro _)
  exact aA func94
 | false =>
 cases hm:aN s (ag s g).ch with
 | false =>
  have CM:=fu s (ag s g).ch;have cF:¬ (common s g).2=true:=by rw [hc];simp
  refine ax.intro func94 rfl rfl rfl (fun ok e=>?_);have er:dU s g=(s,false):=by unfold dU;simp only;rw [if_neg br,if_neg cF,if_pos hm]
  rw [er];rw [hc] at C1;rw [hm] at CM
  repeat (first | refine av ?_ | intro _)
  exact aA func94
 | true =>
  by_cases X7:(aa s g).place=21
  ·exact X0 s g h hk hc hm X7
  by_cases X8:(aa s g).place=22
  ·exact X3 s g h hk hc hm X8
  by_cases X9:(aa s g).place=23
  ·exact X4 s g h hk hc hm X9
  exact X5 s g h hk hc hm (by omega)
end Fl
end Go.Proofs.YtofnbflkhgammaaGreat
