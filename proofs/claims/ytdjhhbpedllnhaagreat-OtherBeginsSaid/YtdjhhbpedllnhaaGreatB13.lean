/-
  What the laws need, part B13.
  Conditions: none.
-/
import Derived.Test.YtdjhhbpedllnhaaGreatB12
set_option linter.unusedVariables false
set_option linter.unusedSimpArgs false
set_option linter.unnecessarySimpa false
set_option maxHeartbeats 2000000
namespace Go.Proofs.YtdjhhbpedllnhaaGreat
open Go.RowKit
namespace Fl
open Sx Go.Proofs.Tryz
set_option maxRecDepth 100000
theorem Ku (s:ah) (c:Int) (x:Cn) (ch:Int):cn (aE s c x) ch=x∨cn (aE s c x) ch=cn s ch:=by
 unfold cn aE;simp only [List.getD_eq_getElem?_getD,List.getElem?_set]
 split
 ·split
  ·exact .inl rfl
  ·rename_i h1 h2;rw [← h1,List.getElem?_eq_none (by omega)];exact .inr rfl
 ·exact .inr rfl
theorem Fit.drop {s:ah} (h:Fit s) (i:Int):Fit (aZ s i):=by
 have hf:Few s:=h.toAnd;have uL:Few (aZ s i):=hf.of (by rw [fR]) (Fh _ _) (by rw [uK]);have hg:∀ g,aa (aZ s i) g=aa s g:=fun g=>sY (fR s i) g
 have hc:∀ ch,(cn (aZ s i) ch).recv.length≤50000∧(cn (aZ s i) ch).send.length≤50000∧(cn (aZ s i) ch).buf.length≤50000:=fun ch=>by
  unfold aZ
  split
  ·rcases Ku s (su s i).ch { cn s (su s i).ch with recv:=gO (cn s (su s i).ch).recv i,send:=gO (cn s (su s i).ch).send i } ch with e | e
   ·rw [e];exact ⟨Nat.le_trans (List.length_filter_le _ _) (h.rv _),Nat.le_trans (List.length_filter_le _ _) (h.sd _),h.bf _⟩
   ·rw [e];exact ⟨h.rv ch,h.sd ch,h.bf ch⟩
  ·exact ⟨h.rv ch,h.sd ch,h.bf ch⟩
 have e1:(aZ s i).done=s.done:=by unfold aZ;split <;> rfl
 have e2:(aZ s i).cache=s.cache:=by unfold aZ;split <;> rfl
 have e3:(aZ s i).middle=s.middle:=by unfold aZ;split <;> rfl
 exact ⟨uL,fun g=>by rw [hg];exact h.wk g,fun ch=>(hc ch).1,fun ch=>(hc ch).2.1,fun ch=>(hc ch).2.2,fun g=>by rw [hg];exact h.od g,fun g=>by rw [hg];exact h.sg g,by rw [e1];exact h.dn,by rw [e2];exact h.ca,fun g=>by rw [e2];exact h.cl g,by rw [e3];exact h.md⟩
theorem Fit.gI {s:ah} (h:Fit s) (i:Int) (x:Su):Fit (aV s i x):=by
 have hf:Few s:=h.toAnd;have uL:Few (aV s i x):=hf.of rfl rfl (Ka _ _ _);exact ⟨uL,h.wk,h.rv,h.sd,h.bf,h.od,h.sg,h.dn,h.ca,h.cl,h.md⟩
theorem Kv {s:ah} {i:Int} {x:Su} (hi:i.toNat < s.aA.length):su (aV s i x) i=x:=by
 unfold su aV;simp only [List.getD_eq_getElem?_getD,List.getElem?_set];rw [if_pos trivial,if_pos hi];rfl
theorem dK.gI {s:ah} {i:Int} {x:Su} (h:dK s i) (e:x.g=(su s i).g):dK (aV s i x) i:=by
 obtain ⟨a,b,c,d⟩:=h;refine ⟨a,by rw [Ka];exact b,?_,?_⟩
 ·rw [Kv (by omega),e];exact c
 ·rw [Kv (by omega),e];exact d
theorem rX (s:ah) (g:Nat) (i:Int) (d:Bool):(Sx.serve s g i d).gs.length=s.gs.length:=by simp [Sx.serve,ai,aV]
theorem Tb (s:ah) (g:Nat) (h:nD s g) (hk:(ag s g).kind=2∨(ag s g).kind=4) (hc:(common s g).2=false) (hm:aT s (ag s g).ch=true) (e0:(aa s g).place=8) :
  Pure prog 171 [.agg (aC s),.c (nI g)] (.bp [.agg (aC (cu s g).1),.c (bI (cu s g).2)]):=by
 have hg:=h.co.lt;have hf:Few s:=h.fit.toAnd;have hb:=hf.1;have dL:=hf.2.1;have C0:=dI s g hg h.co.dD;have C1:=fS s g h.co;obtain ⟨k,ek,cP⟩:∃ k,(ag s g).kind=k∧(k=2∨k=4):=⟨_,rfl,hk⟩
 have KN:∀ c,((ag s g).kind != c)=(k != c):=fun c=>by rw [ek]
 have KE:∀ c,((ag s g).kind == c)=(k == c):=fun c=>by rw [ek]
 have bQ:¬ ((ag s g).kind≠2∧(ag s g).kind≠4):=by omega
 have cQ:¬ (common s g).2=true:=by rw [hc];simp
 rw [hc] at C1;have CM:=fH s (ag s g).ch;have cG:¬ aT s (ag s g).ch=false:=by rw [hm];simp
 have hl:=fD hm;rw [hm] at CM;have ak:cu s g=cu s g:=rfl
 conv at ak=>rhs;unfold cu;simp only;rw [if_neg bQ,if_neg cQ,if_neg cG]
 have P:∀ c,((aa s g).place == c)=((8:Int) == c):=fun c=>by rw [e0]
 refine an.intro func171 rfl rfl rfl (fun ok e=>?_);rw [az,az,az,az,az] at ak;rw [if_pos e0] at ak;have hi:=h.l8 e0;obtain ⟨gz,eJ,dM,iY⟩:=id hi;have D1:=sW s (aa s g).hold gz eJ (Nat.le_trans (h.fit.rv _) (by omega)) (Nat.le_trans (h.fit.sd _) (by omega)) dL;have k1:dK (aZ s (aa s g).hold) (aa s g).hold:=hi.of (uK _ _) (by rw [fR]);have f1:=h.fit.drop (aa s g).hold;have g1:g < (aZ s (aa s g).hold).gs.length:=by rw [fR];exact hg
 have Kw:mS s g (ag s g).v=Sx.serve (aV (aZ s (aa s g).hold) (aa s g).hold { su (aZ s (aa s g).hold) (aa s g).hold with v:=(ag s g).v }) g (aa s g).hold true:=rfl;rw [Kw] at ak;rw [ak];clear ak Kw;generalize aZ s (aa s g).hold=s1 at *;have a1:=iC k1.1 k1.2.1;have D2:=vY s1 (aa s g).hold { su s1 (aa s g).hold with v:=(ag s g).v } k1.1 k1.2.1 f1.1.2.2;have k2:dK (aV s1 (aa s g).hold { su s1 (aa s g).hold with v:=(ag s g).v }) (aa s g).hold:=k1.gI rfl;have f2:=f1.gI (aa s g).hold { su s1 (aa s g).hold with v:=(ag s g).v };have g2:g < (aV s1 (aa s g).hold { su s1 (aa s g).hold with v:=(ag s g).v }).gs.length:=g1;generalize aV s1 (aa s g).hold { su s1 (aa s g).hold with v:=(ag s g).v }=s2 at *;have D3:=zb s2 g (aa s g).hold true g2 k2 f2;have g3:g < (Sx.serve s2 g (aa s g).hold true).gs.length:=by rw [rX];exact g2
 have b3:(Sx.serve s2 g (aa s g).hold true).gs.length≤100000:=by rw [rX];exact f2.1.1
 generalize Sx.serve s2 g (aa s g).hold true=s3 at *;have D4:=cV s3 g { aa s3 g with res:=oH,place:=16 } g3 b3;rcases cP with rfl | rfl
 all_goals
  repeat (first | refine aQ (KN _) ?_ | refine aQ (P _) ?_ | refine ay ?_ | intro _)
  refine J.draw (by kernel_rfl) rfl ?_;refine JW.base (some 9) ?_;refine tk 0 ?_;refine tk 1 ?_;refine tk 2 ?_;refine tk 3 ?_;refine tk 5 ?_;refine tk 6 ?_;refine tk 7 ?_;refine dA 4 (D2) ?_;refine dA 8 (D3) ?_;refine jt 9 rfl rfl (Ld.bq rfl rfl rfl (by exact rfl) (by exact rfl)) (fun _=>?_);refine bR ?_
  repeat (first | refine kN (BD) ?_ | refine ay ?_ | intro _)
  exact aD func171
theorem Tc (s:ah) (g:Nat) (h:nD s g) (hk:(ag s g).kind=2∨(ag s g).kind=4) (hc:(common s g).2=false) (hm:aT s (ag s g).ch=true) (e0:¬ ((aa s g).place=1∨(aa s g).place=2∨(aa s g).place=5∨(aa s g).place=6∨(aa s g).place=7∨(aa s g).place=8∨(aa s g).place=9∨(aa s g).place=10∨(aa s g).place=11∨(aa s g).place=14)) :
  Pure prog 171 [.agg (aC s),.c (nI g)] (.bp [.agg (aC (cu s g).1),.c (bI (cu s g).2)]):=by
 have hg:=h.co.lt;have hf:Few s:=h.fit.toAnd;have hb:=hf.1;have dL:=hf.2.1;have C0:=dI s g hg h.co.dD;have C1:=fS s g h.co;obtain ⟨k,ek,cP⟩:∃ k,(ag s g).kind=k∧(k=2∨k=4):=⟨_,rfl,hk⟩
 have KN:∀ c,((ag s g).kind != c)=(k != c):=fun c=>by rw [ek]
 have KE:∀ c,((ag s g).kind == c)=(k == c):=fun c=>by rw [ek]
 have bQ:¬ ((ag s g).kind≠2∧(ag s g).kind≠4):=by omega
 have cQ:¬ (common s g).2=true:=by rw [hc];simp
 rw [hc] at C1;have CM:=fH s (ag s g).ch;have cG:¬ aT s (ag s g).ch=false:=by rw [hm];simp
 have hl:=fD hm;rw [hm] at CM;have ak:cu s g=cu s g:=rfl
 conv at ak=>rhs;unfold cu;simp only;rw [if_neg bQ,if_neg cQ,if_neg cG]
 refine an.intro func171 rfl rfl rfl (fun ok e=>?_);rw [az,az,az,az,az,az,az,az,az,az] at ak;have P1:((aa s g).place == 1)=false:=by simp;omega
 have P2:((aa s g).place == 2)=false:=by simp;omega
 have P5:((aa s g).place == 5)=false:=by simp;omega
 have P6:((aa s g).place == 6)=false:=by simp;omega
 have P7:((aa s g).place == 7)=false:=by simp;omega
 have P8:((aa s g).place == 8)=false:=by simp;omega
 have P9:((aa s g).place == 9)=false:=by simp;omega
 have Td:((aa s g).place == 10)=false:=by simp;omega
 have Te:((aa s g).place == 11)=false:=by simp;omega
 have Kx:((aa s g).place == 14)=false:=by simp;omega
 rw [ak];rcases cP with rfl | rfl
 all_goals
  repeat (first | refine aQ (KN _) ?_ | refine ay ?_ | intro _)
  exact aD func171
theorem Tf (s:ah) (g:Nat) (h:nD s g) :
  Pure prog 171 [.agg (aC s),.c (nI g)] (.bp [.agg (aC (cu s g).1),.c (bI (cu s g).2)]):=by
 have hg:=h.co.lt;have C0:=dI s g hg h.co.dD;have C1:=fS s g h.co
 by_cases hk:(ag s g).kind=2∨(ag s g).kind=4
 case neg =>
  refine an.intro func171 rfl rfl rfl (fun ok e=>?_);have K2:((ag s g).kind != 2)=true:=by simp;omega
  have K4:((ag s g).kind != 4)=true:=by simp;omega
  have er:cu s g=(s,false):=by unfold cu;simp only;rw [if_pos (by omega)]
  rw [er]
  repeat (first | refine ay ?_ | intro _)
  exact aD func171
 case pos =>
 have bQ:¬ ((ag s g).kind≠2∧(ag s g).kind≠4):=by omega
 cases hc:(common s g).2 with
 | true =>
  obtain ⟨k,ek,cP⟩:∃ k,(ag s g).kind=k∧(k=2∨k=4):=⟨_,rfl,hk⟩
  have KN:∀ c,((ag s g).kind != c)=(k != c):=fun c=>by rw [ek]
  refine an.intro func171 rfl rfl rfl (fun ok e=>?_);have er:cu s g=((common s g).1,true):=by unfold cu;simp only;rw [if_neg bQ,if_pos hc]
  rw [er];rw [hc] at C1;rcases cP with rfl | rfl
  all_goals
   repeat (first | refine aQ (KN _) ?_ | refine ay ?_ | intro _)
   exact aD func171
 | false =>
 cases hm:aT s (ag s g).ch with
 | false =>
  have CM:=fH s (ag s g).ch;have cQ:¬ (common s g).2=true:=by rw [hc];simp
  obtain ⟨k,ek,cP⟩:∃ k,(ag s g).kind=k∧(k=2∨k=4):=⟨_,rfl,hk⟩
  have KN:∀ c,((ag s g).kind != c)=(k != c):=fun c=>by rw [ek]
  refine an.intro func171 rfl rfl rfl (fun ok e=>?_);have er:cu s g=(s,false):=by unfold cu;simp only;rw [if_neg bQ,if_neg cQ,if_pos hm]
  rw [er];rw [hc] at C1;rw [hm] at CM;rcases cP with rfl | rfl
  all_goals
   repeat (first | refine aQ (KN _) ?_ | refine ay ?_ | intro _)
   exact aD func171
 | true =>
  by_cases e1:(aa s g).place=1
  ·exact S0 s g h hk hc hm e1
  by_cases e2:(aa s g).place=2
  ·exact S3 s g h hk hc hm e2
  by_cases e5:(aa s g).place=5
  ·exact S4 s g h hk hc hm e5
  by_cases e6:(aa s g).place=6
  ·exact S5 s g h hk hc hm e6
  by_cases e7:(aa s g).place=7
  ·exact S6 s g h hk hc hm e7
  by_cases e8:(aa s g).place=8
  ·exact Tb s g h hk hc hm e8
  by_cases e9:(aa s g).place=9
  ·exact S7 s g h hk hc hm e9
  by_cases nv:(aa s g).place=10
  ·exact S8 s g h hk hc hm nv
  by_cases nA:(aa s g).place=11
  ·exact S9 s g h hk hc hm nA
  by_cases g9:(aa s g).place=14
  ·exact Ta s g h hk hc hm g9
  exact Tc s g h hk hc hm (by omega)
end Fl
open Go.RowKit
namespace Fl
open Sx Go.Proofs.Tryz
set_option maxRecDepth 100000
theorem Ky (s:ah) (ch i:Int) (hm:aT s ch=true) (dL:s.av.length≤100000) (gz:0≤i) (eJ:i < s.aA.length) (hl:(cn s ch).buf.length≤50000) :
  Pure prog 209 [.agg (aC s),.c (nI ch),.c (nI i)] (.bp [.agg (aC (Sx.hand s ch i).1),.c (nI (Sx.hand s ch i).2)]):=by
 have DD:=fD hm;refine an.intro func209 rfl rfl rfl (fun ok e=>?_)
 cases h1:((cn s ch).cap == 0) with
 | true =>
  have er:Sx.hand s ch i=(s,(su s i).v):=by unfold Sx.hand;simp only;rw [if_pos (by simpa using h1)]
  rw [er]
  repeat (first | refine ay ?_ | intro _)
  refine J.draw (by kernel_rfl) rfl ?_;refine JW.sv none (.tmp 6) rfl ?_;refine tk 0 ?_;refine tk 1 ?_;refine tk 2 ?_;refine tk 3 ?_;refine JD.take 4 rfl rfl (by kernel_rfl) rfl (qb rfl) (Qt.cI rfl rfl gz (iC gz eJ)) rfl ?_;refine tk 5 ?_;refine tk 6 ?_;refine JD.gU (i:=7) (by kernel_rfl) ?_
  (refine JS.st rfl rfl rfl (Ld.bq rfl rfl rfl (by exact rfl) (by exact rfl)) (.lA rfl) (fun _=>?_))
  refine tk 8 ?_;refine bE ?_
  repeat (fail)
  exact aD func209
 | false =>
  have er:Sx.hand s ch i=(aE s ch { cn s ch with buf:=(fh (cn s ch).buf (cn s ch).cap (su s i).v).1 },(fh (cn s ch).buf (cn s ch).cap (su s i).v).2.1):=by unfold Sx.hand;simp only;rw [if_neg (by simpa using h1)]
  have CP:=SY (cn s ch).buf (cn s ch).cap (su s i).v hl
  cases h2:(fh (cn s ch).buf (cn s ch).cap (su s i).v).2.2 with
  | true =>
   rw [h2] at CP;rw [er]
   repeat (first | refine ay ?_ | intro _)
   refine J.draw (by kernel_rfl) rfl ?_;refine JW.base none ?_;refine tk 0 ?_;refine tk 1 ?_;refine tk 2 ?_;refine tk 3 ?_;refine tk 4 ?_;refine tk 5 ?_;refine tk 6 ?_;refine JD.take 7 rfl rfl (by kernel_rfl) rfl (qb rfl) (Qt.cI rfl rfl gz (iC gz eJ)) rfl ?_;refine tk 8 ?_;refine tk 9 ?_;refine dA 10 (CP) ?_;refine jk 11 rfl rfl rfl rfl (Qt.move rfl) ?_;refine JD.lB ?_;refine tk 12 ?_;refine tk 13 ?_;refine tk 14 ?_;refine jk 15 rfl rfl rfl rfl (Qt.assign rfl) ?_;refine jk 16 rfl rfl rfl rfl (Qt.assign rfl) ?_;refine jk 17 rfl rfl rfl rfl (Qt.assign rfl) ?_;refine bE ?_
   repeat (first | refine aX (m9 s ch { cn s ch with buf:=(fh (cn s ch).buf (cn s ch).cap (su s i).v).1 } hm dL) ?_ | refine gn ?_)
   exact aD func209
  | false =>
   have e2:(fh (cn s ch).buf (cn s ch).cap (su s i).v).1=(cn s ch).buf:=by
    revert h2;unfold fh;split <;> simp
   have e3:({ cn s ch with buf:=(fh (cn s ch).buf (cn s ch).cap (su s i).v).1 }:Cn)=cn s ch:=by rw [e2]
   rw [e3] at er;rw [h2] at CP;rw [er]
   repeat (first | refine ay ?_ | intro _)
   refine J.draw (by kernel_rfl) rfl ?_;refine JW.base none ?_;refine tk 0 ?_;refine tk 1 ?_;refine tk 2 ?_;refine tk 3 ?_;refine tk 4 ?_;refine tk 5 ?_;refine tk 6 ?_;refine JD.take 7 rfl rfl (by kernel_rfl) rfl (qb rfl) (Qt.cI rfl rfl gz (iC gz eJ)) rfl ?_;refine tk 8 ?_;refine tk 9 ?_;refine dA 10 (CP) ?_;refine jk 11 rfl rfl rfl rfl (Qt.move rfl) ?_;refine JD.lB ?_;refine tk 12 ?_;refine tk 13 ?_;refine tk 14 ?_;refine jk 15 rfl rfl rfl rfl (Qt.assign rfl) ?_;refine jk 16 rfl rfl rfl rfl (Qt.assign rfl) ?_;refine jk 17 rfl rfl rfl rfl (Qt.assign rfl) ?_;refine bE ?_
   repeat (first | refine aX (m9 s ch (cn s ch) hm dL) ?_ | refine gn ?_)
   exact aD func209
end Fl
open Go.RowKit
namespace Fl
open Sx Go.Proofs.Tryz
set_option maxRecDepth 100000
structure mH (s:ah) (g:Nat):Prop where
 co:wJ s g
 fit:Fit s
 l6:(aa s g).place=6→∀ i l,(cn s (ag s g).ch).send=i :: l→dK s i
 l7:(aa s g).place=7→dK s (aa s g).hold
 l8:(aa s g).place=8→dK s (aa s g).hold
 zn:(aa s g).place=10→ou s∧g < s.cache.length∧((bn s g).2.2=true→0≤(bn s g).2.1∧(bn s g).2.1 < s.aA.length)
 pE:(aa s g).place=14→0≤(aa s g).param∧(aa s g).param < s.aA.length
theorem Tg (s:ah) (g:Nat) (h:mH s g) (hk:(ag s g).kind=3∨(ag s g).kind=5) (hc:(common s g).2=false) (hm:aT s (ag s g).ch=true) (e0:(aa s g).place=1) :
  Pure prog 172 [.agg (aC s),.c (nI g)] (.bp [.agg (aC (cj s g).1),.c (bI (cj s g).2)]):=by
 have hg:=h.co.lt;have hf:Few s:=h.fit.toAnd;have hb:=hf.1;have dL:=hf.2.1;have C0:=dI s g hg h.co.dD;have C1:=fS s g h.co;obtain ⟨k,ek,cP⟩:∃ k,(ag s g).kind=k∧(k=3∨k=5):=⟨_,rfl,hk⟩
 have KN:∀ c,((ag s g).kind != c)=(k != c):=fun c=>by rw [ek]
 have KE:∀ c,((ag s g).kind == c)=(k == c):=fun c=>by rw [ek]
 have bQ:¬ ((ag s g).kind≠3∧(ag s g).kind≠5):=by omega
 have cQ:¬ (common s g).2=true:=by rw [hc];simp
 rw [hc] at C1;have CM:=fH s (ag s g).ch;have cG:¬ aT s (ag s g).ch=false:=by rw [hm];simp
 have hl:=fD hm;rw [hm] at CM;have ak:cj s g=cj s g:=rfl
 conv at ak=>rhs;unfold cj;simp only;rw [if_neg bQ,if_neg cQ,if_neg cG]
 have P:∀ c,((aa s g).place == c)=((1:Int) == c):=fun c=>by rw [e0]
 refine an.intro func172 rfl rfl rfl (fun ok e=>?_);rw [if_pos e0] at ak;have CR:=J8 (cn s (ag s g).ch)
 cases hr:tY (cn s (ag s g).ch) with
 | true =>
  rw [if_pos hr] at ak;rw [hr] at CR;rw [ak];rcases cP with rfl | rfl
  all_goals
   repeat (first | refine aQ (KN _) ?_ | refine aQ (P _) ?_ | refine aX (fQ s g 4 hg hb) ?_ | refine ay ?_ | intro _)
   exact aD func172
 | false =>
  rw [if_neg (by rw [hr];simp)] at ak;rw [hr] at CR;rw [ak];rcases cP with rfl | rfl
  all_goals
   repeat (first | refine aQ (KN _) ?_ | refine aQ (P _) ?_ | refine aX (jo s g (aa s g).res 2 hg hb) ?_ | refine ay ?_ | intro _)
   exact aD func172
theorem Th (s:ah) (g:Nat) (h:mH s g) (hk:(ag s g).kind=3∨(ag s g).kind=5) (hc:(common s g).2=false) (hm:aT s (ag s g).ch=true) (e0:(aa s g).place=2) :
  Pure prog 172 [.agg (aC s),.c (nI g)] (.bp [.agg (aC (cj s g).1),.c (bI (cj s g).2)]):=by
 have hg:=h.co.lt;have hf:Few s:=h.fit.toAnd;have hb:=hf.1;have dL:=hf.2.1;have C0:=dI s g hg h.co.dD;have C1:=fS s g h.co;obtain ⟨k,ek,cP⟩:∃ k,(ag s g).kind=k∧(k=3∨k=5):=⟨_,rfl,hk⟩
 have KN:∀ c,((ag s g).kind != c)=(k != c):=fun c=>by rw [ek]
 have KE:∀ c,((ag s g).kind == c)=(k == c):=fun c=>by rw [ek]
 have bQ:¬ ((ag s g).kind≠3∧(ag s g).kind≠5):=by omega
 have cQ:¬ (common s g).2=true:=by rw [hc];simp
 rw [hc] at C1;have CM:=fH s (ag s g).ch;have cG:¬ aT s (ag s g).ch=false:=by rw [hm];simp
 have hl:=fD hm;rw [hm] at CM;have ak:cj s g=cj s g:=rfl
 conv at ak=>rhs;unfold cj;simp only;rw [if_neg bQ,if_neg cQ,if_neg cG]
 have P:∀ c,((aa s g).place == c)=((2:Int) == c):=fun c=>by rw [e0]
 refine an.intro func172 rfl rfl rfl (fun ok e=>?_);rw [az] at ak;rw [if_pos e0] at ak
 cases cF:(cn s (ag s g).ch).closed with
 | true =>
  rw [if_pos cF] at ak;rw [ak];rcases cP with rfl | rfl
  all_goals
   repeat (first | refine J.gK (congrArg (fun b=>some (D.c (bI b))) cF) ?_ | refine aQ (KN _) ?_ | refine aQ (P _) ?_ | refine aX (fQ s g 3 hg hb) ?_ | refine ay ?_ | intro _)
   exact aD func172
 | false =>
  rw [if_neg (by rw [cF];simp)] at ak;rw [ak];rcases cP with rfl | rfl
  all_goals
   repeat (first | refine J.fT (congrArg (fun b=>some (D.c (bI b))) cF) ?_ | refine aQ (KN _) ?_ | refine aQ (P _) ?_ | refine aX (cV s g { aa s g with res:={ (aa s g).res with code:=2 },place:=18 } hg hb) ?_ | refine ay ?_ | intro _)
   exact aD func172
theorem Ti (s:ah) (g:Nat) (h:mH s g) (hk:(ag s g).kind=3∨(ag s g).kind=5) (hc:(common s g).2=false) (hm:aT s (ag s g).ch=true) (e0:(aa s g).place=3) :
  Pure prog 172 [.agg (aC s),.c (nI g)] (.bp [.agg (aC (cj s g).1),.c (bI (cj s g).2)]):=by
 have hg:=h.co.lt;have hf:Few s:=h.fit.toAnd;have hb:=hf.1;have dL:=hf.2.1;have C0:=dI s g hg h.co.dD;have C1:=fS s g h.co;obtain ⟨k,ek,cP⟩:∃ k,(ag s g).kind=k∧(k=3∨k=5):=⟨_,rfl,hk⟩
 have KN:∀ c,((ag s g).kind != c)=(k != c):=fun c=>by rw [ek]
 have KE:∀ c,((ag s g).kind == c)=(k == c):=fun c=>by rw [ek]
 have bQ:¬ ((ag s g).kind≠3∧(ag s g).kind≠5):=by omega
 have cQ:¬ (common s g).2=true:=by rw [hc];simp
 rw [hc] at C1;have CM:=fH s (ag s g).ch;have cG:¬ aT s (ag s g).ch=false:=by rw [hm];simp
 have hl:=fD hm;rw [hm] at CM;have ak:cj s g=cj s g:=rfl
 conv at ak=>rhs;unfold cj;simp only;rw [if_neg bQ,if_neg cQ,if_neg cG]
 have P:∀ c,((aa s g).place == c)=((3:Int) == c):=fun c=>by rw [e0]
 refine an.intro func172 rfl rfl rfl (fun ok e=>?_);rw [az,az] at ak;rw [if_pos e0] at ak;have CR:=J8 (cn s (ag s g).ch)
 cases hr:tY (cn s (ag s g).ch) with
 | true =>
  rw [if_pos hr] at ak;rw [hr] at CR;rw [ak];rcases cP with rfl | rfl
  all_goals
   repeat (first | refine aQ (KN _) ?_ | refine aQ (P _) ?_ | refine aX (cV s g { aa s g with bT:=0,place:=4 } hg hb) ?_ | refine ay ?_ | intro _)
   exact aD func172
 | false =>
  rw [if_neg (by rw [hr];simp)] at ak;rw [hr] at CR;rw [ak];rcases cP with rfl | rfl
  all_goals
   repeat (first | refine aQ (KN _) ?_ | refine aQ (P _) ?_ | refine ay ?_ | intro _)
   refine J.draw (by kernel_rfl) rfl ?_;refine JW.base (some 4) ?_;refine tk 0 ?_;refine tk 1 ?_;refine dA 2 (kU 0 false) ?_;refine dA 3 (jo s g (eB 0 false) 18 hg hb) ?_;refine jt 4 rfl rfl (Ld.bq rfl rfl rfl (by exact rfl) (by exact rfl)) (fun _=>?_);refine JW.base none ?_;refine jk 5 rfl rfl rfl rfl (Qt.assign rfl) ?_;refine bE ?_
   repeat (fail)
   exact aD func172
theorem Tj (s:ah) (g:Nat) (h:mH s g) (hk:(ag s g).kind=3∨(ag s g).kind=5) (hc:(common s g).2=false) (hm:aT s (ag s g).ch=true) (e0:(aa s g).place=6) :
  Pure prog 172 [.agg (aC s),.c (nI g)] (.bp [.agg (aC (cj s g).1),.c (bI (cj s g).2)]):=by
 have hg:=h.co.lt;have hf:Few s:=h.fit.toAnd;have hb:=hf.1;have dL:=hf.2.1;have C0:=dI s g hg h.co.dD;have C1:=fS s g h.co;obtain ⟨k,ek,cP⟩:∃ k,(ag s g).kind=k∧(k=3∨k=5):=⟨_,rfl,hk⟩
 have KN:∀ c,((ag s g).kind != c)=(k != c):=fun c=>by rw [ek]
 have KE:∀ c,((ag s g).kind == c)=(k == c):=fun c=>by rw [ek]
 have bQ:¬ ((ag s g).kind≠3∧(ag s g).kind≠5):=by omega
 have cQ:¬ (common s g).2=true:=by rw [hc];simp
 rw [hc] at C1;have CM:=fH s (ag s g).ch;have cG:¬ aT s (ag s g).ch=false:=by rw [hm];simp
 have hl:=fD hm;rw [hm] at CM;have ak:cj s g=cj s g:=rfl
 conv at ak=>rhs;unfold cj;simp only;rw [if_neg bQ,if_neg cQ,if_neg cG]
 have P:∀ c,((aa s g).place == c)=((6:Int) == c):=fun c=>by rw [e0]
 refine an.intro func172 rfl rfl rfl (fun ok e=>?_);rw [az,az,az,az] at ak;rw [if_pos e0] at ak
 cases jY:(cn s (ag s g).ch).send with
 | nil =>
  have hz:(((cn s (ag s g).ch).send.length:Int) == 0)=true:=by rw [jY];rfl
  rw [if_pos (by rw [jY];rfl)] at ak;rw [ak];rcases cP with rfl | rfl
  all_goals
   repeat (first | refine aQ (KN _) ?_ | refine aQ (P _) ?_ | refine aX (fQ s g 9 hg hb) ?_ | refine ay ?_ | intro _)
   exact aD func172
 | cons a l =>
  have hz:(((cn s (ag s g).ch).send.length:Int) == 0)=false:=by rw [jY];simp;omega
  have w0:((cn s (ag s g).ch).send.map fun n=>[nI n])[(0:Int).toNat]?=some [nI a]:=by rw [jY];rfl
  rw [if_neg (by rw [jY];simp),jY] at ak;rw [ak];rcases cP with rfl | rfl
  all_goals
   repeat (first | refine aQ (KN _) ?_ | refine aQ (P _) ?_ | refine ay ?_ | intro _)
   refine J.draw (by kernel_rfl) rfl ?_;refine JW.base (some 7) ?_;refine tk 0 ?_;refine tk 1 ?_;refine tk 2 ?_;refine tk 3 ?_;refine JD.take 4 rfl rfl (by kernel_rfl) rfl (qb rfl) (Qt.cI rfl rfl (by omega) w0) rfl ?_;refine tk 5 ?_;refine dA 6 (BM s g a 7 8 hg (h.l6 e0 a l jY) h.fit) ?_;refine jt 7 rfl rfl (Ld.bq rfl rfl rfl (by exact rfl) (by exact rfl)) (fun _=>?_);refine JW.base none ?_;refine jk 8 rfl rfl rfl rfl (Qt.assign rfl) ?_;refine bE ?_
   repeat (fail)
   exact aD func172
theorem Tl (s:ah) (g:Nat) (h:mH s g) (hk:(ag s g).kind=3∨(ag s g).kind=5) (hc:(common s g).2=false) (hm:aT s (ag s g).ch=true) (e0:(aa s g).place=7) :
  Pure prog 172 [.agg (aC s),.c (nI g)] (.bp [.agg (aC (cj s g).1),.c (bI (cj s g).2)]):=by
 have hg:=h.co.lt;have hf:Few s:=h.fit.toAnd;have hb:=hf.1;have dL:=hf.2.1;have C0:=dI s g hg h.co.dD;have C1:=fS s g h.co;obtain ⟨k,ek,cP⟩:∃ k,(ag s g).kind=k∧(k=3∨k=5):=⟨_,rfl,hk⟩
 have KN:∀ c,((ag s g).kind != c)=(k != c):=fun c=>by rw [ek]
 have KE:∀ c,((ag s g).kind == c)=(k == c):=fun c=>by rw [ek]
 have bQ:¬ ((ag s g).kind≠3∧(ag s g).kind≠5):=by omega
 have cQ:¬ (common s g).2=true:=by rw [hc];simp
 rw [hc] at C1;have CM:=fH s (ag s g).ch;have cG:¬ aT s (ag s g).ch=false:=by rw [hm];simp
 have hl:=fD hm;rw [hm] at CM;have ak:cj s g=cj s g:=rfl
 conv at ak=>rhs;unfold cj;simp only;rw [if_neg bQ,if_neg cQ,if_neg cG]
 have P:∀ c,((aa s g).place == c)=((7:Int) == c):=fun c=>by rw [e0]
 refine an.intro func172 rfl rfl rfl (fun ok e=>?_);rw [az,az,az,az,az] at ak;rw [if_pos e0] at ak;rw [ak];rcases cP with rfl | rfl
 all_goals
  repeat (first | refine aQ (KN _) ?_ | refine aQ (P _) ?_ | refine aX (Fi s g 6 8 hg (h.l7 e0) h.fit) ?_ | refine ay ?_ | intro _)
  exact aD func172
theorem Tm (s:ah) (g:Nat) (h:mH s g) (hk:(ag s g).kind=3∨(ag s g).kind=5) (hc:(common s g).2=false) (hm:aT s (ag s g).ch=true) (e0:(aa s g).place=9) :
  Pure prog 172 [.agg (aC s),.c (nI g)] (.bp [.agg (aC (cj s g).1),.c (bI (cj s g).2)]):=by
 have hg:=h.co.lt;have hf:Few s:=h.fit.toAnd;have hb:=hf.1;have dL:=hf.2.1;have C0:=dI s g hg h.co.dD;have C1:=fS s g h.co;obtain ⟨k,ek,cP⟩:∃ k,(ag s g).kind=k∧(k=3∨k=5):=⟨_,rfl,hk⟩
 have KN:∀ c,((ag s g).kind != c)=(k != c):=fun c=>by rw [ek]
 have KE:∀ c,((ag s g).kind == c)=(k == c):=fun c=>by rw [ek]
 have bQ:¬ ((ag s g).kind≠3∧(ag s g).kind≠5):=by omega
 have cQ:¬ (common s g).2=true:=by rw [hc];simp
 rw [hc] at C1;have CM:=fH s (ag s g).ch;have cG:¬ aT s (ag s g).ch=false:=by rw [hm];simp
 have hl:=fD hm;rw [hm] at CM;have ak:cj s g=cj s g:=rfl
 conv at ak=>rhs;unfold cj;simp only;rw [if_neg bQ,if_neg cQ,if_neg cG]
 have P:∀ c,((aa s g).place == c)=((9:Int) == c):=fun c=>by rw [e0]
 refine an.intro func172 rfl rfl rfl (fun ok e=>?_);rw [az,az,az,az,az,az,az] at ak;rw [if_pos e0] at ak;have CP:=Ks (cn s (ag s g).ch).buf (h.fit.bf _)
 cases hr:(dF (cn s (ag s g).ch).buf).2.2 with
 | true =>
  rw [if_pos hr] at ak;rw [hr] at CP;rw [ak];rcases cP with rfl | rfl
  all_goals
   repeat (first | refine aQ (KN _) ?_ | refine aQ (P _) ?_ | refine aX (m9 s (ag s g).ch { (cn s (ag s g).ch) with buf:=(dF (cn s (ag s g).ch).buf).1 } hm dL) ?_ | refine aX (kU (dF (cn s (ag s g).ch).buf).2.1 true) ?_ | refine aX (jo (aE s (ag s g).ch { (cn s (ag s g).ch) with buf:=(dF (cn s (ag s g).ch).buf).1 }) g (eB (dF (cn s (ag s g).ch).buf).2.1 true) 16 hg hb) ?_ | refine ay ?_ | intro _)
   exact aD func172
 | false =>
  rw [if_neg (by rw [hr];simp)] at ak;rw [hr] at CP;rcases cP with rfl | rfl
  ·rw [az] at ak;rw [ak]
   repeat (first | refine aQ (KN _) ?_ | refine aQ (P _) ?_ | refine aQ (KE _) ?_ | refine aX (fQ s g 10 hg hb) ?_ | refine ay ?_ | intro _)
   exact aD func172
  ·rw [if_pos ek] at ak;rw [ak]
   repeat (first | refine aQ (KN _) ?_ | refine aQ (P _) ?_ | refine aQ (KE _) ?_ | refine aX (jo s g (Sx.res 2) 16 hg hb) ?_ | refine ay ?_ | intro _)
   exact aD func172
theorem Tn (s:ah) (g:Nat) (h:mH s g) (hk:(ag s g).kind=3∨(ag s g).kind=5) (hc:(common s g).2=false) (hm:aT s (ag s g).ch=true) (e0:(aa s g).place=10) :
  Pure prog 172 [.agg (aC s),.c (nI g)] (.bp [.agg (aC (cj s g).1),.c (bI (cj s g).2)]):=by
 have hg:=h.co.lt;have hf:Few s:=h.fit.toAnd;have hb:=hf.1;have dL:=hf.2.1;have C0:=dI s g hg h.co.dD;have C1:=fS s g h.co;obtain ⟨k,ek,cP⟩:∃ k,(ag s g).kind=k∧(k=3∨k=5):=⟨_,rfl,hk⟩
 have KN:∀ c,((ag s g).kind != c)=(k != c):=fun c=>by rw [ek]
 have KE:∀ c,((ag s g).kind == c)=(k == c):=fun c=>by rw [ek]
 have bQ:¬ ((ag s g).kind≠3∧(ag s g).kind≠5):=by omega
 have cQ:¬ (common s g).2=true:=by rw [hc];simp
 rw [hc] at C1;have CM:=fH s (ag s g).ch;have cG:¬ aT s (ag s g).ch=false:=by rw [hm];simp
 have hl:=fD hm;rw [hm] at CM;have ak:cj s g=cj s g:=rfl
 conv at ak=>rhs;unfold cj;simp only;rw [if_neg bQ,if_neg cQ,if_neg cG]
 have P:∀ c,((aa s g).place == c)=((10:Int) == c):=fun c=>by rw [e0]
 refine an.intro func172 rfl rfl rfl (fun ok e=>?_);rw [az,az,az,az,az,az,az,az] at ak;rw [if_pos e0] at ak;obtain ⟨f1,f2,f3⟩:=h.zn e0;rw [ak];rcases cP with rfl | rfl
 all_goals
  repeat (first | refine aQ (KN _) ?_ | refine aQ (P _) ?_ | refine aX (Kt s g ⟨true,g,(ag s g).ch,-1,false,0,false⟩ hg hf f1 f2 f3) ?_ | refine ay ?_ | intro _)
  exact aD func172
theorem To (s:ah) (g:Nat) (h:mH s g) (hk:(ag s g).kind=3∨(ag s g).kind=5) (hc:(common s g).2=false) (hm:aT s (ag s g).ch=true) (e0:(aa s g).place=11) :
  Pure prog 172 [.agg (aC s),.c (nI g)] (.bp [.agg (aC (cj s g).1),.c (bI (cj s g).2)]):=by
 have hg:=h.co.lt;have hf:Few s:=h.fit.toAnd;have hb:=hf.1;have dL:=hf.2.1;have C0:=dI s g hg h.co.dD;have C1:=fS s g h.co;obtain ⟨k,ek,cP⟩:∃ k,(ag s g).kind=k∧(k=3∨k=5):=⟨_,rfl,hk⟩
 have KN:∀ c,((ag s g).kind != c)=(k != c):=fun c=>by rw [ek]
 have KE:∀ c,((ag s g).kind == c)=(k == c):=fun c=>by rw [ek]
 have bQ:¬ ((ag s g).kind≠3∧(ag s g).kind≠5):=by omega
 have cQ:¬ (common s g).2=true:=by rw [hc];simp
 rw [hc] at C1;have CM:=fH s (ag s g).ch;have cG:¬ aT s (ag s g).ch=false:=by rw [hm];simp
 have hl:=fD hm;rw [hm] at CM;have ak:cj s g=cj s g:=rfl
 conv at ak=>rhs;unfold cj;simp only;rw [if_neg bQ,if_neg cQ,if_neg cG]
 have P:∀ c,((aa s g).place == c)=((11:Int) == c):=fun c=>by rw [e0]
 refine an.intro func172 rfl rfl rfl (fun ok e=>?_);rw [az,az,az,az,az,az,az,az,az] at ak;rw [if_pos e0] at ak;rw [ak];have jW:=h.fit.rv (ag s g).ch;have C2:=m9 s (ag s g).ch { (cn s (ag s g).ch) with recv:=(cn s (ag s g).ch).recv ++ [(aa s g).bh] } hm dL;have C3:=cV (aE s (ag s g).ch { (cn s (ag s g).ch) with recv:=(cn s (ag s g).ch).recv ++ [(aa s g).bh] }) g { aa s g with iy:=s.step,place:=12 } hg hb;rcases cP with rfl | rfl
 all_goals
  repeat (first | refine aQ (KN _) ?_ | refine aQ (P _) ?_ | refine ay ?_ | intro _)
  refine J.draw (by kernel_rfl) rfl ?_;refine JW.base (some 9) ?_;refine tk 1 ?_;refine tk 2 ?_;refine tk 4 ?_;refine tk 5 ?_;refine JD.cU (i:=0) (j:=6) (by kernel_rfl) ?_ ?_;refine JS.bZ rfl rfl rfl (qb rfl) (Ld.gJ (qb rfl)) .none (fun _=>?_);refine JD.cU (i:=3) (j:=6) (by kernel_rfl) ?_ ?_;refine JS.bZ rfl rfl rfl (qb rfl) (Ld.cy (qb rfl) rfl rfl .read (by (simp;omega))) (by (exact .row (by repeat ((exact .refl))))) (fun _=>?_);refine jl 6 rfl rfl rfl rfl (Ld.fM (qb rfl) rfl rfl rfl rfl rfl) .none (fun _=>?_);refine jl 7 rfl rfl rfl rfl (Ld.fO (qb rfl) rfl rfl .dj (by (simp;omega))) (by (exact .row (by repeat (first | exact .refl | refine .cons ?_)))) (fun _=>?_);refine jk 8 rfl rfl rfl rfl (Qt.fieldAddr rfl rfl) ?_;refine jt 9 rfl rfl (Ld.cY rfl rfl (by exact rfl)) (fun _=>?_);refine bR ?_
  rotate_left
  refine JS.bZ rfl rfl rfl (qb rfl) (Ld.fM (qb rfl) rfl rfl rfl rfl rfl) .none (fun _=>?_);refine jl 3 rfl rfl rfl rfl (Ld.cy (qb rfl) rfl rfl .read (by (simp;omega))) (by (exact .row (by repeat (first | exact .refl | refine .cons ?_)))) (fun _=>?_);refine jl 7 rfl rfl rfl rfl (Ld.fO (qb rfl) rfl rfl .dj (by (simp;omega))) (by (exact .row (by repeat (first | exact .refl | refine .cons ?_)))) (fun _=>?_);refine jk 8 rfl rfl rfl rfl (Qt.fieldAddr rfl rfl) ?_;refine jt 9 rfl rfl (Ld.cY rfl rfl (by exact rfl)) (fun _=>?_);refine bR ?_
  rotate_left
  refine JS.bZ rfl rfl rfl (qb rfl) (Ld.fM (qb rfl) rfl rfl rfl rfl rfl) .none (fun _=>?_);refine jl 0 rfl rfl rfl rfl (Ld.gJ (qb rfl)) .none (fun _=>?_);refine jl 3 rfl rfl rfl rfl (Ld.cy (qb rfl) rfl rfl .read (by (simp;omega))) (by (exact .row (by repeat (first | exact .refl | refine .cons ?_)))) (fun _=>?_);refine jl 7 rfl rfl rfl rfl (Ld.fO (qb rfl) rfl rfl .dj (by (simp;omega))) (by (exact .row (by repeat (first | exact .refl | refine .cons ?_)))) (fun _=>?_);refine jk 8 rfl rfl rfl rfl (Qt.fieldAddr rfl rfl) ?_;refine jt 9 rfl rfl (Ld.cY rfl rfl (by exact rfl)) (fun _=>?_);refine bR ?_
  rotate_left
  all_goals
   repeat (refine gn ?_)
   refine J.draw (by kernel_rfl) rfl ?_;refine JW.base (some 8) ?_;refine tk 0 ?_;refine tk 1 ?_;refine tk 2 ?_;refine tk 3 ?_;refine tk 5 ?_;refine tk 6 ?_;refine jl 4 rfl rfl rfl rfl (Ld.pure (C2) (qb rfl) rfl (by repeat (first | exact aJ.nil | refine aJ.cons (dU.agg (by repeat (first | exact .nil | refine .cons .refl ?_ | refine .cons .snoc ?_))) ?_ | refine aJ.cons dU.refl ?_))) .none (fun _=>?_);refine dA 7 (C3) ?_;refine jt 8 rfl rfl (Ld.bq rfl rfl rfl (by exact rfl) (by exact rfl)) (fun _=>?_);refine JW.base none ?_;refine jk 9 rfl rfl rfl rfl (Qt.assign rfl) ?_;refine bE ?_
   repeat (fail)
   exact aD func172
theorem Tp (s:ah) (g:Nat) (h:mH s g) (hk:(ag s g).kind=3∨(ag s g).kind=5) (hc:(common s g).2=false) (hm:aT s (ag s g).ch=true) (e0:(aa s g).place=14) :
  Pure prog 172 [.agg (aC s),.c (nI g)] (.bp [.agg (aC (cj s g).1),.c (bI (cj s g).2)]):=by
 have hg:=h.co.lt;have hf:Few s:=h.fit.toAnd;have hb:=hf.1;have dL:=hf.2.1;have C0:=dI s g hg h.co.dD;have C1:=fS s g h.co;obtain ⟨k,ek,cP⟩:∃ k,(ag s g).kind=k∧(k=3∨k=5):=⟨_,rfl,hk⟩
 have KN:∀ c,((ag s g).kind != c)=(k != c):=fun c=>by rw [ek]
 have KE:∀ c,((ag s g).kind == c)=(k == c):=fun c=>by rw [ek]
 have bQ:¬ ((ag s g).kind≠3∧(ag s g).kind≠5):=by omega
 have cQ:¬ (common s g).2=true:=by rw [hc];simp
 rw [hc] at C1;have CM:=fH s (ag s g).ch;have cG:¬ aT s (ag s g).ch=false:=by rw [hm];simp
 have hl:=fD hm;rw [hm] at CM;have ak:cj s g=cj s g:=rfl
 conv at ak=>rhs;unfold cj;simp only;rw [if_neg bQ,if_neg cQ,if_neg cG]
 have P:∀ c,((aa s g).place == c)=((14:Int) == c):=fun c=>by rw [e0]
 refine an.intro func172 rfl rfl rfl (fun ok e=>?_);rw [az,az,az,az,az,az,az,az,az,az] at ak;rw [if_pos e0] at ak;obtain ⟨f1,f2⟩:=h.pE e0;rw [ak]
 cases hd:(su s (aa s g).param).done with
 | true =>
  rw [if_pos rfl];rcases cP with rfl | rfl
  all_goals
   repeat (first | refine J.gK (congrArg (fun b=>some (D.c (bI b))) hd) ?_ | (refine K.indexAddr ?_;refine jx rfl rfl rfl rfl (by omega) (iC f1 f2) ?_) | refine aQ (KN _) ?_ | refine aQ (P _) ?_ | refine aX (kU 0 false) ?_ | refine aX (kU (su s (aa s g).param).v true) ?_ | refine aX (cV s g { aa s g with res:=eB (su s (aa s g).param).v true,param:=-1,place:=15 } hg hb) ?_ | refine ay ?_ | intro _)
   exact aD func172
 | false =>
  rw [if_neg (by simp)];rcases cP with rfl | rfl
  all_goals
   repeat (first | refine J.fT (congrArg (fun b=>some (D.c (bI b))) hd) ?_ | (refine K.indexAddr ?_;refine jx rfl rfl rfl rfl (by omega) (iC f1 f2) ?_) | refine aQ (KN _) ?_ | refine aQ (P _) ?_ | refine aX (kU 0 false) ?_ | refine aX (cV s g { aa s g with res:=eB 0 false,param:=-1,place:=15 } hg hb) ?_ | refine ay ?_ | intro _)
   exact aD func172
end Fl
end Go.Proofs.YtdjhhbpedllnhaaGreat
