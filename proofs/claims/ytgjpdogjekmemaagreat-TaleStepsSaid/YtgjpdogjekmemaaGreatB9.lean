/-
  What the laws need, part B9.
  Conditions: none.
-/
import Derived.Test.YtgjpdogjekmemaaGreatB8
set_option linter.unusedVariables false
set_option linter.unusedSimpArgs false
set_option linter.unnecessarySimpa false
set_option maxHeartbeats 2000000
namespace Go.Proofs.YtgjpdogjekmemaaGreat
open Go.RowKit
namespace Fl
open Sx Go.Proofs.Tryz
set_option maxRecDepth 100000
theorem A8 (s:ai) (c:Int) (x:Cn) (ch:Int):cn (aH s c x) ch=x∨cn (aH s c x) ch=cn s ch:=by
 unfold cn aH;simp only [List.getD_eq_getElem?_getD,List.getElem?_set]
 split
 ·split
  ·exact .inl rfl
  ·rename_i h1 h2;rw [← h1,List.getElem?_eq_none (by omega)];exact .inr rfl
 ·exact .inr rfl
theorem Fit.drop {s:ai} (h:Fit s) (i:Int):Fit (bE s i):=by
 have hf:Few s:=h.toAnd;have oS:Few (bE s i):=hf.of (by rw [eU]) (xV _ _) (by rw [oR]);have hg:∀ g,aa (bE s i) g=aa s g:=fun g=>nZ (eU s i) g
 have hc:∀ ch,(cn (bE s i) ch).recv.length≤50000∧(cn (bE s i) ch).send.length≤50000∧(cn (bE s i) ch).buf.length≤50000:=fun ch=>by
  unfold bE
  split
  ·rcases A8 s (su s i).ch { cn s (su s i).ch with recv:=fI (cn s (su s i).ch).recv i,send:=fI (cn s (su s i).ch).send i } ch with e | e
   ·rw [e];exact ⟨Nat.le_trans (List.length_filter_le _ _) (h.rv _),Nat.le_trans (List.length_filter_le _ _) (h.sd _),h.bf _⟩
   ·rw [e];exact ⟨h.rv ch,h.sd ch,h.bf ch⟩
  ·exact ⟨h.rv ch,h.sd ch,h.bf ch⟩
 have e1:(bE s i).done=s.done:=by unfold bE;split <;> rfl
 have e2:(bE s i).cache=s.cache:=by unfold bE;split <;> rfl
 have e3:(bE s i).middle=s.middle:=by unfold bE;split <;> rfl
 exact ⟨oS,fun g=>by rw [hg];exact h.wk g,fun ch=>(hc ch).1,fun ch=>(hc ch).2.1,fun ch=>(hc ch).2.2,fun g=>by rw [hg];exact h.od g,fun g=>by rw [hg];exact h.sg g,by rw [e1];exact h.dn,by rw [e2];exact h.ca,fun g=>by rw [e2];exact h.cl g,by rw [e3];exact h.md⟩
theorem Fit.gF {s:ai} (h:Fit s) (i:Int) (x:Su):Fit (bh s i x):=by
 have hf:Few s:=h.toAnd;have oS:Few (bh s i x):=hf.of rfl rfl (AH _ _ _);exact ⟨oS,h.wk,h.rv,h.sd,h.bf,h.od,h.sg,h.dn,h.ca,h.cl,h.md⟩
theorem A9 {s:ai} {i:Int} {x:Su} (hi:i.toNat < s.aL.length):su (bh s i x) i=x:=by
 unfold su bh;simp only [List.getD_eq_getElem?_getD,List.getElem?_set];rw [if_pos trivial,if_pos hi];rfl
theorem cP.gF {s:ai} {i:Int} {x:Su} (h:cP s i) (e:x.g=(su s i).g):cP (bh s i x) i:=by
 obtain ⟨a,b,c,d⟩:=h;refine ⟨a,by rw [AH];exact b,?_,?_⟩
 ·rw [A9 (by omega),e];exact c
 ·rw [A9 (by omega),e];exact d
theorem mI (s:ai) (g:Nat) (i:Int) (d:Bool):(Sx.serve s g i d).gs.length=s.gs.length:=by simp [Sx.serve,ah,bh]
theorem Gz (s:ai) (g:Nat) (h:jS s g) (hk:(ag s g).kind=2∨(ag s g).kind=4) (hc:(common s g).2=false) (hm:aR s (ag s g).ch=true) (e0:(aa s g).place=8) :
  Pure prog 84 [.agg (aC s),.c (nI g)] (.aU [.agg (aC (bH s g).1),.c (bI (bH s g).2)]):=by
 have hg:=h.co.lt;have hf:Few s:=h.fit.toAnd;have hb:=hf.1;have cQ:=hf.2.1;have C0:=cO s g hg h.co.cJ;have C1:=dY s g h.co;obtain ⟨k,ek,bV⟩:∃ k,(ag s g).kind=k∧(k=2∨k=4):=⟨_,rfl,hk⟩
 have KN:∀ c,((ag s g).kind != c)=(k != c):=fun c=>by rw [ek]
 have KE:∀ c,((ag s g).kind == c)=(k == c):=fun c=>by rw [ek]
 have aZ:¬ ((ag s g).kind≠2∧(ag s g).kind≠4):=by omega
 have bX:¬ (common s g).2=true:=by rw [hc];simp
 rw [hc] at C1;have CM:=dN s (ag s g).ch;have bY:¬ aR s (ag s g).ch=false:=by rw [hm];simp
 have hl:=dJ hm;rw [hm] at CM;have aj:bH s g=bH s g:=rfl
 conv at aj=>rhs;unfold bH;simp only;rw [if_neg aZ,if_neg bX,if_neg bY]
 have P:∀ c,((aa s g).place == c)=((8:Int) == c):=fun c=>by rw [e0]
 refine aA.intro func84 rfl rfl rfl (fun ok e=>?_);rw [av,av,av,av,av] at aj;rw [if_pos e0] at aj;have hi:=h.l8 e0;obtain ⟨eH,ee,gi,ji⟩:=id hi;have D1:=nY s (aa s g).hold eH ee (Nat.le_trans (h.fit.rv _) (by omega)) (Nat.le_trans (h.fit.sd _) (by omega)) cQ;have k1:cP (bE s (aa s g).hold) (aa s g).hold:=hi.of (oR _ _) (by rw [eU]);have f1:=h.fit.drop (aa s g).hold;have g1:g < (bE s (aa s g).hold).gs.length:=by rw [eU];exact hg
 have Ba:jO s g (ag s g).v=Sx.serve (bh (bE s (aa s g).hold) (aa s g).hold { su (bE s (aa s g).hold) (aa s g).hold with v:=(ag s g).v }) g (aa s g).hold true:=rfl;rw [Ba] at aj;rw [aj];clear aj Ba;generalize bE s (aa s g).hold=s1 at *;have a1:=fO k1.1 k1.2.1;have D2:=qv s1 (aa s g).hold { su s1 (aa s g).hold with v:=(ag s g).v } k1.1 k1.2.1 f1.1.2.2;have k2:cP (bh s1 (aa s g).hold { su s1 (aa s g).hold with v:=(ag s g).v }) (aa s g).hold:=k1.gF rfl;have f2:=f1.gF (aa s g).hold { su s1 (aa s g).hold with v:=(ag s g).v };have g2:g < (bh s1 (aa s g).hold { su s1 (aa s g).hold with v:=(ag s g).v }).gs.length:=g1;generalize bh s1 (aa s g).hold { su s1 (aa s g).hold with v:=(ag s g).v }=s2 at *;have D3:=sJ s2 g (aa s g).hold true g2 k2 f2;have g3:g < (Sx.serve s2 g (aa s g).hold true).gs.length:=by rw [mI];exact g2
 have b3:(Sx.serve s2 g (aa s g).hold true).gs.length≤100000:=by rw [mI];exact f2.1.1
 generalize Sx.serve s2 g (aa s g).hold true=s3 at *;have D4:=cj s3 g { aa s3 g with res:=kP,place:=16 } g3 b3;rcases bV with rfl | rfl
 all_goals
  repeat (first | refine aM (KN _) ?_ | refine aM (P _) ?_ | refine au ?_ | intro _)
  refine J.draw (by kernel_rfl) rfl ?_;refine JW.base (some 9) ?_;refine tk 0 ?_;refine tk 1 ?_;refine tk 2 ?_;refine tk 3 ?_;refine tk 5 ?_;refine tk 6 ?_;refine tk 7 ?_;refine cz 4 (D2) ?_;refine cz 8 (D3) ?_;refine jt 9 rfl rfl (Ld.bu rfl rfl rfl (by exact rfl) (by exact rfl)) (fun _=>?_);refine cH ?_
  repeat (first | refine ke (uQ) ?_ | refine au ?_ | intro _)
  exact az func84
theorem GA (s:ai) (g:Nat) (h:jS s g) (hk:(ag s g).kind=2∨(ag s g).kind=4) (hc:(common s g).2=false) (hm:aR s (ag s g).ch=true) (e0:¬ ((aa s g).place=1∨(aa s g).place=2∨(aa s g).place=5∨(aa s g).place=6∨(aa s g).place=7∨(aa s g).place=8∨(aa s g).place=9∨(aa s g).place=10∨(aa s g).place=11∨(aa s g).place=14)) :
  Pure prog 84 [.agg (aC s),.c (nI g)] (.aU [.agg (aC (bH s g).1),.c (bI (bH s g).2)]):=by
 have hg:=h.co.lt;have hf:Few s:=h.fit.toAnd;have hb:=hf.1;have cQ:=hf.2.1;have C0:=cO s g hg h.co.cJ;have C1:=dY s g h.co;obtain ⟨k,ek,bV⟩:∃ k,(ag s g).kind=k∧(k=2∨k=4):=⟨_,rfl,hk⟩
 have KN:∀ c,((ag s g).kind != c)=(k != c):=fun c=>by rw [ek]
 have KE:∀ c,((ag s g).kind == c)=(k == c):=fun c=>by rw [ek]
 have aZ:¬ ((ag s g).kind≠2∧(ag s g).kind≠4):=by omega
 have bX:¬ (common s g).2=true:=by rw [hc];simp
 rw [hc] at C1;have CM:=dN s (ag s g).ch;have bY:¬ aR s (ag s g).ch=false:=by rw [hm];simp
 have hl:=dJ hm;rw [hm] at CM;have aj:bH s g=bH s g:=rfl
 conv at aj=>rhs;unfold bH;simp only;rw [if_neg aZ,if_neg bX,if_neg bY]
 refine aA.intro func84 rfl rfl rfl (fun ok e=>?_);rw [av,av,av,av,av,av,av,av,av,av] at aj;have P1:((aa s g).place == 1)=false:=by simp;omega
 have P2:((aa s g).place == 2)=false:=by simp;omega
 have P5:((aa s g).place == 5)=false:=by simp;omega
 have P6:((aa s g).place == 6)=false:=by simp;omega
 have P7:((aa s g).place == 7)=false:=by simp;omega
 have P8:((aa s g).place == 8)=false:=by simp;omega
 have P9:((aa s g).place == 9)=false:=by simp;omega
 have GB:((aa s g).place == 10)=false:=by simp;omega
 have GC:((aa s g).place == 11)=false:=by simp;omega
 have Bb:((aa s g).place == 14)=false:=by simp;omega
 rw [aj];rcases bV with rfl | rfl
 all_goals
  repeat (first | refine aM (KN _) ?_ | refine au ?_ | intro _)
  exact az func84
theorem GD (s:ai) (g:Nat) (h:jS s g) :
  Pure prog 84 [.agg (aC s),.c (nI g)] (.aU [.agg (aC (bH s g).1),.c (bI (bH s g).2)]):=by
 have hg:=h.co.lt;have C0:=cO s g hg h.co.cJ;have C1:=dY s g h.co
 by_cases hk:(ag s g).kind=2∨(ag s g).kind=4
 case neg =>
  refine aA.intro func84 rfl rfl rfl (fun ok e=>?_);have K2:((ag s g).kind != 2)=true:=by simp;omega
  have K4:((ag s g).kind != 4)=true:=by simp;omega
  have er:bH s g=(s,false):=by unfold bH;simp only;rw [if_pos (by omega)]
  rw [er]
  repeat (first | refine au ?_ | intro _)
  exact az func84
 case pos =>
 have aZ:¬ ((ag s g).kind≠2∧(ag s g).kind≠4):=by omega
 cases hc:(common s g).2 with
 | true =>
  obtain ⟨k,ek,bV⟩:∃ k,(ag s g).kind=k∧(k=2∨k=4):=⟨_,rfl,hk⟩
  have KN:∀ c,((ag s g).kind != c)=(k != c):=fun c=>by rw [ek]
  refine aA.intro func84 rfl rfl rfl (fun ok e=>?_);have er:bH s g=((common s g).1,true):=by unfold bH;simp only;rw [if_neg aZ,if_pos hc]
  rw [er];rw [hc] at C1;rcases bV with rfl | rfl
  all_goals
   repeat (first | refine aM (KN _) ?_ | refine au ?_ | intro _)
   exact az func84
 | false =>
 cases hm:aR s (ag s g).ch with
 | false =>
  have CM:=dN s (ag s g).ch;have bX:¬ (common s g).2=true:=by rw [hc];simp
  obtain ⟨k,ek,bV⟩:∃ k,(ag s g).kind=k∧(k=2∨k=4):=⟨_,rfl,hk⟩
  have KN:∀ c,((ag s g).kind != c)=(k != c):=fun c=>by rw [ek]
  refine aA.intro func84 rfl rfl rfl (fun ok e=>?_);have er:bH s g=(s,false):=by unfold bH;simp only;rw [if_neg aZ,if_neg bX,if_pos hm]
  rw [er];rw [hc] at C1;rw [hm] at CM;rcases bV with rfl | rfl
  all_goals
   repeat (first | refine aM (KN _) ?_ | refine au ?_ | intro _)
   exact az func84
 | true =>
  by_cases e1:(aa s g).place=1
  ·exact Gn s g h hk hc hm e1
  by_cases e2:(aa s g).place=2
  ·exact Gp s g h hk hc hm e2
  by_cases e5:(aa s g).place=5
  ·exact Gq s g h hk hc hm e5
  by_cases e6:(aa s g).place=6
  ·exact Gs s g h hk hc hm e6
  by_cases e7:(aa s g).place=7
  ·exact Gt s g h hk hc hm e7
  by_cases e8:(aa s g).place=8
  ·exact Gz s g h hk hc hm e8
  by_cases e9:(aa s g).place=9
  ·exact Gu s g h hk hc hm e9
  by_cases jT:(aa s g).place=10
  ·exact Gv s g h hk hc hm jT
  by_cases jU:(aa s g).place=11
  ·exact Gw s g h hk hc hm jU
  by_cases gU:(aa s g).place=14
  ·exact Gy s g h hk hc hm gU
  exact GA s g h hk hc hm (by omega)
end Fl
open Go.RowKit
namespace Fl
open Sx Go.Proofs.Tryz
set_option maxRecDepth 100000
theorem Bc (s:ai) (ch i:Int) (hm:aR s ch=true) (cQ:s.aK.length≤100000) (eH:0≤i) (ee:i < s.aL.length) (hl:(cn s ch).buf.length≤50000) :
  Pure prog 119 [.agg (aC s),.c (nI ch),.c (nI i)] (.aU [.agg (aC (Sx.hand s ch i).1),.c (nI (Sx.hand s ch i).2)]):=by
 have GF:=dJ hm;refine aA.intro func119 rfl rfl rfl (fun ok e=>?_)
 cases h1:((cn s ch).cap == 0) with
 | true =>
  have er:Sx.hand s ch i=(s,(su s i).v):=by unfold Sx.hand;simp only;rw [if_pos (by simpa using h1)]
  rw [er]
  repeat (first | refine au ?_ | intro _)
  refine J.draw (by kernel_rfl) rfl ?_;refine JW.iu none (.tmp 6) rfl ?_;refine tk 0 ?_;refine tk 1 ?_;refine tk 2 ?_;refine tk 3 ?_;refine JD.take 4 rfl rfl (by kernel_rfl) rfl (qb rfl) (Qt.dj rfl rfl eH (fO eH ee)) rfl ?_;refine tk 5 ?_;refine tk 6 ?_;refine JD.cE (i:=7) (by kernel_rfl) ?_
  (refine JS.st rfl rfl rfl (Ld.bu rfl rfl rfl (by exact rfl) (by exact rfl)) (.uA rfl) (fun _=>?_))
  refine tk 8 ?_;refine aX ?_
  repeat (fail)
  exact az func119
 | false =>
  have er:Sx.hand s ch i=(aH s ch { cn s ch with buf:=(fj (cn s ch).buf (cn s ch).cap (su s i).v).1 },(fj (cn s ch).buf (cn s ch).cap (su s i).v).2.1):=by unfold Sx.hand;simp only;rw [if_neg (by simpa using h1)]
  have CP:=Gl (cn s ch).buf (cn s ch).cap (su s i).v hl
  cases h2:(fj (cn s ch).buf (cn s ch).cap (su s i).v).2.2 with
  | true =>
   rw [h2] at CP;rw [er]
   repeat (first | refine au ?_ | intro _)
   refine J.draw (by kernel_rfl) rfl ?_;refine JW.base none ?_;refine tk 0 ?_;refine tk 1 ?_;refine tk 2 ?_;refine tk 3 ?_;refine tk 4 ?_;refine tk 5 ?_;refine tk 6 ?_;refine JD.take 7 rfl rfl (by kernel_rfl) rfl (qb rfl) (Qt.dj rfl rfl eH (fO eH ee)) rfl ?_;refine tk 8 ?_;refine tk 9 ?_;refine cz 10 (CP) ?_;refine jk 11 rfl rfl rfl rfl (Qt.move rfl) ?_;refine JD.kN ?_;refine tk 12 ?_;refine tk 13 ?_;refine tk 14 ?_;refine jk 15 rfl rfl rfl rfl (Qt.assign rfl) ?_;refine jk 16 rfl rfl rfl rfl (Qt.assign rfl) ?_;refine jk 17 rfl rfl rfl rfl (Qt.assign rfl) ?_;refine aX ?_
   repeat (first | refine aO (jR s ch { cn s ch with buf:=(fj (cn s ch).buf (cn s ch).cap (su s i).v).1 } hm cQ) ?_ | refine gn ?_)
   exact az func119
  | false =>
   have e2:(fj (cn s ch).buf (cn s ch).cap (su s i).v).1=(cn s ch).buf:=by
    revert h2;unfold fj;split <;> simp
   have e3:({ cn s ch with buf:=(fj (cn s ch).buf (cn s ch).cap (su s i).v).1 }:Cn)=cn s ch:=by rw [e2]
   rw [e3] at er;rw [h2] at CP;rw [er]
   repeat (first | refine au ?_ | intro _)
   refine J.draw (by kernel_rfl) rfl ?_;refine JW.base none ?_;refine tk 0 ?_;refine tk 1 ?_;refine tk 2 ?_;refine tk 3 ?_;refine tk 4 ?_;refine tk 5 ?_;refine tk 6 ?_;refine JD.take 7 rfl rfl (by kernel_rfl) rfl (qb rfl) (Qt.dj rfl rfl eH (fO eH ee)) rfl ?_;refine tk 8 ?_;refine tk 9 ?_;refine cz 10 (CP) ?_;refine jk 11 rfl rfl rfl rfl (Qt.move rfl) ?_;refine JD.kN ?_;refine tk 12 ?_;refine tk 13 ?_;refine tk 14 ?_;refine jk 15 rfl rfl rfl rfl (Qt.assign rfl) ?_;refine jk 16 rfl rfl rfl rfl (Qt.assign rfl) ?_;refine jk 17 rfl rfl rfl rfl (Qt.assign rfl) ?_;refine aX ?_
   repeat (first | refine aO (jR s ch (cn s ch) hm cQ) ?_ | refine gn ?_)
   exact az func119
end Fl
open Go.RowKit
namespace Fl
open Sx Go.Proofs.Tryz
set_option maxRecDepth 100000
structure jz (s:ai) (g:Nat):Prop where
 co:qw s g
 fit:Fit s
 l6:(aa s g).place=6→∀ i l,(cn s (ag s g).ch).send=i :: l→cP s i
 l7:(aa s g).place=7→cP s (aa s g).hold
 l8:(aa s g).place=8→cP s (aa s g).hold
 xY:(aa s g).place=10→kr s∧g < s.cache.length∧((bw s g).2.2=true→0≤(bw s g).2.1∧(bw s g).2.1 < s.aL.length)
 sP:(aa s g).place=14→0≤(aa s g).param∧(aa s g).param < s.aL.length
theorem GG (s:ai) (g:Nat) (h:jz s g) (hk:(ag s g).kind=3∨(ag s g).kind=5) (hc:(common s g).2=false) (hm:aR s (ag s g).ch=true) (e0:(aa s g).place=1) :
  Pure prog 85 [.agg (aC s),.c (nI g)] (.aU [.agg (aC (bF s g).1),.c (bI (bF s g).2)]):=by
 have hg:=h.co.lt;have hf:Few s:=h.fit.toAnd;have hb:=hf.1;have cQ:=hf.2.1;have C0:=cO s g hg h.co.cJ;have C1:=dY s g h.co;obtain ⟨k,ek,bV⟩:∃ k,(ag s g).kind=k∧(k=3∨k=5):=⟨_,rfl,hk⟩
 have KN:∀ c,((ag s g).kind != c)=(k != c):=fun c=>by rw [ek]
 have KE:∀ c,((ag s g).kind == c)=(k == c):=fun c=>by rw [ek]
 have aZ:¬ ((ag s g).kind≠3∧(ag s g).kind≠5):=by omega
 have bX:¬ (common s g).2=true:=by rw [hc];simp
 rw [hc] at C1;have CM:=dN s (ag s g).ch;have bY:¬ aR s (ag s g).ch=false:=by rw [hm];simp
 have hl:=dJ hm;rw [hm] at CM;have aj:bF s g=bF s g:=rfl
 conv at aj=>rhs;unfold bF;simp only;rw [if_neg aZ,if_neg bX,if_neg bY]
 have P:∀ c,((aa s g).place == c)=((1:Int) == c):=fun c=>by rw [e0]
 refine aA.intro func85 rfl rfl rfl (fun ok e=>?_);rw [if_pos e0] at aj;have CR:=AF (cn s (ag s g).ch)
 cases hr:oP (cn s (ag s g).ch) with
 | true =>
  rw [if_pos hr] at aj;rw [hr] at CR;rw [aj];rcases bV with rfl | rfl
  all_goals
   repeat (first | refine aM (KN _) ?_ | refine aM (P _) ?_ | refine aO (dX s g 4 hg hb) ?_ | refine au ?_ | intro _)
   exact az func85
 | false =>
  rw [if_neg (by rw [hr];simp)] at aj;rw [hr] at CR;rw [aj];rcases bV with rfl | rfl
  all_goals
   repeat (first | refine aM (KN _) ?_ | refine aM (P _) ?_ | refine aO (gE s g (aa s g).res 2 hg hb) ?_ | refine au ?_ | intro _)
   exact az func85
theorem GH (s:ai) (g:Nat) (h:jz s g) (hk:(ag s g).kind=3∨(ag s g).kind=5) (hc:(common s g).2=false) (hm:aR s (ag s g).ch=true) (e0:(aa s g).place=2) :
  Pure prog 85 [.agg (aC s),.c (nI g)] (.aU [.agg (aC (bF s g).1),.c (bI (bF s g).2)]):=by
 have hg:=h.co.lt;have hf:Few s:=h.fit.toAnd;have hb:=hf.1;have cQ:=hf.2.1;have C0:=cO s g hg h.co.cJ;have C1:=dY s g h.co;obtain ⟨k,ek,bV⟩:∃ k,(ag s g).kind=k∧(k=3∨k=5):=⟨_,rfl,hk⟩
 have KN:∀ c,((ag s g).kind != c)=(k != c):=fun c=>by rw [ek]
 have KE:∀ c,((ag s g).kind == c)=(k == c):=fun c=>by rw [ek]
 have aZ:¬ ((ag s g).kind≠3∧(ag s g).kind≠5):=by omega
 have bX:¬ (common s g).2=true:=by rw [hc];simp
 rw [hc] at C1;have CM:=dN s (ag s g).ch;have bY:¬ aR s (ag s g).ch=false:=by rw [hm];simp
 have hl:=dJ hm;rw [hm] at CM;have aj:bF s g=bF s g:=rfl
 conv at aj=>rhs;unfold bF;simp only;rw [if_neg aZ,if_neg bX,if_neg bY]
 have P:∀ c,((aa s g).place == c)=((2:Int) == c):=fun c=>by rw [e0]
 refine aA.intro func85 rfl rfl rfl (fun ok e=>?_);rw [av] at aj;rw [if_pos e0] at aj
 cases bZ:(cn s (ag s g).ch).closed with
 | true =>
  rw [if_pos bZ] at aj;rw [aj];rcases bV with rfl | rfl
  all_goals
   repeat (first | refine J.eZ (congrArg (fun b=>some (D.c (bI b))) bZ) ?_ | refine aM (KN _) ?_ | refine aM (P _) ?_ | refine aO (dX s g 3 hg hb) ?_ | refine au ?_ | intro _)
   exact az func85
 | false =>
  rw [if_neg (by rw [bZ];simp)] at aj;rw [aj];rcases bV with rfl | rfl
  all_goals
   repeat (first | refine J.eK (congrArg (fun b=>some (D.c (bI b))) bZ) ?_ | refine aM (KN _) ?_ | refine aM (P _) ?_ | refine aO (cj s g { aa s g with res:={ (aa s g).res with code:=2 },place:=18 } hg hb) ?_ | refine au ?_ | intro _)
   exact az func85
theorem GI (s:ai) (g:Nat) (h:jz s g) (hk:(ag s g).kind=3∨(ag s g).kind=5) (hc:(common s g).2=false) (hm:aR s (ag s g).ch=true) (e0:(aa s g).place=3) :
  Pure prog 85 [.agg (aC s),.c (nI g)] (.aU [.agg (aC (bF s g).1),.c (bI (bF s g).2)]):=by
 have hg:=h.co.lt;have hf:Few s:=h.fit.toAnd;have hb:=hf.1;have cQ:=hf.2.1;have C0:=cO s g hg h.co.cJ;have C1:=dY s g h.co;obtain ⟨k,ek,bV⟩:∃ k,(ag s g).kind=k∧(k=3∨k=5):=⟨_,rfl,hk⟩
 have KN:∀ c,((ag s g).kind != c)=(k != c):=fun c=>by rw [ek]
 have KE:∀ c,((ag s g).kind == c)=(k == c):=fun c=>by rw [ek]
 have aZ:¬ ((ag s g).kind≠3∧(ag s g).kind≠5):=by omega
 have bX:¬ (common s g).2=true:=by rw [hc];simp
 rw [hc] at C1;have CM:=dN s (ag s g).ch;have bY:¬ aR s (ag s g).ch=false:=by rw [hm];simp
 have hl:=dJ hm;rw [hm] at CM;have aj:bF s g=bF s g:=rfl
 conv at aj=>rhs;unfold bF;simp only;rw [if_neg aZ,if_neg bX,if_neg bY]
 have P:∀ c,((aa s g).place == c)=((3:Int) == c):=fun c=>by rw [e0]
 refine aA.intro func85 rfl rfl rfl (fun ok e=>?_);rw [av,av] at aj;rw [if_pos e0] at aj;have CR:=AF (cn s (ag s g).ch)
 cases hr:oP (cn s (ag s g).ch) with
 | true =>
  rw [if_pos hr] at aj;rw [hr] at CR;rw [aj];rcases bV with rfl | rfl
  all_goals
   repeat (first | refine aM (KN _) ?_ | refine aM (P _) ?_ | refine aO (cj s g { aa s g with bS:=0,place:=4 } hg hb) ?_ | refine au ?_ | intro _)
   exact az func85
 | false =>
  rw [if_neg (by rw [hr];simp)] at aj;rw [hr] at CR;rw [aj];rcases bV with rfl | rfl
  all_goals
   repeat (first | refine aM (KN _) ?_ | refine aM (P _) ?_ | refine au ?_ | intro _)
   refine J.draw (by kernel_rfl) rfl ?_;refine JW.base (some 4) ?_;refine tk 0 ?_;refine tk 1 ?_;refine cz 2 (iQ 0 false) ?_;refine cz 3 (gE s g (dA 0 false) 18 hg hb) ?_;refine jt 4 rfl rfl (Ld.bu rfl rfl rfl (by exact rfl) (by exact rfl)) (fun _=>?_);refine JW.base none ?_;refine jk 5 rfl rfl rfl rfl (Qt.assign rfl) ?_;refine aX ?_
   repeat (fail)
   exact az func85
theorem GJ (s:ai) (g:Nat) (h:jz s g) (hk:(ag s g).kind=3∨(ag s g).kind=5) (hc:(common s g).2=false) (hm:aR s (ag s g).ch=true) (e0:(aa s g).place=6) :
  Pure prog 85 [.agg (aC s),.c (nI g)] (.aU [.agg (aC (bF s g).1),.c (bI (bF s g).2)]):=by
 have hg:=h.co.lt;have hf:Few s:=h.fit.toAnd;have hb:=hf.1;have cQ:=hf.2.1;have C0:=cO s g hg h.co.cJ;have C1:=dY s g h.co;obtain ⟨k,ek,bV⟩:∃ k,(ag s g).kind=k∧(k=3∨k=5):=⟨_,rfl,hk⟩
 have KN:∀ c,((ag s g).kind != c)=(k != c):=fun c=>by rw [ek]
 have KE:∀ c,((ag s g).kind == c)=(k == c):=fun c=>by rw [ek]
 have aZ:¬ ((ag s g).kind≠3∧(ag s g).kind≠5):=by omega
 have bX:¬ (common s g).2=true:=by rw [hc];simp
 rw [hc] at C1;have CM:=dN s (ag s g).ch;have bY:¬ aR s (ag s g).ch=false:=by rw [hm];simp
 have hl:=dJ hm;rw [hm] at CM;have aj:bF s g=bF s g:=rfl
 conv at aj=>rhs;unfold bF;simp only;rw [if_neg aZ,if_neg bX,if_neg bY]
 have P:∀ c,((aa s g).place == c)=((6:Int) == c):=fun c=>by rw [e0]
 refine aA.intro func85 rfl rfl rfl (fun ok e=>?_);rw [av,av,av,av] at aj;rw [if_pos e0] at aj
 cases hJ:(cn s (ag s g).ch).send with
 | nil =>
  have hz:(((cn s (ag s g).ch).send.length:Int) == 0)=true:=by rw [hJ];rfl
  rw [if_pos (by rw [hJ];rfl)] at aj;rw [aj];rcases bV with rfl | rfl
  all_goals
   repeat (first | refine aM (KN _) ?_ | refine aM (P _) ?_ | refine aO (dX s g 9 hg hb) ?_ | refine au ?_ | intro _)
   exact az func85
 | cons a l =>
  have hz:(((cn s (ag s g).ch).send.length:Int) == 0)=false:=by rw [hJ];simp;omega
  have w0:((cn s (ag s g).ch).send.map fun n=>[nI n])[(0:Int).toNat]?=some [nI a]:=by rw [hJ];rfl
  rw [if_neg (by rw [hJ];simp),hJ] at aj;rw [aj];rcases bV with rfl | rfl
  all_goals
   repeat (first | refine aM (KN _) ?_ | refine aM (P _) ?_ | refine au ?_ | intro _)
   refine J.draw (by kernel_rfl) rfl ?_;refine JW.base (some 7) ?_;refine tk 0 ?_;refine tk 1 ?_;refine tk 2 ?_;refine tk 3 ?_;refine JD.take 4 rfl rfl (by kernel_rfl) rfl (qb rfl) (Qt.dj rfl rfl (by omega) w0) rfl ?_;refine tk 5 ?_;refine cz 6 (uT s g a 7 8 hg (h.l6 e0 a l hJ) h.fit) ?_;refine jt 7 rfl rfl (Ld.bu rfl rfl rfl (by exact rfl) (by exact rfl)) (fun _=>?_);refine JW.base none ?_;refine jk 8 rfl rfl rfl rfl (Qt.assign rfl) ?_;refine aX ?_
   repeat (fail)
   exact az func85
theorem GK (s:ai) (g:Nat) (h:jz s g) (hk:(ag s g).kind=3∨(ag s g).kind=5) (hc:(common s g).2=false) (hm:aR s (ag s g).ch=true) (e0:(aa s g).place=7) :
  Pure prog 85 [.agg (aC s),.c (nI g)] (.aU [.agg (aC (bF s g).1),.c (bI (bF s g).2)]):=by
 have hg:=h.co.lt;have hf:Few s:=h.fit.toAnd;have hb:=hf.1;have cQ:=hf.2.1;have C0:=cO s g hg h.co.cJ;have C1:=dY s g h.co;obtain ⟨k,ek,bV⟩:∃ k,(ag s g).kind=k∧(k=3∨k=5):=⟨_,rfl,hk⟩
 have KN:∀ c,((ag s g).kind != c)=(k != c):=fun c=>by rw [ek]
 have KE:∀ c,((ag s g).kind == c)=(k == c):=fun c=>by rw [ek]
 have aZ:¬ ((ag s g).kind≠3∧(ag s g).kind≠5):=by omega
 have bX:¬ (common s g).2=true:=by rw [hc];simp
 rw [hc] at C1;have CM:=dN s (ag s g).ch;have bY:¬ aR s (ag s g).ch=false:=by rw [hm];simp
 have hl:=dJ hm;rw [hm] at CM;have aj:bF s g=bF s g:=rfl
 conv at aj=>rhs;unfold bF;simp only;rw [if_neg aZ,if_neg bX,if_neg bY]
 have P:∀ c,((aa s g).place == c)=((7:Int) == c):=fun c=>by rw [e0]
 refine aA.intro func85 rfl rfl rfl (fun ok e=>?_);rw [av,av,av,av,av] at aj;rw [if_pos e0] at aj;rw [aj];rcases bV with rfl | rfl
 all_goals
  repeat (first | refine aM (KN _) ?_ | refine aM (P _) ?_ | refine aO (xW s g 6 8 hg (h.l7 e0) h.fit) ?_ | refine au ?_ | intro _)
  exact az func85
theorem GL (s:ai) (g:Nat) (h:jz s g) (hk:(ag s g).kind=3∨(ag s g).kind=5) (hc:(common s g).2=false) (hm:aR s (ag s g).ch=true) (e0:(aa s g).place=9) :
  Pure prog 85 [.agg (aC s),.c (nI g)] (.aU [.agg (aC (bF s g).1),.c (bI (bF s g).2)]):=by
 have hg:=h.co.lt;have hf:Few s:=h.fit.toAnd;have hb:=hf.1;have cQ:=hf.2.1;have C0:=cO s g hg h.co.cJ;have C1:=dY s g h.co;obtain ⟨k,ek,bV⟩:∃ k,(ag s g).kind=k∧(k=3∨k=5):=⟨_,rfl,hk⟩
 have KN:∀ c,((ag s g).kind != c)=(k != c):=fun c=>by rw [ek]
 have KE:∀ c,((ag s g).kind == c)=(k == c):=fun c=>by rw [ek]
 have aZ:¬ ((ag s g).kind≠3∧(ag s g).kind≠5):=by omega
 have bX:¬ (common s g).2=true:=by rw [hc];simp
 rw [hc] at C1;have CM:=dN s (ag s g).ch;have bY:¬ aR s (ag s g).ch=false:=by rw [hm];simp
 have hl:=dJ hm;rw [hm] at CM;have aj:bF s g=bF s g:=rfl
 conv at aj=>rhs;unfold bF;simp only;rw [if_neg aZ,if_neg bX,if_neg bY]
 have P:∀ c,((aa s g).place == c)=((9:Int) == c):=fun c=>by rw [e0]
 refine aA.intro func85 rfl rfl rfl (fun ok e=>?_);rw [av,av,av,av,av,av,av] at aj;rw [if_pos e0] at aj;have CP:=A6 (cn s (ag s g).ch).buf (h.fit.bf _)
 cases hr:(eW (cn s (ag s g).ch).buf).2.2 with
 | true =>
  rw [if_pos hr] at aj;rw [hr] at CP;rw [aj];rcases bV with rfl | rfl
  all_goals
   repeat (first | refine aM (KN _) ?_ | refine aM (P _) ?_ | refine aO (jR s (ag s g).ch { (cn s (ag s g).ch) with buf:=(eW (cn s (ag s g).ch).buf).1 } hm cQ) ?_ | refine aO (iQ (eW (cn s (ag s g).ch).buf).2.1 true) ?_ | refine aO (gE (aH s (ag s g).ch { (cn s (ag s g).ch) with buf:=(eW (cn s (ag s g).ch).buf).1 }) g (dA (eW (cn s (ag s g).ch).buf).2.1 true) 16 hg hb) ?_ | refine au ?_ | intro _)
   exact az func85
 | false =>
  rw [if_neg (by rw [hr];simp)] at aj;rw [hr] at CP;rcases bV with rfl | rfl
  ·rw [av] at aj;rw [aj]
   repeat (first | refine aM (KN _) ?_ | refine aM (P _) ?_ | refine aM (KE _) ?_ | refine aO (dX s g 10 hg hb) ?_ | refine au ?_ | intro _)
   exact az func85
  ·rw [if_pos ek] at aj;rw [aj]
   repeat (first | refine aM (KN _) ?_ | refine aM (P _) ?_ | refine aM (KE _) ?_ | refine aO (gE s g (Sx.res 2) 16 hg hb) ?_ | refine au ?_ | intro _)
   exact az func85
theorem GM (s:ai) (g:Nat) (h:jz s g) (hk:(ag s g).kind=3∨(ag s g).kind=5) (hc:(common s g).2=false) (hm:aR s (ag s g).ch=true) (e0:(aa s g).place=10) :
  Pure prog 85 [.agg (aC s),.c (nI g)] (.aU [.agg (aC (bF s g).1),.c (bI (bF s g).2)]):=by
 have hg:=h.co.lt;have hf:Few s:=h.fit.toAnd;have hb:=hf.1;have cQ:=hf.2.1;have C0:=cO s g hg h.co.cJ;have C1:=dY s g h.co;obtain ⟨k,ek,bV⟩:∃ k,(ag s g).kind=k∧(k=3∨k=5):=⟨_,rfl,hk⟩
 have KN:∀ c,((ag s g).kind != c)=(k != c):=fun c=>by rw [ek]
 have KE:∀ c,((ag s g).kind == c)=(k == c):=fun c=>by rw [ek]
 have aZ:¬ ((ag s g).kind≠3∧(ag s g).kind≠5):=by omega
 have bX:¬ (common s g).2=true:=by rw [hc];simp
 rw [hc] at C1;have CM:=dN s (ag s g).ch;have bY:¬ aR s (ag s g).ch=false:=by rw [hm];simp
 have hl:=dJ hm;rw [hm] at CM;have aj:bF s g=bF s g:=rfl
 conv at aj=>rhs;unfold bF;simp only;rw [if_neg aZ,if_neg bX,if_neg bY]
 have P:∀ c,((aa s g).place == c)=((10:Int) == c):=fun c=>by rw [e0]
 refine aA.intro func85 rfl rfl rfl (fun ok e=>?_);rw [av,av,av,av,av,av,av,av] at aj;rw [if_pos e0] at aj;obtain ⟨f1,f2,f3⟩:=h.xY e0;rw [aj];rcases bV with rfl | rfl
 all_goals
  repeat (first | refine aM (KN _) ?_ | refine aM (P _) ?_ | refine aO (A7 s g ⟨true,g,(ag s g).ch,-1,false,0,false⟩ hg hf f1 f2 f3) ?_ | refine au ?_ | intro _)
  exact az func85
theorem GN (s:ai) (g:Nat) (h:jz s g) (hk:(ag s g).kind=3∨(ag s g).kind=5) (hc:(common s g).2=false) (hm:aR s (ag s g).ch=true) (e0:(aa s g).place=11) :
  Pure prog 85 [.agg (aC s),.c (nI g)] (.aU [.agg (aC (bF s g).1),.c (bI (bF s g).2)]):=by
 have hg:=h.co.lt;have hf:Few s:=h.fit.toAnd;have hb:=hf.1;have cQ:=hf.2.1;have C0:=cO s g hg h.co.cJ;have C1:=dY s g h.co;obtain ⟨k,ek,bV⟩:∃ k,(ag s g).kind=k∧(k=3∨k=5):=⟨_,rfl,hk⟩
 have KN:∀ c,((ag s g).kind != c)=(k != c):=fun c=>by rw [ek]
 have KE:∀ c,((ag s g).kind == c)=(k == c):=fun c=>by rw [ek]
 have aZ:¬ ((ag s g).kind≠3∧(ag s g).kind≠5):=by omega
 have bX:¬ (common s g).2=true:=by rw [hc];simp
 rw [hc] at C1;have CM:=dN s (ag s g).ch;have bY:¬ aR s (ag s g).ch=false:=by rw [hm];simp
 have hl:=dJ hm;rw [hm] at CM;have aj:bF s g=bF s g:=rfl
 conv at aj=>rhs;unfold bF;simp only;rw [if_neg aZ,if_neg bX,if_neg bY]
 have P:∀ c,((aa s g).place == c)=((11:Int) == c):=fun c=>by rw [e0]
 refine aA.intro func85 rfl rfl rfl (fun ok e=>?_);rw [av,av,av,av,av,av,av,av,av] at aj;rw [if_pos e0] at aj;rw [aj];have ia:=h.fit.rv (ag s g).ch;have C2:=jR s (ag s g).ch { (cn s (ag s g).ch) with recv:=(cn s (ag s g).ch).recv ++ [(aa s g).bt] } hm cQ;have C3:=cj (aH s (ag s g).ch { (cn s (ag s g).ch) with recv:=(cn s (ag s g).ch).recv ++ [(aa s g).bt] }) g { aa s g with fW:=s.step,place:=12 } hg hb;rcases bV with rfl | rfl
 all_goals
  repeat (first | refine aM (KN _) ?_ | refine aM (P _) ?_ | refine au ?_ | intro _)
  refine J.draw (by kernel_rfl) rfl ?_;refine JW.base (some 9) ?_;refine tk 1 ?_;refine tk 2 ?_;refine tk 4 ?_;refine tk 5 ?_;refine JD.cF (i:=0) (j:=6) (by kernel_rfl) ?_ ?_;refine JS.cC rfl rfl rfl (qb rfl) (Ld.eJ (qb rfl)) .none (fun _=>?_);refine JD.cF (i:=3) (j:=6) (by kernel_rfl) ?_ ?_;refine JS.cC rfl rfl rfl (qb rfl) (Ld.bO (qb rfl) rfl rfl .read (by (simp;omega))) (by (exact .row (by repeat ((exact .refl))))) (fun _=>?_);refine jl 6 rfl rfl rfl rfl (Ld.dK (qb rfl) rfl rfl rfl rfl rfl) .none (fun _=>?_);refine jl 7 rfl rfl rfl rfl (Ld.dU (qb rfl) rfl rfl .cX (by (simp;omega))) (by (exact .row (by repeat (first | exact .refl | refine .cons ?_)))) (fun _=>?_);refine jk 8 rfl rfl rfl rfl (Qt.fieldAddr rfl rfl) ?_;refine jt 9 rfl rfl (Ld.cW rfl rfl (by exact rfl)) (fun _=>?_);refine cH ?_
  rotate_left
  refine JS.cC rfl rfl rfl (qb rfl) (Ld.dK (qb rfl) rfl rfl rfl rfl rfl) .none (fun _=>?_);refine jl 3 rfl rfl rfl rfl (Ld.bO (qb rfl) rfl rfl .read (by (simp;omega))) (by (exact .row (by repeat (first | exact .refl | refine .cons ?_)))) (fun _=>?_);refine jl 7 rfl rfl rfl rfl (Ld.dU (qb rfl) rfl rfl .cX (by (simp;omega))) (by (exact .row (by repeat (first | exact .refl | refine .cons ?_)))) (fun _=>?_);refine jk 8 rfl rfl rfl rfl (Qt.fieldAddr rfl rfl) ?_;refine jt 9 rfl rfl (Ld.cW rfl rfl (by exact rfl)) (fun _=>?_);refine cH ?_
  rotate_left
  refine JS.cC rfl rfl rfl (qb rfl) (Ld.dK (qb rfl) rfl rfl rfl rfl rfl) .none (fun _=>?_);refine jl 0 rfl rfl rfl rfl (Ld.eJ (qb rfl)) .none (fun _=>?_);refine jl 3 rfl rfl rfl rfl (Ld.bO (qb rfl) rfl rfl .read (by (simp;omega))) (by (exact .row (by repeat (first | exact .refl | refine .cons ?_)))) (fun _=>?_);refine jl 7 rfl rfl rfl rfl (Ld.dU (qb rfl) rfl rfl .cX (by (simp;omega))) (by (exact .row (by repeat (first | exact .refl | refine .cons ?_)))) (fun _=>?_);refine jk 8 rfl rfl rfl rfl (Qt.fieldAddr rfl rfl) ?_;refine jt 9 rfl rfl (Ld.cW rfl rfl (by exact rfl)) (fun _=>?_);refine cH ?_
  rotate_left
  all_goals
   repeat (refine gn ?_)
   refine J.draw (by kernel_rfl) rfl ?_;refine JW.base (some 8) ?_;refine tk 0 ?_;refine tk 1 ?_;refine tk 2 ?_;refine tk 3 ?_;refine tk 5 ?_;refine tk 6 ?_;refine jl 4 rfl rfl rfl rfl (Ld.pure (C2) (qb rfl) rfl (by repeat (first | exact bR.nil | refine bR.cons (dm.agg (by repeat (first | exact .nil | refine .cons .refl ?_ | refine .cons .snoc ?_))) ?_ | refine bR.cons dm.refl ?_))) .none (fun _=>?_);refine cz 7 (C3) ?_;refine jt 8 rfl rfl (Ld.bu rfl rfl rfl (by exact rfl) (by exact rfl)) (fun _=>?_);refine JW.base none ?_;refine jk 9 rfl rfl rfl rfl (Qt.assign rfl) ?_;refine aX ?_
   repeat (fail)
   exact az func85
theorem GO (s:ai) (g:Nat) (h:jz s g) (hk:(ag s g).kind=3∨(ag s g).kind=5) (hc:(common s g).2=false) (hm:aR s (ag s g).ch=true) (e0:(aa s g).place=14) :
  Pure prog 85 [.agg (aC s),.c (nI g)] (.aU [.agg (aC (bF s g).1),.c (bI (bF s g).2)]):=by
 have hg:=h.co.lt;have hf:Few s:=h.fit.toAnd;have hb:=hf.1;have cQ:=hf.2.1;have C0:=cO s g hg h.co.cJ;have C1:=dY s g h.co;obtain ⟨k,ek,bV⟩:∃ k,(ag s g).kind=k∧(k=3∨k=5):=⟨_,rfl,hk⟩
 have KN:∀ c,((ag s g).kind != c)=(k != c):=fun c=>by rw [ek]
 have KE:∀ c,((ag s g).kind == c)=(k == c):=fun c=>by rw [ek]
 have aZ:¬ ((ag s g).kind≠3∧(ag s g).kind≠5):=by omega
 have bX:¬ (common s g).2=true:=by rw [hc];simp
 rw [hc] at C1;have CM:=dN s (ag s g).ch;have bY:¬ aR s (ag s g).ch=false:=by rw [hm];simp
 have hl:=dJ hm;rw [hm] at CM;have aj:bF s g=bF s g:=rfl
 conv at aj=>rhs;unfold bF;simp only;rw [if_neg aZ,if_neg bX,if_neg bY]
 have P:∀ c,((aa s g).place == c)=((14:Int) == c):=fun c=>by rw [e0]
 refine aA.intro func85 rfl rfl rfl (fun ok e=>?_);rw [av,av,av,av,av,av,av,av,av,av] at aj;rw [if_pos e0] at aj;obtain ⟨f1,f2⟩:=h.sP e0;rw [aj]
 cases hd:(su s (aa s g).param).done with
 | true =>
  rw [if_pos rfl];rcases bV with rfl | rfl
  all_goals
   repeat (first | refine J.eZ (congrArg (fun b=>some (D.c (bI b))) hd) ?_ | (refine K.indexAddr ?_;refine jx rfl rfl rfl rfl (by omega) (fO f1 f2) ?_) | refine aM (KN _) ?_ | refine aM (P _) ?_ | refine aO (iQ 0 false) ?_ | refine aO (iQ (su s (aa s g).param).v true) ?_ | refine aO (cj s g { aa s g with res:=dA (su s (aa s g).param).v true,param:=-1,place:=15 } hg hb) ?_ | refine au ?_ | intro _)
   exact az func85
 | false =>
  rw [if_neg (by simp)];rcases bV with rfl | rfl
  all_goals
   repeat (first | refine J.eK (congrArg (fun b=>some (D.c (bI b))) hd) ?_ | (refine K.indexAddr ?_;refine jx rfl rfl rfl rfl (by omega) (fO f1 f2) ?_) | refine aM (KN _) ?_ | refine aM (P _) ?_ | refine aO (iQ 0 false) ?_ | refine aO (cj s g { aa s g with res:=dA 0 false,param:=-1,place:=15 } hg hb) ?_ | refine au ?_ | intro _)
   exact az func85
end Fl
end Go.Proofs.YtgjpdogjekmemaaGreat
