/-
  What the laws need, part D28.
  Conditions: none.
-/
import Derived.Test.YtofnbflkhgammaaGreatD27
set_option linter.unusedVariables false
set_option linter.unusedSimpArgs false
set_option linter.unnecessarySimpa false
set_option maxHeartbeats 2000000
namespace Go.Proofs.YtofnbflkhgammaaGreat
open Go.RowKit
namespace Fl
open Sx Go.Proofs.Tryz
set_option maxRecDepth 100000
theorem NY (s:ah) (c:Int) (x:Cn) (ch:Int):cn (aE s c x) ch=x∨cn (aE s c x) ch=cn s ch:=by
 unfold cn aE;simp only [List.getD_eq_getElem?_getD,List.getElem?_set]
 split
 ·split
  ·exact .inl rfl
  ·rename_i h1 h2;rw [← h1,List.getElem?_eq_none (by omega)];exact .inr rfl
 ·exact .inr rfl
theorem Fit.drop {s:ah} (h:Fit s) (i:Int):Fit (bq s i):=by
 have hf:Few s:=h.toAnd;have vK:Few (bq s i):=hf.of (by rw [fX]) (GY _ _) (by rw [vJ]);have hg:∀ g,aa (bq s i) g=aa s g:=fun g=>uh (fX s i) g
 have hc:∀ ch,(cn (bq s i) ch).recv.length≤50000∧(cn (bq s i) ch).send.length≤50000∧(cn (bq s i) ch).buf.length≤50000:=fun ch=>by
  unfold bq
  split
  ·rcases NY s (su s i).ch { cn s (su s i).ch with recv:=ig (cn s (su s i).ch).recv i,send:=ig (cn s (su s i).ch).send i } ch with e | e
   ·rw [e];exact ⟨Nat.le_trans (List.length_filter_le _ _) (h.rv _),Nat.le_trans (List.length_filter_le _ _) (h.sd _),h.bf _⟩
   ·rw [e];exact ⟨h.rv ch,h.sd ch,h.bf ch⟩
  ·exact ⟨h.rv ch,h.sd ch,h.bf ch⟩
 have e1:(bq s i).done=s.done:=by unfold bq;split <;> rfl
 have e2:(bq s i).cache=s.cache:=by unfold bq;split <;> rfl
 have e3:(bq s i).middle=s.middle:=by unfold bq;split <;> rfl
 exact ⟨vK,fun g=>by rw [hg];exact h.wk g,fun ch=>(hc ch).1,fun ch=>(hc ch).2.1,fun ch=>(hc ch).2.2,fun g=>by rw [hg];exact h.od g,fun g=>by rw [hg];exact h.sg g,by rw [e1];exact h.dn,by rw [e2];exact h.ca,fun g=>by rw [e2];exact h.cl g,by rw [e3];exact h.md⟩
theorem Fit.fW {s:ah} (h:Fit s) (i:Int) (x:Su):Fit (aR s i x):=by
 have hf:Few s:=h.toAnd;have vK:Few (aR s i x):=hf.of rfl rfl (NF _ _ _);exact ⟨vK,h.wk,h.rv,h.sd,h.bf,h.od,h.sg,h.dn,h.ca,h.cl,h.md⟩
theorem NZ {s:ah} {i:Int} {x:Su} (hi:i.toNat < s.aC.length):su (aR s i x) i=x:=by
 unfold su aR;simp only [List.getD_eq_getElem?_getD,List.getElem?_set];rw [if_pos trivial,if_pos hi];rfl
theorem dz.fW {s:ah} {i:Int} {x:Su} (h:dz s i) (e:x.g=(su s i).g):dz (aR s i x) i:=by
 obtain ⟨a,b,c,d⟩:=h;refine ⟨a,by rw [NF];exact b,?_,?_⟩
 ·rw [NZ (by omega),e];exact c
 ·rw [NZ (by omega),e];exact d
theorem sR (s:ah) (g:Nat) (i:Int) (d:Bool):(Sx.serve s g i d).gs.length=s.gs.length:=by simp [Sx.serve,ai,aR]
theorem XH (s:ah) (g:Nat) (h:mX s g) (hk:(ag s g).kind=2∨(ag s g).kind=4) (hc:(common s g).2=false) (hm:aN s (ag s g).ch=true) (e0:(aa s g).place=8) :
  Pure prog 109 [.agg (az s),.c (nI g)] (.aZ [.agg (az (bu s g).1),.c (bI (bu s g).2)]):=by
 have hg:=h.co.lt;have hf:Few s:=h.fit.toAnd;have hb:=hf.1;have dF:=hf.2.1;have C0:=dA s g hg h.co.dh;have C1:=fN s g h.co;obtain ⟨k,ek,cD⟩:∃ k,(ag s g).kind=k∧(k=2∨k=4):=⟨_,rfl,hk⟩
 have KN:∀ c,((ag s g).kind != c)=(k != c):=fun c=>by rw [ek]
 have KE:∀ c,((ag s g).kind == c)=(k == c):=fun c=>by rw [ek]
 have br:¬ ((ag s g).kind≠2∧(ag s g).kind≠4):=by omega
 have cF:¬ (common s g).2=true:=by rw [hc];simp
 rw [hc] at C1;have CM:=fu s (ag s g).ch;have cB:¬ aN s (ag s g).ch=false:=by rw [hm];simp
 have hl:=eV hm;rw [hm] at CM;have aj:bu s g=bu s g:=rfl
 conv at aj=>rhs;unfold bu;simp only;rw [if_neg br,if_neg cF,if_neg cB]
 have P:∀ c,((aa s g).place == c)=((8:Int) == c):=fun c=>by rw [e0]
 refine ax.intro func109 rfl rfl rfl (fun ok e=>?_);rw [aB,aB,aB,aB,aB] at aj;rw [if_pos e0] at aj;have hi:=h.l8 e0;obtain ⟨gq,dR,dx,iw⟩:=id hi;have D1:=ue s (aa s g).hold gq dR (Nat.le_trans (h.fit.rv _) (by omega)) (Nat.le_trans (h.fit.sd _) (by omega)) dF;have k1:dz (bq s (aa s g).hold) (aa s g).hold:=hi.of (vJ _ _) (by rw [fX]);have f1:=h.fit.drop (aa s g).hold;have g1:g < (bq s (aa s g).hold).gs.length:=by rw [fX];exact hg
 have N0:gL s g (ag s g).v=Sx.serve (aR (bq s (aa s g).hold) (aa s g).hold { su (bq s (aa s g).hold) (aa s g).hold with v:=(ag s g).v }) g (aa s g).hold true:=rfl;rw [N0] at aj;rw [aj];clear aj N0;generalize bq s (aa s g).hold=s1 at *;have a1:=iu k1.1 k1.2.1;have D2:=w8 s1 (aa s g).hold { su s1 (aa s g).hold with v:=(ag s g).v } k1.1 k1.2.1 f1.1.2.2;have k2:dz (aR s1 (aa s g).hold { su s1 (aa s g).hold with v:=(ag s g).v }) (aa s g).hold:=k1.fW rfl;have f2:=f1.fW (aa s g).hold { su s1 (aa s g).hold with v:=(ag s g).v };have g2:g < (aR s1 (aa s g).hold { su s1 (aa s g).hold with v:=(ag s g).v }).gs.length:=g1;generalize aR s1 (aa s g).hold { su s1 (aa s g).hold with v:=(ag s g).v }=s2 at *;have D3:=Ap s2 g (aa s g).hold true g2 k2 f2;have g3:g < (Sx.serve s2 g (aa s g).hold true).gs.length:=by rw [sR];exact g2
 have b3:(Sx.serve s2 g (aa s g).hold true).gs.length≤100000:=by rw [sR];exact f2.1.1
 generalize Sx.serve s2 g (aa s g).hold true=s3 at *;have D4:=cP s3 g { aa s3 g with res:=jG,place:=16 } g3 b3;rcases cD with rfl | rfl
 all_goals
  repeat (first | refine aL (KN _) ?_ | refine aL (P _) ?_ | refine av ?_ | intro _)
  refine J.draw (by kernel_rfl) rfl ?_;refine JW.base (some 9) ?_;refine tk 0 ?_;refine tk 1 ?_;refine tk 2 ?_;refine tk 3 ?_;refine tk 5 ?_;refine tk 6 ?_;refine tk 7 ?_;refine cW 4 (D2) ?_;refine cW 8 (D3) ?_;refine jt 9 rfl rfl (Ld.aX rfl rfl rfl (by exact rfl) (by exact rfl)) (fun _=>?_);refine bS ?_
  repeat (first | refine kU (CX) ?_ | refine av ?_ | intro _)
  exact aA func109
theorem XI (s:ah) (g:Nat) (h:mX s g) (hk:(ag s g).kind=2∨(ag s g).kind=4) (hc:(common s g).2=false) (hm:aN s (ag s g).ch=true) (e0:¬ ((aa s g).place=1∨(aa s g).place=2∨(aa s g).place=5∨(aa s g).place=6∨(aa s g).place=7∨(aa s g).place=8∨(aa s g).place=9∨(aa s g).place=10∨(aa s g).place=11∨(aa s g).place=14)) :
  Pure prog 109 [.agg (az s),.c (nI g)] (.aZ [.agg (az (bu s g).1),.c (bI (bu s g).2)]):=by
 have hg:=h.co.lt;have hf:Few s:=h.fit.toAnd;have hb:=hf.1;have dF:=hf.2.1;have C0:=dA s g hg h.co.dh;have C1:=fN s g h.co;obtain ⟨k,ek,cD⟩:∃ k,(ag s g).kind=k∧(k=2∨k=4):=⟨_,rfl,hk⟩
 have KN:∀ c,((ag s g).kind != c)=(k != c):=fun c=>by rw [ek]
 have KE:∀ c,((ag s g).kind == c)=(k == c):=fun c=>by rw [ek]
 have br:¬ ((ag s g).kind≠2∧(ag s g).kind≠4):=by omega
 have cF:¬ (common s g).2=true:=by rw [hc];simp
 rw [hc] at C1;have CM:=fu s (ag s g).ch;have cB:¬ aN s (ag s g).ch=false:=by rw [hm];simp
 have hl:=eV hm;rw [hm] at CM;have aj:bu s g=bu s g:=rfl
 conv at aj=>rhs;unfold bu;simp only;rw [if_neg br,if_neg cF,if_neg cB]
 refine ax.intro func109 rfl rfl rfl (fun ok e=>?_);rw [aB,aB,aB,aB,aB,aB,aB,aB,aB,aB] at aj;have P1:((aa s g).place == 1)=false:=by simp;omega
 have P2:((aa s g).place == 2)=false:=by simp;omega
 have P5:((aa s g).place == 5)=false:=by simp;omega
 have P6:((aa s g).place == 6)=false:=by simp;omega
 have P7:((aa s g).place == 7)=false:=by simp;omega
 have P8:((aa s g).place == 8)=false:=by simp;omega
 have P9:((aa s g).place == 9)=false:=by simp;omega
 have XJ:((aa s g).place == 10)=false:=by simp;omega
 have XK:((aa s g).place == 11)=false:=by simp;omega
 have N1:((aa s g).place == 14)=false:=by simp;omega
 rw [aj];rcases cD with rfl | rfl
 all_goals
  repeat (first | refine aL (KN _) ?_ | refine av ?_ | intro _)
  exact aA func109
theorem N2 (s:ah) (g:Nat) (h:mX s g) :
  Pure prog 109 [.agg (az s),.c (nI g)] (.aZ [.agg (az (bu s g).1),.c (bI (bu s g).2)]):=by
 have hg:=h.co.lt;have C0:=dA s g hg h.co.dh;have C1:=fN s g h.co
 by_cases hk:(ag s g).kind=2∨(ag s g).kind=4
 case neg =>
  refine ax.intro func109 rfl rfl rfl (fun ok e=>?_);have K2:((ag s g).kind != 2)=true:=by simp;omega
  have K4:((ag s g).kind != 4)=true:=by simp;omega
  have er:bu s g=(s,false):=by unfold bu;simp only;rw [if_pos (by omega)]
  rw [er]
  repeat (first | refine av ?_ | intro _)
  exact aA func109
 case pos =>
 have br:¬ ((ag s g).kind≠2∧(ag s g).kind≠4):=by omega
 cases hc:(common s g).2 with
 | true =>
  obtain ⟨k,ek,cD⟩:∃ k,(ag s g).kind=k∧(k=2∨k=4):=⟨_,rfl,hk⟩
  have KN:∀ c,((ag s g).kind != c)=(k != c):=fun c=>by rw [ek]
  refine ax.intro func109 rfl rfl rfl (fun ok e=>?_);have er:bu s g=((common s g).1,true):=by unfold bu;simp only;rw [if_neg br,if_pos hc]
  rw [er];rw [hc] at C1;rcases cD with rfl | rfl
  all_goals
   repeat (first | refine aL (KN _) ?_ | refine av ?_ | intro _)
   exact aA func109
 | false =>
 cases hm:aN s (ag s g).ch with
 | false =>
  have CM:=fu s (ag s g).ch;have cF:¬ (common s g).2=true:=by rw [hc];simp
  obtain ⟨k,ek,cD⟩:∃ k,(ag s g).kind=k∧(k=2∨k=4):=⟨_,rfl,hk⟩
  have KN:∀ c,((ag s g).kind != c)=(k != c):=fun c=>by rw [ek]
  refine ax.intro func109 rfl rfl rfl (fun ok e=>?_);have er:bu s g=(s,false):=by unfold bu;simp only;rw [if_neg br,if_neg cF,if_pos hm]
  rw [er];rw [hc] at C1;rw [hm] at CM;rcases cD with rfl | rfl
  all_goals
   repeat (first | refine aL (KN _) ?_ | refine av ?_ | intro _)
   exact aA func109
 | true =>
  by_cases e1:(aa s g).place=1
  ·exact Xy s g h hk hc hm e1
  by_cases e2:(aa s g).place=2
  ·exact Xz s g h hk hc hm e2
  by_cases e5:(aa s g).place=5
  ·exact XA s g h hk hc hm e5
  by_cases e6:(aa s g).place=6
  ·exact XB s g h hk hc hm e6
  by_cases e7:(aa s g).place=7
  ·exact XC s g h hk hc hm e7
  by_cases e8:(aa s g).place=8
  ·exact XH s g h hk hc hm e8
  by_cases e9:(aa s g).place=9
  ·exact XD s g h hk hc hm e9
  by_cases nJ:(aa s g).place=10
  ·exact XE s g h hk hc hm nJ
  by_cases nK:(aa s g).place=11
  ·exact XF s g h hk hc hm nK
  by_cases jP:(aa s g).place=14
  ·exact XG s g h hk hc hm jP
  exact XI s g h hk hc hm (by omega)
end Fl
open Go.RowKit
namespace Fl
open Sx Go.Proofs.Tryz
set_option maxRecDepth 100000
theorem N3 (s:ah) (ch i:Int) (hm:aN s ch=true) (dF:s.au.length≤100000) (gq:0≤i) (dR:i < s.aC.length) (hl:(cn s ch).buf.length≤50000) :
  Pure prog 118 [.agg (az s),.c (nI ch),.c (nI i)] (.aZ [.agg (az (Sx.hand s ch i).1),.c (nI (Sx.hand s ch i).2)]):=by
 have gF:=eV hm;refine ax.intro func118 rfl rfl rfl (fun ok e=>?_)
 cases h1:((cn s ch).cap == 0) with
 | true =>
  have er:Sx.hand s ch i=(s,(su s i).v):=by unfold Sx.hand;simp only;rw [if_pos (by simpa using h1)]
  rw [er]
  repeat (first | refine av ?_ | intro _)
  refine J.draw (by kernel_rfl) rfl ?_;refine JW.yK none (.tmp 6) rfl ?_;refine tk 0 ?_;refine tk 1 ?_;refine tk 2 ?_;refine tk 3 ?_;refine JD.take 4 rfl rfl (by kernel_rfl) rfl (qb rfl) (Qt.bw rfl rfl gq (iu gq dR)) rfl ?_;refine tk 5 ?_;refine tk 6 ?_;refine JD.bJ (i:=7) (by kernel_rfl) ?_
  (refine JS.st rfl rfl rfl (Ld.aX rfl rfl rfl (by exact rfl) (by exact rfl)) (.m9 rfl) (fun _=>?_))
  refine tk 8 ?_;refine bt ?_
  repeat (fail)
  exact aA func118
 | false =>
  have er:Sx.hand s ch i=(aE s ch { cn s ch with buf:=(iy (cn s ch).buf (cn s ch).cap (su s i).v).1 },(iy (cn s ch).buf (cn s ch).cap (su s i).v).2.1):=by unfold Sx.hand;simp only;rw [if_neg (by simpa using h1)]
  have CP:=Xw (cn s ch).buf (cn s ch).cap (su s i).v hl
  cases h2:(iy (cn s ch).buf (cn s ch).cap (su s i).v).2.2 with
  | true =>
   rw [h2] at CP;rw [er]
   repeat (first | refine av ?_ | intro _)
   refine J.draw (by kernel_rfl) rfl ?_;refine JW.base none ?_;refine tk 0 ?_;refine tk 1 ?_;refine tk 2 ?_;refine tk 3 ?_;refine tk 4 ?_;refine tk 5 ?_;refine tk 6 ?_;refine JD.take 7 rfl rfl (by kernel_rfl) rfl (qb rfl) (Qt.bw rfl rfl gq (iu gq dR)) rfl ?_;refine tk 8 ?_;refine tk 9 ?_;refine cW 10 (CP) ?_;refine jk 11 rfl rfl rfl rfl (Qt.move rfl) ?_;refine JD.lV ?_;refine tk 12 ?_;refine tk 13 ?_;refine tk 14 ?_;refine jk 15 rfl rfl rfl rfl (Qt.assign rfl) ?_;refine jk 16 rfl rfl rfl rfl (Qt.assign rfl) ?_;refine jk 17 rfl rfl rfl rfl (Qt.assign rfl) ?_;refine bt ?_
   repeat (first | refine aO (nA s ch { cn s ch with buf:=(iy (cn s ch).buf (cn s ch).cap (su s i).v).1 } hm dF) ?_ | refine gn ?_)
   exact aA func118
  | false =>
   have e2:(iy (cn s ch).buf (cn s ch).cap (su s i).v).1=(cn s ch).buf:=by
    revert h2;unfold iy;split <;> simp
   have e3:({ cn s ch with buf:=(iy (cn s ch).buf (cn s ch).cap (su s i).v).1 }:Cn)=cn s ch:=by rw [e2]
   rw [e3] at er;rw [h2] at CP;rw [er]
   repeat (first | refine av ?_ | intro _)
   refine J.draw (by kernel_rfl) rfl ?_;refine JW.base none ?_;refine tk 0 ?_;refine tk 1 ?_;refine tk 2 ?_;refine tk 3 ?_;refine tk 4 ?_;refine tk 5 ?_;refine tk 6 ?_;refine JD.take 7 rfl rfl (by kernel_rfl) rfl (qb rfl) (Qt.bw rfl rfl gq (iu gq dR)) rfl ?_;refine tk 8 ?_;refine tk 9 ?_;refine cW 10 (CP) ?_;refine jk 11 rfl rfl rfl rfl (Qt.move rfl) ?_;refine JD.lV ?_;refine tk 12 ?_;refine tk 13 ?_;refine tk 14 ?_;refine jk 15 rfl rfl rfl rfl (Qt.assign rfl) ?_;refine jk 16 rfl rfl rfl rfl (Qt.assign rfl) ?_;refine jk 17 rfl rfl rfl rfl (Qt.assign rfl) ?_;refine bt ?_
   repeat (first | refine aO (nA s ch (cn s ch) hm dF) ?_ | refine gn ?_)
   exact aA func118
end Fl
end Go.Proofs.YtofnbflkhgammaaGreat
