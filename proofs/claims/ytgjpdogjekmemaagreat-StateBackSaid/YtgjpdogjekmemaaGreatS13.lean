/-
  What the laws need, part S13.
  Conditions: none.
-/
import Derived.Test.YtgjpdogjekmemaaGreatS12
set_option linter.unusedVariables false
set_option linter.unusedSimpArgs false
set_option linter.unnecessarySimpa false
set_option maxHeartbeats 2000000
namespace Go.Proofs.YtgjpdogjekmemaaGreat
open Go.RowKit
namespace Fl
open Sx Go.Proofs.Tryz
set_option maxRecDepth 100000
theorem Fi (s:ah) (c:Int) (x:Cn) (ch:Int):cn (aF s c x) ch=x∨cn (aF s c x) ch=cn s ch:=by
 unfold cn aF;simp only [List.getD_eq_getElem?_getD,List.getElem?_set]
 split
 ·split
  ·exact .inl rfl
  ·rename_i h1 h2;rw [← h1,List.getElem?_eq_none (by omega)];exact .inr rfl
 ·exact .inr rfl
theorem Fit.drop {s:ah} (h:Fit s) (i:Int):Fit (bE s i):=by
 have hf:Few s:=h.toAnd;have qT:Few (bE s i):=hf.of (by rw [fC]) (Au _ _) (by rw [qS]);have hg:∀ g,aa (bE s i) g=aa s g:=fun g=>pY (fC s i) g
 have hc:∀ ch,(cn (bE s i) ch).recv.length≤50000∧(cn (bE s i) ch).send.length≤50000∧(cn (bE s i) ch).buf.length≤50000:=fun ch=>by
  unfold bE
  split
  ·rcases Fi s (su s i).ch { cn s (su s i).ch with recv:=fU (cn s (su s i).ch).recv i,send:=fU (cn s (su s i).ch).send i } ch with e | e
   ·rw [e];exact ⟨Nat.le_trans (List.length_filter_le _ _) (h.rv _),Nat.le_trans (List.length_filter_le _ _) (h.sd _),h.bf _⟩
   ·rw [e];exact ⟨h.rv ch,h.sd ch,h.bf ch⟩
  ·exact ⟨h.rv ch,h.sd ch,h.bf ch⟩
 have e1:(bE s i).done=s.done:=by unfold bE;split <;> rfl
 have e2:(bE s i).cache=s.cache:=by unfold bE;split <;> rfl
 have e3:(bE s i).middle=s.middle:=by unfold bE;split <;> rfl
 exact ⟨qT,fun g=>by rw [hg];exact h.wk g,fun ch=>(hc ch).1,fun ch=>(hc ch).2.1,fun ch=>(hc ch).2.2,fun g=>by rw [hg];exact h.od g,fun g=>by rw [hg];exact h.sg g,by rw [e1];exact h.dn,by rw [e2];exact h.ca,fun g=>by rw [e2];exact h.cl g,by rw [e3];exact h.md⟩
theorem Fit.gZ {s:ah} (h:Fit s) (i:Int) (x:Su):Fit (bg s i x):=by
 have hf:Few s:=h.toAnd;have qT:Few (bg s i x):=hf.of rfl rfl (EU _ _ _);exact ⟨qT,h.wk,h.rv,h.sd,h.bf,h.od,h.sg,h.dn,h.ca,h.cl,h.md⟩
theorem Fj {s:ah} {i:Int} {x:Su} (hi:i.toNat < s.aD.length):su (bg s i x) i=x:=by
 unfold su bg;simp only [List.getD_eq_getElem?_getD,List.getElem?_set];rw [if_pos trivial,if_pos hi];rfl
theorem cV.gZ {s:ah} {i:Int} {x:Su} (h:cV s i) (e:x.g=(su s i).g):cV (bg s i x) i:=by
 obtain ⟨a,b,c,d⟩:=h;refine ⟨a,by rw [EU];exact b,?_,?_⟩
 ·rw [Fj (by omega),e];exact c
 ·rw [Fj (by omega),e];exact d
theorem oP (s:ah) (g:Nat) (i:Int) (d:Bool):(Sx.serve s g i d).gs.length=s.gs.length:=by simp [Sx.serve,ai,bg]
theorem Nr (s:ah) (g:Nat) (h:kU s g) (hk:(ag s g).kind=2∨(ag s g).kind=4) (hc:(common s g).2=false) (hm:aM s (ag s g).ch=true) (e0:(aa s g).place=8) :
  Pure prog 84 [.agg (az s),.c (nI g)] (.aY [.agg (az (bJ s g).1),.c (bI (bJ s g).2)]):=by
 have hg:=h.co.lt;have hf:Few s:=h.fit.toAnd;have hb:=hf.1;have cW:=hf.2.1;have C0:=cU s g hg h.co.cL;have C1:=ep s g h.co;obtain ⟨k,ek,bZ⟩:∃ k,(ag s g).kind=k∧(k=2∨k=4):=⟨_,rfl,hk⟩
 have KN:∀ c,((ag s g).kind != c)=(k != c):=fun c=>by rw [ek]
 have KE:∀ c,((ag s g).kind == c)=(k == c):=fun c=>by rw [ek]
 have aV:¬ ((ag s g).kind≠2∧(ag s g).kind≠4):=by omega
 have bX:¬ (common s g).2=true:=by rw [hc];simp
 rw [hc] at C1;have CM:=dU s (ag s g).ch;have cu:¬ aM s (ag s g).ch=false:=by rw [hm];simp
 have hl:=dM hm;rw [hm] at CM;have aj:bJ s g=bJ s g:=rfl
 conv at aj=>rhs;unfold bJ;simp only;rw [if_neg aV,if_neg bX,if_neg cu]
 have P:∀ c,((aa s g).place == c)=((8:Int) == c):=fun c=>by rw [e0]
 refine aq.intro func84 rfl rfl rfl (fun ok e=>?_);rw [ay,ay,ay,ay,ay] at aj;rw [if_pos e0] at aj;have hi:=h.l8 e0;obtain ⟨eP,dz,de,gN⟩:=id hi;have D1:=pW s (aa s g).hold eP dz (Nat.le_trans (h.fit.rv _) (by omega)) (Nat.le_trans (h.fit.sd _) (by omega)) cW;have k1:cV (bE s (aa s g).hold) (aa s g).hold:=hi.of (qS _ _) (by rw [fC]);have f1:=h.fit.drop (aa s g).hold;have g1:g < (bE s (aa s g).hold).gs.length:=by rw [fC];exact hg
 have Fk:kI s g (ag s g).v=Sx.serve (bg (bE s (aa s g).hold) (aa s g).hold { su (bE s (aa s g).hold) (aa s g).hold with v:=(ag s g).v }) g (aa s g).hold true:=rfl;rw [Fk] at aj;rw [aj];clear aj Fk;generalize bE s (aa s g).hold=s1 at *;have a1:=fZ k1.1 k1.2.1;have D2:=sH s1 (aa s g).hold { su s1 (aa s g).hold with v:=(ag s g).v } k1.1 k1.2.1 f1.1.2.2;have k2:cV (bg s1 (aa s g).hold { su s1 (aa s g).hold with v:=(ag s g).v }) (aa s g).hold:=k1.gZ rfl;have f2:=f1.gZ (aa s g).hold { su s1 (aa s g).hold with v:=(ag s g).v };have g2:g < (bg s1 (aa s g).hold { su s1 (aa s g).hold with v:=(ag s g).v }).gs.length:=g1;generalize bg s1 (aa s g).hold { su s1 (aa s g).hold with v:=(ag s g).v }=s2 at *;have D3:=vi s2 g (aa s g).hold true g2 k2 f2;have g3:g < (Sx.serve s2 g (aa s g).hold true).gs.length:=by rw [oP];exact g2
 have b3:(Sx.serve s2 g (aa s g).hold true).gs.length≤100000:=by rw [oP];exact f2.1.1
 generalize Sx.serve s2 g (aa s g).hold true=s3 at *;have D4:=cA s3 g { aa s3 g with res:=me,place:=16 } g3 b3;rcases bZ with rfl | rfl
 all_goals
  repeat (first | refine aJ (KN _) ?_ | refine aJ (P _) ?_ | refine av ?_ | intro _)
  refine J.draw (by kernel_rfl) rfl ?_;refine JW.base (some 9) ?_;refine tk 0 ?_;refine tk 1 ?_;refine tk 2 ?_;refine tk 3 ?_;refine tk 5 ?_;refine tk 6 ?_;refine tk 7 ?_;refine cI 4 (D2) ?_;refine cI 8 (D3) ?_;refine jt 9 rfl rfl (Ld.aT rfl rfl rfl (by exact rfl) (by exact rfl)) (fun _=>?_);refine bz ?_
  repeat (first | refine lp (xl) ?_ | refine av ?_ | intro _)
  exact aA func84
theorem Ns (s:ah) (g:Nat) (h:kU s g) (hk:(ag s g).kind=2∨(ag s g).kind=4) (hc:(common s g).2=false) (hm:aM s (ag s g).ch=true) (e0:¬ ((aa s g).place=1∨(aa s g).place=2∨(aa s g).place=5∨(aa s g).place=6∨(aa s g).place=7∨(aa s g).place=8∨(aa s g).place=9∨(aa s g).place=10∨(aa s g).place=11∨(aa s g).place=14)) :
  Pure prog 84 [.agg (az s),.c (nI g)] (.aY [.agg (az (bJ s g).1),.c (bI (bJ s g).2)]):=by
 have hg:=h.co.lt;have hf:Few s:=h.fit.toAnd;have hb:=hf.1;have cW:=hf.2.1;have C0:=cU s g hg h.co.cL;have C1:=ep s g h.co;obtain ⟨k,ek,bZ⟩:∃ k,(ag s g).kind=k∧(k=2∨k=4):=⟨_,rfl,hk⟩
 have KN:∀ c,((ag s g).kind != c)=(k != c):=fun c=>by rw [ek]
 have KE:∀ c,((ag s g).kind == c)=(k == c):=fun c=>by rw [ek]
 have aV:¬ ((ag s g).kind≠2∧(ag s g).kind≠4):=by omega
 have bX:¬ (common s g).2=true:=by rw [hc];simp
 rw [hc] at C1;have CM:=dU s (ag s g).ch;have cu:¬ aM s (ag s g).ch=false:=by rw [hm];simp
 have hl:=dM hm;rw [hm] at CM;have aj:bJ s g=bJ s g:=rfl
 conv at aj=>rhs;unfold bJ;simp only;rw [if_neg aV,if_neg bX,if_neg cu]
 refine aq.intro func84 rfl rfl rfl (fun ok e=>?_);rw [ay,ay,ay,ay,ay,ay,ay,ay,ay,ay] at aj;have P1:((aa s g).place == 1)=false:=by simp;omega
 have P2:((aa s g).place == 2)=false:=by simp;omega
 have P5:((aa s g).place == 5)=false:=by simp;omega
 have P6:((aa s g).place == 6)=false:=by simp;omega
 have P7:((aa s g).place == 7)=false:=by simp;omega
 have P8:((aa s g).place == 8)=false:=by simp;omega
 have P9:((aa s g).place == 9)=false:=by simp;omega
 have Nt:((aa s g).place == 10)=false:=by simp;omega
 have Nu:((aa s g).place == 11)=false:=by simp;omega
 have Fo:((aa s g).place == 14)=false:=by simp;omega
 rw [aj];rcases bZ with rfl | rfl
 all_goals
  repeat (first | refine aJ (KN _) ?_ | refine av ?_ | intro _)
  exact aA func84
theorem Nv (s:ah) (g:Nat) (h:kU s g) :
  Pure prog 84 [.agg (az s),.c (nI g)] (.aY [.agg (az (bJ s g).1),.c (bI (bJ s g).2)]):=by
 have hg:=h.co.lt;have C0:=cU s g hg h.co.cL;have C1:=ep s g h.co
 by_cases hk:(ag s g).kind=2∨(ag s g).kind=4
 case neg =>
  refine aq.intro func84 rfl rfl rfl (fun ok e=>?_);have K2:((ag s g).kind != 2)=true:=by simp;omega
  have K4:((ag s g).kind != 4)=true:=by simp;omega
  have er:bJ s g=(s,false):=by unfold bJ;simp only;rw [if_pos (by omega)]
  rw [er]
  repeat (first | refine av ?_ | intro _)
  exact aA func84
 case pos =>
 have aV:¬ ((ag s g).kind≠2∧(ag s g).kind≠4):=by omega
 cases hc:(common s g).2 with
 | true =>
  obtain ⟨k,ek,bZ⟩:∃ k,(ag s g).kind=k∧(k=2∨k=4):=⟨_,rfl,hk⟩
  have KN:∀ c,((ag s g).kind != c)=(k != c):=fun c=>by rw [ek]
  refine aq.intro func84 rfl rfl rfl (fun ok e=>?_);have er:bJ s g=((common s g).1,true):=by unfold bJ;simp only;rw [if_neg aV,if_pos hc]
  rw [er];rw [hc] at C1;rcases bZ with rfl | rfl
  all_goals
   repeat (first | refine aJ (KN _) ?_ | refine av ?_ | intro _)
   exact aA func84
 | false =>
 cases hm:aM s (ag s g).ch with
 | false =>
  have CM:=dU s (ag s g).ch;have bX:¬ (common s g).2=true:=by rw [hc];simp
  obtain ⟨k,ek,bZ⟩:∃ k,(ag s g).kind=k∧(k=2∨k=4):=⟨_,rfl,hk⟩
  have KN:∀ c,((ag s g).kind != c)=(k != c):=fun c=>by rw [ek]
  refine aq.intro func84 rfl rfl rfl (fun ok e=>?_);have er:bJ s g=(s,false):=by unfold bJ;simp only;rw [if_neg aV,if_neg bX,if_pos hm]
  rw [er];rw [hc] at C1;rw [hm] at CM;rcases bZ with rfl | rfl
  all_goals
   repeat (first | refine aJ (KN _) ?_ | refine av ?_ | intro _)
   exact aA func84
 | true =>
  by_cases e1:(aa s g).place=1
  ·exact Ni s g h hk hc hm e1
  by_cases e2:(aa s g).place=2
  ·exact Nj s g h hk hc hm e2
  by_cases e5:(aa s g).place=5
  ·exact Nk s g h hk hc hm e5
  by_cases e6:(aa s g).place=6
  ·exact Nl s g h hk hc hm e6
  by_cases e7:(aa s g).place=7
  ·exact Nm s g h hk hc hm e7
  by_cases e8:(aa s g).place=8
  ·exact Nr s g h hk hc hm e8
  by_cases e9:(aa s g).place=9
  ·exact Nn s g h hk hc hm e9
  by_cases kS:(aa s g).place=10
  ·exact No s g h hk hc hm kS
  by_cases jU:(aa s g).place=11
  ·exact Np s g h hk hc hm jU
  by_cases iC:(aa s g).place=14
  ·exact Nq s g h hk hc hm iC
  exact Ns s g h hk hc hm (by omega)
end Fl
open Go.RowKit
namespace Fl
open Sx Go.Proofs.Tryz
set_option maxRecDepth 100000
theorem Fp (s:ah) (ch i:Int) (hm:aM s ch=true) (cW:s.ax.length≤100000) (eP:0≤i) (dz:i < s.aD.length) (hl:(cn s ch).buf.length≤50000) :
  Pure prog 119 [.agg (az s),.c (nI ch),.c (nI i)] (.aY [.agg (az (Sx.hand s ch i).1),.c (nI (Sx.hand s ch i).2)]):=by
 have yU:=dM hm;refine aq.intro func119 rfl rfl rfl (fun ok e=>?_)
 cases h1:((cn s ch).cap == 0) with
 | true =>
  have er:Sx.hand s ch i=(s,(su s i).v):=by unfold Sx.hand;simp only;rw [if_pos (by simpa using h1)]
  rw [er]
  repeat (first | refine av ?_ | intro _)
  refine J.draw (by kernel_rfl) rfl ?_;refine JW.tU none (.tmp 6) rfl ?_;refine tk 0 ?_;refine tk 1 ?_;refine tk 2 ?_;refine tk 3 ?_;refine JD.take 4 rfl rfl (by kernel_rfl) rfl (qb rfl) (Qt.cE rfl rfl eP (fZ eP dz)) rfl ?_;refine tk 5 ?_;refine tk 6 ?_;refine JD.fR (i:=7) (by kernel_rfl) ?_
  (refine JS.st rfl rfl rfl (Ld.aT rfl rfl rfl (by exact rfl) (by exact rfl)) (.ig rfl) (fun _=>?_))
  refine tk 8 ?_;refine bP ?_
  repeat (fail)
  exact aA func119
 | false =>
  have er:Sx.hand s ch i=(aF s ch { cn s ch with buf:=(fM (cn s ch).buf (cn s ch).cap (su s i).v).1 },(fM (cn s ch).buf (cn s ch).cap (su s i).v).2.1):=by unfold Sx.hand;simp only;rw [if_neg (by simpa using h1)]
  have CP:=Ng (cn s ch).buf (cn s ch).cap (su s i).v hl
  cases h2:(fM (cn s ch).buf (cn s ch).cap (su s i).v).2.2 with
  | true =>
   rw [h2] at CP;rw [er]
   repeat (first | refine av ?_ | intro _)
   refine J.draw (by kernel_rfl) rfl ?_;refine JW.base none ?_;refine tk 0 ?_;refine tk 1 ?_;refine tk 2 ?_;refine tk 3 ?_;refine tk 4 ?_;refine tk 5 ?_;refine tk 6 ?_;refine JD.take 7 rfl rfl (by kernel_rfl) rfl (qb rfl) (Qt.cE rfl rfl eP (fZ eP dz)) rfl ?_;refine tk 8 ?_;refine tk 9 ?_;refine cI 10 (CP) ?_;refine jk 11 rfl rfl rfl rfl (Qt.move rfl) ?_;refine JD.jN ?_;refine tk 12 ?_;refine tk 13 ?_;refine tk 14 ?_;refine jk 15 rfl rfl rfl rfl (Qt.assign rfl) ?_;refine jk 16 rfl rfl rfl rfl (Qt.assign rfl) ?_;refine jk 17 rfl rfl rfl rfl (Qt.assign rfl) ?_;refine bP ?_
   repeat (first | refine aI (kT s ch { cn s ch with buf:=(fM (cn s ch).buf (cn s ch).cap (su s i).v).1 } hm cW) ?_ | refine gn ?_)
   exact aA func119
  | false =>
   have e2:(fM (cn s ch).buf (cn s ch).cap (su s i).v).1=(cn s ch).buf:=by
    revert h2;unfold fM;split <;> simp
   have e3:({ cn s ch with buf:=(fM (cn s ch).buf (cn s ch).cap (su s i).v).1 }:Cn)=cn s ch:=by rw [e2]
   rw [e3] at er;rw [h2] at CP;rw [er]
   repeat (first | refine av ?_ | intro _)
   refine J.draw (by kernel_rfl) rfl ?_;refine JW.base none ?_;refine tk 0 ?_;refine tk 1 ?_;refine tk 2 ?_;refine tk 3 ?_;refine tk 4 ?_;refine tk 5 ?_;refine tk 6 ?_;refine JD.take 7 rfl rfl (by kernel_rfl) rfl (qb rfl) (Qt.cE rfl rfl eP (fZ eP dz)) rfl ?_;refine tk 8 ?_;refine tk 9 ?_;refine cI 10 (CP) ?_;refine jk 11 rfl rfl rfl rfl (Qt.move rfl) ?_;refine JD.jN ?_;refine tk 12 ?_;refine tk 13 ?_;refine tk 14 ?_;refine jk 15 rfl rfl rfl rfl (Qt.assign rfl) ?_;refine jk 16 rfl rfl rfl rfl (Qt.assign rfl) ?_;refine jk 17 rfl rfl rfl rfl (Qt.assign rfl) ?_;refine bP ?_
   repeat (first | refine aI (kT s ch (cn s ch) hm cW) ?_ | refine gn ?_)
   exact aA func119
end Fl
open Go.RowKit
namespace Fl
open Sx Go.Proofs.Tryz
set_option maxRecDepth 100000
structure kq (s:ah) (g:Nat):Prop where
 co:sJ s g
 fit:Fit s
 l6:(aa s g).place=6→∀ i l,(cn s (ag s g).ch).send=i :: l→cV s i
 l7:(aa s g).place=7→cV s (aa s g).hold
 l8:(aa s g).place=8→cV s (aa s g).hold
 Ax:(aa s g).place=10→lQ s∧g < s.cache.length∧((bw s g).2.2=true→0≤(bw s g).2.1∧(bw s g).2.1 < s.aD.length)
 vq:(aa s g).place=14→0≤(aa s g).param∧(aa s g).param < s.aD.length
theorem Nw (s:ah) (g:Nat) (h:kq s g) (hk:(ag s g).kind=3∨(ag s g).kind=5) (hc:(common s g).2=false) (hm:aM s (ag s g).ch=true) (e0:(aa s g).place=1) :
  Pure prog 85 [.agg (az s),.c (nI g)] (.aY [.agg (az (bF s g).1),.c (bI (bF s g).2)]):=by
 have hg:=h.co.lt;have hf:Few s:=h.fit.toAnd;have hb:=hf.1;have cW:=hf.2.1;have C0:=cU s g hg h.co.cL;have C1:=ep s g h.co;obtain ⟨k,ek,bZ⟩:∃ k,(ag s g).kind=k∧(k=3∨k=5):=⟨_,rfl,hk⟩
 have KN:∀ c,((ag s g).kind != c)=(k != c):=fun c=>by rw [ek]
 have KE:∀ c,((ag s g).kind == c)=(k == c):=fun c=>by rw [ek]
 have aV:¬ ((ag s g).kind≠3∧(ag s g).kind≠5):=by omega
 have bX:¬ (common s g).2=true:=by rw [hc];simp
 rw [hc] at C1;have CM:=dU s (ag s g).ch;have cu:¬ aM s (ag s g).ch=false:=by rw [hm];simp
 have hl:=dM hm;rw [hm] at CM;have aj:bF s g=bF s g:=rfl
 conv at aj=>rhs;unfold bF;simp only;rw [if_neg aV,if_neg bX,if_neg cu]
 have P:∀ c,((aa s g).place == c)=((1:Int) == c):=fun c=>by rw [e0]
 refine aq.intro func85 rfl rfl rfl (fun ok e=>?_);rw [if_pos e0] at aj;have CR:=ER (cn s (ag s g).ch)
 cases hr:qt (cn s (ag s g).ch) with
 | true =>
  rw [if_pos hr] at aj;rw [hr] at CR;rw [aj];rcases bZ with rfl | rfl
  all_goals
   repeat (first | refine aJ (KN _) ?_ | refine aJ (P _) ?_ | refine aI (ei s g 4 hg hb) ?_ | refine av ?_ | intro _)
   exact aA func85
 | false =>
  rw [if_neg (by rw [hr];simp)] at aj;rw [hr] at CR;rw [aj];rcases bZ with rfl | rfl
  all_goals
   repeat (first | refine aJ (KN _) ?_ | refine aJ (P _) ?_ | refine aI (hJ s g (aa s g).res 2 hg hb) ?_ | refine av ?_ | intro _)
   exact aA func85
theorem Nx (s:ah) (g:Nat) (h:kq s g) (hk:(ag s g).kind=3∨(ag s g).kind=5) (hc:(common s g).2=false) (hm:aM s (ag s g).ch=true) (e0:(aa s g).place=2) :
  Pure prog 85 [.agg (az s),.c (nI g)] (.aY [.agg (az (bF s g).1),.c (bI (bF s g).2)]):=by
 have hg:=h.co.lt;have hf:Few s:=h.fit.toAnd;have hb:=hf.1;have cW:=hf.2.1;have C0:=cU s g hg h.co.cL;have C1:=ep s g h.co;obtain ⟨k,ek,bZ⟩:∃ k,(ag s g).kind=k∧(k=3∨k=5):=⟨_,rfl,hk⟩
 have KN:∀ c,((ag s g).kind != c)=(k != c):=fun c=>by rw [ek]
 have KE:∀ c,((ag s g).kind == c)=(k == c):=fun c=>by rw [ek]
 have aV:¬ ((ag s g).kind≠3∧(ag s g).kind≠5):=by omega
 have bX:¬ (common s g).2=true:=by rw [hc];simp
 rw [hc] at C1;have CM:=dU s (ag s g).ch;have cu:¬ aM s (ag s g).ch=false:=by rw [hm];simp
 have hl:=dM hm;rw [hm] at CM;have aj:bF s g=bF s g:=rfl
 conv at aj=>rhs;unfold bF;simp only;rw [if_neg aV,if_neg bX,if_neg cu]
 have P:∀ c,((aa s g).place == c)=((2:Int) == c):=fun c=>by rw [e0]
 refine aq.intro func85 rfl rfl rfl (fun ok e=>?_);rw [ay] at aj;rw [if_pos e0] at aj
 cases bU:(cn s (ag s g).ch).closed with
 | true =>
  rw [if_pos bU] at aj;rw [aj];rcases bZ with rfl | rfl
  all_goals
   repeat (first | refine J.fI (congrArg (fun b=>some (D.c (bI b))) bU) ?_ | refine aJ (KN _) ?_ | refine aJ (P _) ?_ | refine aI (ei s g 3 hg hb) ?_ | refine av ?_ | intro _)
   exact aA func85
 | false =>
  rw [if_neg (by rw [bU];simp)] at aj;rw [aj];rcases bZ with rfl | rfl
  all_goals
   repeat (first | refine J.eW (congrArg (fun b=>some (D.c (bI b))) bU) ?_ | refine aJ (KN _) ?_ | refine aJ (P _) ?_ | refine aI (cA s g { aa s g with res:={ (aa s g).res with code:=2 },place:=18 } hg hb) ?_ | refine av ?_ | intro _)
   exact aA func85
theorem Ny (s:ah) (g:Nat) (h:kq s g) (hk:(ag s g).kind=3∨(ag s g).kind=5) (hc:(common s g).2=false) (hm:aM s (ag s g).ch=true) (e0:(aa s g).place=3) :
  Pure prog 85 [.agg (az s),.c (nI g)] (.aY [.agg (az (bF s g).1),.c (bI (bF s g).2)]):=by
 have hg:=h.co.lt;have hf:Few s:=h.fit.toAnd;have hb:=hf.1;have cW:=hf.2.1;have C0:=cU s g hg h.co.cL;have C1:=ep s g h.co;obtain ⟨k,ek,bZ⟩:∃ k,(ag s g).kind=k∧(k=3∨k=5):=⟨_,rfl,hk⟩
 have KN:∀ c,((ag s g).kind != c)=(k != c):=fun c=>by rw [ek]
 have KE:∀ c,((ag s g).kind == c)=(k == c):=fun c=>by rw [ek]
 have aV:¬ ((ag s g).kind≠3∧(ag s g).kind≠5):=by omega
 have bX:¬ (common s g).2=true:=by rw [hc];simp
 rw [hc] at C1;have CM:=dU s (ag s g).ch;have cu:¬ aM s (ag s g).ch=false:=by rw [hm];simp
 have hl:=dM hm;rw [hm] at CM;have aj:bF s g=bF s g:=rfl
 conv at aj=>rhs;unfold bF;simp only;rw [if_neg aV,if_neg bX,if_neg cu]
 have P:∀ c,((aa s g).place == c)=((3:Int) == c):=fun c=>by rw [e0]
 refine aq.intro func85 rfl rfl rfl (fun ok e=>?_);rw [ay,ay] at aj;rw [if_pos e0] at aj;have CR:=ER (cn s (ag s g).ch)
 cases hr:qt (cn s (ag s g).ch) with
 | true =>
  rw [if_pos hr] at aj;rw [hr] at CR;rw [aj];rcases bZ with rfl | rfl
  all_goals
   repeat (first | refine aJ (KN _) ?_ | refine aJ (P _) ?_ | refine aI (cA s g { aa s g with cz:=0,place:=4 } hg hb) ?_ | refine av ?_ | intro _)
   exact aA func85
 | false =>
  rw [if_neg (by rw [hr];simp)] at aj;rw [hr] at CR;rw [aj];rcases bZ with rfl | rfl
  all_goals
   repeat (first | refine aJ (KN _) ?_ | refine aJ (P _) ?_ | refine av ?_ | intro _)
   refine J.draw (by kernel_rfl) rfl ?_;refine JW.base (some 4) ?_;refine tk 0 ?_;refine tk 1 ?_;refine cI 2 (jE 0 false) ?_;refine cI 3 (hJ s g (dI 0 false) 18 hg hb) ?_;refine jt 4 rfl rfl (Ld.aT rfl rfl rfl (by exact rfl) (by exact rfl)) (fun _=>?_);refine JW.base none ?_;refine jk 5 rfl rfl rfl rfl (Qt.assign rfl) ?_;refine bP ?_
   repeat (fail)
   exact aA func85
theorem Nz (s:ah) (g:Nat) (h:kq s g) (hk:(ag s g).kind=3∨(ag s g).kind=5) (hc:(common s g).2=false) (hm:aM s (ag s g).ch=true) (e0:(aa s g).place=6) :
  Pure prog 85 [.agg (az s),.c (nI g)] (.aY [.agg (az (bF s g).1),.c (bI (bF s g).2)]):=by
 have hg:=h.co.lt;have hf:Few s:=h.fit.toAnd;have hb:=hf.1;have cW:=hf.2.1;have C0:=cU s g hg h.co.cL;have C1:=ep s g h.co;obtain ⟨k,ek,bZ⟩:∃ k,(ag s g).kind=k∧(k=3∨k=5):=⟨_,rfl,hk⟩
 have KN:∀ c,((ag s g).kind != c)=(k != c):=fun c=>by rw [ek]
 have KE:∀ c,((ag s g).kind == c)=(k == c):=fun c=>by rw [ek]
 have aV:¬ ((ag s g).kind≠3∧(ag s g).kind≠5):=by omega
 have bX:¬ (common s g).2=true:=by rw [hc];simp
 rw [hc] at C1;have CM:=dU s (ag s g).ch;have cu:¬ aM s (ag s g).ch=false:=by rw [hm];simp
 have hl:=dM hm;rw [hm] at CM;have aj:bF s g=bF s g:=rfl
 conv at aj=>rhs;unfold bF;simp only;rw [if_neg aV,if_neg bX,if_neg cu]
 have P:∀ c,((aa s g).place == c)=((6:Int) == c):=fun c=>by rw [e0]
 refine aq.intro func85 rfl rfl rfl (fun ok e=>?_);rw [ay,ay,ay,ay] at aj;rw [if_pos e0] at aj
 cases iP:(cn s (ag s g).ch).send with
 | nil =>
  have hz:(((cn s (ag s g).ch).send.length:Int) == 0)=true:=by rw [iP];rfl
  rw [if_pos (by rw [iP];rfl)] at aj;rw [aj];rcases bZ with rfl | rfl
  all_goals
   repeat (first | refine aJ (KN _) ?_ | refine aJ (P _) ?_ | refine aI (ei s g 9 hg hb) ?_ | refine av ?_ | intro _)
   exact aA func85
 | cons a l =>
  have hz:(((cn s (ag s g).ch).send.length:Int) == 0)=false:=by rw [iP];simp;omega
  have w0:((cn s (ag s g).ch).send.map fun n=>[nI n])[(0:Int).toNat]?=some [nI a]:=by rw [iP];rfl
  rw [if_neg (by rw [iP];simp),iP] at aj;rw [aj];rcases bZ with rfl | rfl
  all_goals
   repeat (first | refine aJ (KN _) ?_ | refine aJ (P _) ?_ | refine av ?_ | intro _)
   refine J.draw (by kernel_rfl) rfl ?_;refine JW.base (some 7) ?_;refine tk 0 ?_;refine tk 1 ?_;refine tk 2 ?_;refine tk 3 ?_;refine JD.take 4 rfl rfl (by kernel_rfl) rfl (qb rfl) (Qt.cE rfl rfl (by omega) w0) rfl ?_;refine tk 5 ?_;refine cI 6 (xq s g a 7 8 hg (h.l6 e0 a l iP) h.fit) ?_;refine jt 7 rfl rfl (Ld.aT rfl rfl rfl (by exact rfl) (by exact rfl)) (fun _=>?_);refine JW.base none ?_;refine jk 8 rfl rfl rfl rfl (Qt.assign rfl) ?_;refine bP ?_
   repeat (fail)
   exact aA func85
theorem NA (s:ah) (g:Nat) (h:kq s g) (hk:(ag s g).kind=3∨(ag s g).kind=5) (hc:(common s g).2=false) (hm:aM s (ag s g).ch=true) (e0:(aa s g).place=7) :
  Pure prog 85 [.agg (az s),.c (nI g)] (.aY [.agg (az (bF s g).1),.c (bI (bF s g).2)]):=by
 have hg:=h.co.lt;have hf:Few s:=h.fit.toAnd;have hb:=hf.1;have cW:=hf.2.1;have C0:=cU s g hg h.co.cL;have C1:=ep s g h.co;obtain ⟨k,ek,bZ⟩:∃ k,(ag s g).kind=k∧(k=3∨k=5):=⟨_,rfl,hk⟩
 have KN:∀ c,((ag s g).kind != c)=(k != c):=fun c=>by rw [ek]
 have KE:∀ c,((ag s g).kind == c)=(k == c):=fun c=>by rw [ek]
 have aV:¬ ((ag s g).kind≠3∧(ag s g).kind≠5):=by omega
 have bX:¬ (common s g).2=true:=by rw [hc];simp
 rw [hc] at C1;have CM:=dU s (ag s g).ch;have cu:¬ aM s (ag s g).ch=false:=by rw [hm];simp
 have hl:=dM hm;rw [hm] at CM;have aj:bF s g=bF s g:=rfl
 conv at aj=>rhs;unfold bF;simp only;rw [if_neg aV,if_neg bX,if_neg cu]
 have P:∀ c,((aa s g).place == c)=((7:Int) == c):=fun c=>by rw [e0]
 refine aq.intro func85 rfl rfl rfl (fun ok e=>?_);rw [ay,ay,ay,ay,ay] at aj;rw [if_pos e0] at aj;rw [aj];rcases bZ with rfl | rfl
 all_goals
  repeat (first | refine aJ (KN _) ?_ | refine aJ (P _) ?_ | refine aI (Av s g 6 8 hg (h.l7 e0) h.fit) ?_ | refine av ?_ | intro _)
  exact aA func85
theorem NB (s:ah) (g:Nat) (h:kq s g) (hk:(ag s g).kind=3∨(ag s g).kind=5) (hc:(common s g).2=false) (hm:aM s (ag s g).ch=true) (e0:(aa s g).place=9) :
  Pure prog 85 [.agg (az s),.c (nI g)] (.aY [.agg (az (bF s g).1),.c (bI (bF s g).2)]):=by
 have hg:=h.co.lt;have hf:Few s:=h.fit.toAnd;have hb:=hf.1;have cW:=hf.2.1;have C0:=cU s g hg h.co.cL;have C1:=ep s g h.co;obtain ⟨k,ek,bZ⟩:∃ k,(ag s g).kind=k∧(k=3∨k=5):=⟨_,rfl,hk⟩
 have KN:∀ c,((ag s g).kind != c)=(k != c):=fun c=>by rw [ek]
 have KE:∀ c,((ag s g).kind == c)=(k == c):=fun c=>by rw [ek]
 have aV:¬ ((ag s g).kind≠3∧(ag s g).kind≠5):=by omega
 have bX:¬ (common s g).2=true:=by rw [hc];simp
 rw [hc] at C1;have CM:=dU s (ag s g).ch;have cu:¬ aM s (ag s g).ch=false:=by rw [hm];simp
 have hl:=dM hm;rw [hm] at CM;have aj:bF s g=bF s g:=rfl
 conv at aj=>rhs;unfold bF;simp only;rw [if_neg aV,if_neg bX,if_neg cu]
 have P:∀ c,((aa s g).place == c)=((9:Int) == c):=fun c=>by rw [e0]
 refine aq.intro func85 rfl rfl rfl (fun ok e=>?_);rw [ay,ay,ay,ay,ay,ay,ay] at aj;rw [if_pos e0] at aj;have CP:=Fg (cn s (ag s g).ch).buf (h.fit.bf _)
 cases hr:(fE (cn s (ag s g).ch).buf).2.2 with
 | true =>
  rw [if_pos hr] at aj;rw [hr] at CP;rw [aj];rcases bZ with rfl | rfl
  all_goals
   repeat (first | refine aJ (KN _) ?_ | refine aJ (P _) ?_ | refine aI (kT s (ag s g).ch { (cn s (ag s g).ch) with buf:=(fE (cn s (ag s g).ch).buf).1 } hm cW) ?_ | refine aI (jE (fE (cn s (ag s g).ch).buf).2.1 true) ?_ | refine aI (hJ (aF s (ag s g).ch { (cn s (ag s g).ch) with buf:=(fE (cn s (ag s g).ch).buf).1 }) g (dI (fE (cn s (ag s g).ch).buf).2.1 true) 16 hg hb) ?_ | refine av ?_ | intro _)
   exact aA func85
 | false =>
  rw [if_neg (by rw [hr];simp)] at aj;rw [hr] at CP;rcases bZ with rfl | rfl
  ·rw [ay] at aj;rw [aj]
   repeat (first | refine aJ (KN _) ?_ | refine aJ (P _) ?_ | refine aJ (KE _) ?_ | refine aI (ei s g 10 hg hb) ?_ | refine av ?_ | intro _)
   exact aA func85
  ·rw [if_pos ek] at aj;rw [aj]
   repeat (first | refine aJ (KN _) ?_ | refine aJ (P _) ?_ | refine aJ (KE _) ?_ | refine aI (hJ s g (Sx.res 2) 16 hg hb) ?_ | refine av ?_ | intro _)
   exact aA func85
theorem NC (s:ah) (g:Nat) (h:kq s g) (hk:(ag s g).kind=3∨(ag s g).kind=5) (hc:(common s g).2=false) (hm:aM s (ag s g).ch=true) (e0:(aa s g).place=10) :
  Pure prog 85 [.agg (az s),.c (nI g)] (.aY [.agg (az (bF s g).1),.c (bI (bF s g).2)]):=by
 have hg:=h.co.lt;have hf:Few s:=h.fit.toAnd;have hb:=hf.1;have cW:=hf.2.1;have C0:=cU s g hg h.co.cL;have C1:=ep s g h.co;obtain ⟨k,ek,bZ⟩:∃ k,(ag s g).kind=k∧(k=3∨k=5):=⟨_,rfl,hk⟩
 have KN:∀ c,((ag s g).kind != c)=(k != c):=fun c=>by rw [ek]
 have KE:∀ c,((ag s g).kind == c)=(k == c):=fun c=>by rw [ek]
 have aV:¬ ((ag s g).kind≠3∧(ag s g).kind≠5):=by omega
 have bX:¬ (common s g).2=true:=by rw [hc];simp
 rw [hc] at C1;have CM:=dU s (ag s g).ch;have cu:¬ aM s (ag s g).ch=false:=by rw [hm];simp
 have hl:=dM hm;rw [hm] at CM;have aj:bF s g=bF s g:=rfl
 conv at aj=>rhs;unfold bF;simp only;rw [if_neg aV,if_neg bX,if_neg cu]
 have P:∀ c,((aa s g).place == c)=((10:Int) == c):=fun c=>by rw [e0]
 refine aq.intro func85 rfl rfl rfl (fun ok e=>?_);rw [ay,ay,ay,ay,ay,ay,ay,ay] at aj;rw [if_pos e0] at aj;obtain ⟨f1,f2,f3⟩:=h.Ax e0;rw [aj];rcases bZ with rfl | rfl
 all_goals
  repeat (first | refine aJ (KN _) ?_ | refine aJ (P _) ?_ | refine aI (Fh s g ⟨true,g,(ag s g).ch,-1,false,0,false⟩ hg hf f1 f2 f3) ?_ | refine av ?_ | intro _)
  exact aA func85
theorem ND (s:ah) (g:Nat) (h:kq s g) (hk:(ag s g).kind=3∨(ag s g).kind=5) (hc:(common s g).2=false) (hm:aM s (ag s g).ch=true) (e0:(aa s g).place=11) :
  Pure prog 85 [.agg (az s),.c (nI g)] (.aY [.agg (az (bF s g).1),.c (bI (bF s g).2)]):=by
 have hg:=h.co.lt;have hf:Few s:=h.fit.toAnd;have hb:=hf.1;have cW:=hf.2.1;have C0:=cU s g hg h.co.cL;have C1:=ep s g h.co;obtain ⟨k,ek,bZ⟩:∃ k,(ag s g).kind=k∧(k=3∨k=5):=⟨_,rfl,hk⟩
 have KN:∀ c,((ag s g).kind != c)=(k != c):=fun c=>by rw [ek]
 have KE:∀ c,((ag s g).kind == c)=(k == c):=fun c=>by rw [ek]
 have aV:¬ ((ag s g).kind≠3∧(ag s g).kind≠5):=by omega
 have bX:¬ (common s g).2=true:=by rw [hc];simp
 rw [hc] at C1;have CM:=dU s (ag s g).ch;have cu:¬ aM s (ag s g).ch=false:=by rw [hm];simp
 have hl:=dM hm;rw [hm] at CM;have aj:bF s g=bF s g:=rfl
 conv at aj=>rhs;unfold bF;simp only;rw [if_neg aV,if_neg bX,if_neg cu]
 have P:∀ c,((aa s g).place == c)=((11:Int) == c):=fun c=>by rw [e0]
 refine aq.intro func85 rfl rfl rfl (fun ok e=>?_);rw [ay,ay,ay,ay,ay,ay,ay,ay,ay] at aj;rw [if_pos e0] at aj;rw [aj];have iK:=h.fit.rv (ag s g).ch;have C2:=kT s (ag s g).ch { (cn s (ag s g).ch) with recv:=(cn s (ag s g).ch).recv ++ [(aa s g).bq] } hm cW;have C3:=cA (aF s (ag s g).ch { (cn s (ag s g).ch) with recv:=(cn s (ag s g).ch).recv ++ [(aa s g).bq] }) g { aa s g with iF:=s.step,place:=12 } hg hb;rcases bZ with rfl | rfl
 all_goals
  repeat (first | refine aJ (KN _) ?_ | refine aJ (P _) ?_ | refine av ?_ | intro _)
  refine J.draw (by kernel_rfl) rfl ?_;refine JW.base (some 9) ?_;refine tk 1 ?_;refine tk 2 ?_;refine tk 4 ?_;refine tk 5 ?_;refine JD.cy (i:=0) (j:=6) (by kernel_rfl) ?_ ?_;refine JS.bt rfl rfl rfl (qb rfl) (Ld.fD (qb rfl)) .none (fun _=>?_);refine JD.cy (i:=3) (j:=6) (by kernel_rfl) ?_ ?_;refine JS.bt rfl rfl rfl (qb rfl) (Ld.bH (qb rfl) rfl rfl .read (by (simp;omega))) (by (exact .row (by repeat ((exact .refl))))) (fun _=>?_);refine jl 6 rfl rfl rfl rfl (Ld.dZ (qb rfl) rfl rfl rfl rfl rfl) .none (fun _=>?_);refine jl 7 rfl rfl rfl rfl (Ld.eB (qb rfl) rfl rfl .bV (by (simp;omega))) (by (exact .row (by repeat (first | exact .refl | refine .cons ?_)))) (fun _=>?_);refine jk 8 rfl rfl rfl rfl (Qt.fieldAddr rfl rfl) ?_;refine jt 9 rfl rfl (Ld.cr rfl rfl (by exact rfl)) (fun _=>?_);refine bz ?_
  rotate_left
  refine JS.bt rfl rfl rfl (qb rfl) (Ld.dZ (qb rfl) rfl rfl rfl rfl rfl) .none (fun _=>?_);refine jl 3 rfl rfl rfl rfl (Ld.bH (qb rfl) rfl rfl .read (by (simp;omega))) (by (exact .row (by repeat (first | exact .refl | refine .cons ?_)))) (fun _=>?_);refine jl 7 rfl rfl rfl rfl (Ld.eB (qb rfl) rfl rfl .bV (by (simp;omega))) (by (exact .row (by repeat (first | exact .refl | refine .cons ?_)))) (fun _=>?_);refine jk 8 rfl rfl rfl rfl (Qt.fieldAddr rfl rfl) ?_;refine jt 9 rfl rfl (Ld.cr rfl rfl (by exact rfl)) (fun _=>?_);refine bz ?_
  rotate_left
  refine JS.bt rfl rfl rfl (qb rfl) (Ld.dZ (qb rfl) rfl rfl rfl rfl rfl) .none (fun _=>?_);refine jl 0 rfl rfl rfl rfl (Ld.fD (qb rfl)) .none (fun _=>?_);refine jl 3 rfl rfl rfl rfl (Ld.bH (qb rfl) rfl rfl .read (by (simp;omega))) (by (exact .row (by repeat (first | exact .refl | refine .cons ?_)))) (fun _=>?_);refine jl 7 rfl rfl rfl rfl (Ld.eB (qb rfl) rfl rfl .bV (by (simp;omega))) (by (exact .row (by repeat (first | exact .refl | refine .cons ?_)))) (fun _=>?_);refine jk 8 rfl rfl rfl rfl (Qt.fieldAddr rfl rfl) ?_;refine jt 9 rfl rfl (Ld.cr rfl rfl (by exact rfl)) (fun _=>?_);refine bz ?_
  rotate_left
  all_goals
   repeat (refine gn ?_)
   refine J.draw (by kernel_rfl) rfl ?_;refine JW.base (some 8) ?_;refine tk 0 ?_;refine tk 1 ?_;refine tk 2 ?_;refine tk 3 ?_;refine tk 5 ?_;refine tk 6 ?_;refine jl 4 rfl rfl rfl rfl (Ld.pure (C2) (qb rfl) rfl (by repeat (first | exact br.nil | refine br.cons (c9.agg (by repeat (first | exact .nil | refine .cons .refl ?_ | refine .cons .snoc ?_))) ?_ | refine br.cons c9.refl ?_))) .none (fun _=>?_);refine cI 7 (C3) ?_;refine jt 8 rfl rfl (Ld.aT rfl rfl rfl (by exact rfl) (by exact rfl)) (fun _=>?_);refine JW.base none ?_;refine jk 9 rfl rfl rfl rfl (Qt.assign rfl) ?_;refine bP ?_
   repeat (fail)
   exact aA func85
theorem NF (s:ah) (g:Nat) (h:kq s g) (hk:(ag s g).kind=3∨(ag s g).kind=5) (hc:(common s g).2=false) (hm:aM s (ag s g).ch=true) (e0:(aa s g).place=14) :
  Pure prog 85 [.agg (az s),.c (nI g)] (.aY [.agg (az (bF s g).1),.c (bI (bF s g).2)]):=by
 have hg:=h.co.lt;have hf:Few s:=h.fit.toAnd;have hb:=hf.1;have cW:=hf.2.1;have C0:=cU s g hg h.co.cL;have C1:=ep s g h.co;obtain ⟨k,ek,bZ⟩:∃ k,(ag s g).kind=k∧(k=3∨k=5):=⟨_,rfl,hk⟩
 have KN:∀ c,((ag s g).kind != c)=(k != c):=fun c=>by rw [ek]
 have KE:∀ c,((ag s g).kind == c)=(k == c):=fun c=>by rw [ek]
 have aV:¬ ((ag s g).kind≠3∧(ag s g).kind≠5):=by omega
 have bX:¬ (common s g).2=true:=by rw [hc];simp
 rw [hc] at C1;have CM:=dU s (ag s g).ch;have cu:¬ aM s (ag s g).ch=false:=by rw [hm];simp
 have hl:=dM hm;rw [hm] at CM;have aj:bF s g=bF s g:=rfl
 conv at aj=>rhs;unfold bF;simp only;rw [if_neg aV,if_neg bX,if_neg cu]
 have P:∀ c,((aa s g).place == c)=((14:Int) == c):=fun c=>by rw [e0]
 refine aq.intro func85 rfl rfl rfl (fun ok e=>?_);rw [ay,ay,ay,ay,ay,ay,ay,ay,ay,ay] at aj;rw [if_pos e0] at aj;obtain ⟨f1,f2⟩:=h.vq e0;rw [aj]
 cases hd:(su s (aa s g).param).done with
 | true =>
  rw [if_pos rfl];rcases bZ with rfl | rfl
  all_goals
   repeat (first | refine J.fI (congrArg (fun b=>some (D.c (bI b))) hd) ?_ | (refine K.indexAddr ?_;refine jx rfl rfl rfl rfl (by omega) (fZ f1 f2) ?_) | refine aJ (KN _) ?_ | refine aJ (P _) ?_ | refine aI (jE 0 false) ?_ | refine aI (jE (su s (aa s g).param).v true) ?_ | refine aI (cA s g { aa s g with res:=dI (su s (aa s g).param).v true,param:=-1,place:=15 } hg hb) ?_ | refine av ?_ | intro _)
   exact aA func85
 | false =>
  rw [if_neg (by simp)];rcases bZ with rfl | rfl
  all_goals
   repeat (first | refine J.eW (congrArg (fun b=>some (D.c (bI b))) hd) ?_ | (refine K.indexAddr ?_;refine jx rfl rfl rfl rfl (by omega) (fZ f1 f2) ?_) | refine aJ (KN _) ?_ | refine aJ (P _) ?_ | refine aI (jE 0 false) ?_ | refine aI (cA s g { aa s g with res:=dI 0 false,param:=-1,place:=15 } hg hb) ?_ | refine av ?_ | intro _)
   exact aA func85
end Fl
end Go.Proofs.YtgjpdogjekmemaaGreat
