/-
  What the laws need, part B10.
  Conditions: none.
-/
import Derived.Test.YtgjpdogjekmemaaGreatB9
set_option linter.unusedVariables false
set_option linter.unusedSimpArgs false
set_option linter.unnecessarySimpa false
set_option maxHeartbeats 2000000
namespace Go.Proofs.YtgjpdogjekmemaaGreat
open Go.RowKit
namespace Fl
open Sx Go.Proofs.Tryz
set_option maxRecDepth 100000
theorem GP (s:ai) (g:Nat) (h:jz s g) (hk:(ag s g).kind=3∨(ag s g).kind=5) (hc:(common s g).2=false) (hm:aR s (ag s g).ch=true) (e0:(aa s g).place=5) :
  Pure prog 85 [.agg (aC s),.c (nI g)] (.aU [.agg (aC (bF s g).1),.c (bI (bF s g).2)]):=by
 have hg:=h.co.lt;have hf:Few s:=h.fit.toAnd;have hb:=hf.1;have cQ:=hf.2.1;have C0:=cO s g hg h.co.cJ;have C1:=dY s g h.co;obtain ⟨k,ek,bV⟩:∃ k,(ag s g).kind=k∧(k=3∨k=5):=⟨_,rfl,hk⟩
 have KN:∀ c,((ag s g).kind != c)=(k != c):=fun c=>by rw [ek]
 have KE:∀ c,((ag s g).kind == c)=(k == c):=fun c=>by rw [ek]
 have aZ:¬ ((ag s g).kind≠3∧(ag s g).kind≠5):=by omega
 have bX:¬ (common s g).2=true:=by rw [hc];simp
 rw [hc] at C1;have CM:=dN s (ag s g).ch;have bY:¬ aR s (ag s g).ch=false:=by rw [hm];simp
 have hl:=dJ hm;rw [hm] at CM;have aj:bF s g=bF s g:=rfl
 conv at aj=>rhs;unfold bF;simp only;rw [if_neg aZ,if_neg bX,if_neg bY]
 have P:∀ c,((aa s g).place == c)=((5:Int) == c):=fun c=>by rw [e0]
 refine aA.intro func85 rfl rfl rfl (fun ok e=>?_);rw [av,av,av] at aj;rw [if_pos e0] at aj
 cases bZ:(cn s (ag s g).ch).closed with
 | true =>
  cases xZ:(((cn s (ag s g).ch).buf.length:Int) == 0) with
  | true =>
   rw [if_pos ⟨bZ,by simpa using xZ⟩] at aj;rw [aj];rcases bV with rfl | rfl
   all_goals
    repeat (first | (refine K.load ?_;refine jq rfl rfl rfl ((Qt.oI rfl (by exact rfl)).eq (congrArg (fun b=>D.c (bI b)) bZ)) ?_) | refine aM (KN _) ?_ | refine aM (P _) ?_ | refine au ?_ | intro _)
    refine J.draw (by kernel_rfl) rfl ?_;refine JW.base (some 4) ?_;refine tk 0 ?_;refine tk 1 ?_;refine cz 2 (iQ 0 false) ?_;refine cz 3 (gE s g (dA 0 false) 16 hg hb) ?_;refine jt 4 rfl rfl (Ld.bu rfl rfl rfl (by exact rfl) (by exact rfl)) (fun _=>?_);refine JW.base none ?_;refine jk 5 rfl rfl rfl rfl (Qt.assign rfl) ?_;refine aX ?_
    repeat (fail)
    exact az func85
  | false =>
   rw [if_neg (by intro hh;have:=hh.2;rw [this] at xZ;cases xZ),if_pos bZ] at aj;rw [aj];rcases bV with rfl | rfl
   all_goals
    repeat (first | (refine K.load ?_;refine jq rfl rfl rfl ((Qt.oI rfl (by exact rfl)).eq (congrArg (fun b=>D.c (bI b)) bZ)) ?_) | refine aM (KN _) ?_ | refine aM (P _) ?_ | refine aO (dX s g 9 hg hb) ?_ | refine au ?_ | intro _)
    exact az func85
 | false =>
  rw [if_neg (by rw [bZ];simp),if_neg (by rw [bZ];simp)] at aj;rw [aj];rcases bV with rfl | rfl
  all_goals
   repeat (first | (refine K.load ?_;refine jq rfl rfl rfl ((Qt.oI rfl (by exact rfl)).eq (congrArg (fun b=>D.c (bI b)) bZ)) ?_) | refine aM (KN _) ?_ | refine aM (P _) ?_ | refine aO (dX s g 6 hg hb) ?_ | refine au ?_ | intro _)
   exact az func85
theorem GQ (s:ai) (g:Nat) (h:jz s g) (hk:(ag s g).kind=3∨(ag s g).kind=5) (hc:(common s g).2=false) (hm:aR s (ag s g).ch=true) (e0:¬ ((aa s g).place=1∨(aa s g).place=2∨(aa s g).place=3∨(aa s g).place=5∨(aa s g).place=6∨(aa s g).place=7∨(aa s g).place=8∨(aa s g).place=9∨(aa s g).place=10∨(aa s g).place=11∨(aa s g).place=14)) :
  Pure prog 85 [.agg (aC s),.c (nI g)] (.aU [.agg (aC (bF s g).1),.c (bI (bF s g).2)]):=by
 have hg:=h.co.lt;have hf:Few s:=h.fit.toAnd;have hb:=hf.1;have cQ:=hf.2.1;have C0:=cO s g hg h.co.cJ;have C1:=dY s g h.co;obtain ⟨k,ek,bV⟩:∃ k,(ag s g).kind=k∧(k=3∨k=5):=⟨_,rfl,hk⟩
 have KN:∀ c,((ag s g).kind != c)=(k != c):=fun c=>by rw [ek]
 have KE:∀ c,((ag s g).kind == c)=(k == c):=fun c=>by rw [ek]
 have aZ:¬ ((ag s g).kind≠3∧(ag s g).kind≠5):=by omega
 have bX:¬ (common s g).2=true:=by rw [hc];simp
 rw [hc] at C1;have CM:=dN s (ag s g).ch;have bY:¬ aR s (ag s g).ch=false:=by rw [hm];simp
 have hl:=dJ hm;rw [hm] at CM;have aj:bF s g=bF s g:=rfl
 conv at aj=>rhs;unfold bF;simp only;rw [if_neg aZ,if_neg bX,if_neg bY]
 refine aA.intro func85 rfl rfl rfl (fun ok e=>?_);rw [av,av,av,av,av,av,av,av,av,av,av] at aj;have P1:((aa s g).place == 1)=false:=by simp;omega
 have P2:((aa s g).place == 2)=false:=by simp;omega
 have P3:((aa s g).place == 3)=false:=by simp;omega
 have P5:((aa s g).place == 5)=false:=by simp;omega
 have P6:((aa s g).place == 6)=false:=by simp;omega
 have P7:((aa s g).place == 7)=false:=by simp;omega
 have P8:((aa s g).place == 8)=false:=by simp;omega
 have P9:((aa s g).place == 9)=false:=by simp;omega
 have GB:((aa s g).place == 10)=false:=by simp;omega
 have GC:((aa s g).place == 11)=false:=by simp;omega
 have Bb:((aa s g).place == 14)=false:=by simp;omega
 rw [aj];rcases bV with rfl | rfl
 all_goals
  repeat (first | refine aM (KN _) ?_ | refine au ?_ | intro _)
  exact az func85
end Fl
open Go.RowKit
namespace Fl
open Sx Go.Proofs.Tryz
set_option maxRecDepth 100000
theorem Fit.dI {s:ai} (h:Fit s) (c:Int) (x:Cn) (hr:x.recv.length≤50000) (hs:x.send.length≤50000) (hu:x.buf.length≤50000):Fit (aH s c x):=by
 have hf:Few s:=h.toAnd;have oS:Few (aH s c x):=hf.of rfl (FX _ _ _) rfl;have hc:∀ ch,(cn (aH s c x) ch).recv.length≤50000∧(cn (aH s c x) ch).send.length≤50000∧(cn (aH s c x) ch).buf.length≤50000:=fun ch=>by
  rcases A8 s c x ch with e | e
  ·rw [e];exact ⟨hr,hs,hu⟩
  ·rw [e];exact ⟨h.rv ch,h.sd ch,h.bf ch⟩
 exact ⟨oS,h.wk,fun ch=>(hc ch).1,fun ch=>(hc ch).2.1,fun ch=>(hc ch).2.2,h.od,h.sg,h.dn,h.ca,h.cl,h.md⟩
theorem GR (l:List Int) (r v:Int):(fj l r v).1.length=l.length:=by
 unfold fj
 split
 ·rfl
 ·rename_i hn;have:l.length≠0:=fun e=>hn (.inr e)
  simp;omega
theorem Fit.hand {s:ai} (h:Fit s) (ch i:Int):Fit (Sx.hand s ch i).1:=by
 unfold Sx.hand;simp only
 split
 ·exact h
 ·exact h.dI _ _ (h.rv _) (h.sd _) (by rw [GR];exact h.bf _)
theorem uV (s:ai) (ch i:Int):(Sx.hand s ch i).1.gs=s.gs:=by unfold Sx.hand;simp only;split <;> rfl
theorem Be (s:ai) (ch i:Int):(Sx.hand s ch i).1.aL=s.aL:=by unfold Sx.hand;simp only;split <;> rfl
theorem Bf (s:ai) (i ch:Int):aR (bE s i) ch=aR s ch:=by unfold aR;rw [xV]
theorem GS (s:ai) (g:Nat) (h:jz s g) (hk:(ag s g).kind=3∨(ag s g).kind=5) (hc:(common s g).2=false) (hm:aR s (ag s g).ch=true) (e0:(aa s g).place=8) :
  Pure prog 85 [.agg (aC s),.c (nI g)] (.aU [.agg (aC (bF s g).1),.c (bI (bF s g).2)]):=by
 have hg:=h.co.lt;have hf:Few s:=h.fit.toAnd;have hb:=hf.1;have cQ:=hf.2.1;have C0:=cO s g hg h.co.cJ;have C1:=dY s g h.co;obtain ⟨k,ek,bV⟩:∃ k,(ag s g).kind=k∧(k=3∨k=5):=⟨_,rfl,hk⟩
 have KN:∀ c,((ag s g).kind != c)=(k != c):=fun c=>by rw [ek]
 have KE:∀ c,((ag s g).kind == c)=(k == c):=fun c=>by rw [ek]
 have aZ:¬ ((ag s g).kind≠3∧(ag s g).kind≠5):=by omega
 have bX:¬ (common s g).2=true:=by rw [hc];simp
 rw [hc] at C1;have CM:=dN s (ag s g).ch;have bY:¬ aR s (ag s g).ch=false:=by rw [hm];simp
 have hl:=dJ hm;rw [hm] at CM;have aj:bF s g=bF s g:=rfl
 conv at aj=>rhs;unfold bF;simp only;rw [if_neg aZ,if_neg bX,if_neg bY]
 have P:∀ c,((aa s g).place == c)=((8:Int) == c):=fun c=>by rw [e0]
 refine aA.intro func85 rfl rfl rfl (fun ok e=>?_);rw [av,av,av,av,av,av] at aj;rw [if_pos e0] at aj;have hi:=h.l8 e0;obtain ⟨eH,ee,gi,ji⟩:=id hi;have D1:=nY s (aa s g).hold eH ee (Nat.le_trans (h.fit.rv _) (by omega)) (Nat.le_trans (h.fit.sd _) (by omega)) cQ;have k1:cP (bE s (aa s g).hold) (aa s g).hold:=hi.of (oR _ _) (by rw [eU]);have f1:=h.fit.drop (aa s g).hold;have g1:g < (bE s (aa s g).hold).gs.length:=by rw [eU];exact hg
 have m1:aR (bE s (aa s g).hold) (ag s g).ch=true:=by rw [Bf];exact hm
 rw [aj];clear aj;generalize bE s (aa s g).hold=s1 at *;have D2:=Bc s1 (ag s g).ch (aa s g).hold m1 f1.1.2.1 k1.1 k1.2.1 (f1.bf _);have k2:cP (Sx.hand s1 (ag s g).ch (aa s g).hold).1 (aa s g).hold:=k1.of (Be _ _ _) (by rw [uV]);have f2:=f1.hand (ag s g).ch (aa s g).hold;have g2:g < (Sx.hand s1 (ag s g).ch (aa s g).hold).1.gs.length:=by rw [uV];exact g1
 generalize Sx.hand s1 (ag s g).ch (aa s g).hold=n at *;have D3:=sJ n.1 g (aa s g).hold true g2 k2 f2;have g3:g < (Sx.serve n.1 g (aa s g).hold true).gs.length:=by rw [mI];exact g2
 have b3:(Sx.serve n.1 g (aa s g).hold true).gs.length≤100000:=by rw [mI];exact f2.1.1
 generalize Sx.serve n.1 g (aa s g).hold true=s3 at *;have D4:=cj s3 g { aa s3 g with res:=dA n.2 true,place:=16 } g3 b3;rcases bV with rfl | rfl
 all_goals
  repeat (first | refine aM (KN _) ?_ | refine aM (P _) ?_ | refine au ?_ | intro _)
  refine J.draw (by kernel_rfl) rfl ?_;refine JW.base (some 13) ?_;refine tk 0 ?_;refine tk 1 ?_;refine tk 2 ?_;refine tk 4 ?_;refine tk 5 ?_;refine tk 6 ?_;refine tk 7 ?_;refine JD.cF (i:=3) (j:=12) (by kernel_rfl) ?_ ?_;refine JS.cC rfl rfl rfl (qb rfl) (Ld.pure (D1) (qb rfl) rfl lq) .none (fun _=>?_);refine JD.cF (i:=8) (j:=12) (by kernel_rfl) ?_ ?_;refine JS.cC rfl rfl rfl (qb rfl) (Ld.pure (D2) (qb rfl) rfl lq) .none (fun _=>?_);refine JD.kN ?_;refine tk 9 ?_;refine tk 10 ?_;refine JD.cF (i:=11) (j:=12) (by kernel_rfl) ?_ ?_;refine JS.q rfl rfl rfl (qb rfl) (Qt.extract rfl rfl) ?_;refine jl 12 rfl rfl rfl rfl (Ld.alloc (qb rfl)) .none (fun _=>?_);refine jt 13 rfl rfl (Ld.bu rfl rfl rfl (by exact rfl) (by exact rfl)) (fun _=>?_);refine JW.base none ?_;refine jk 14 rfl rfl rfl rfl (Qt.assign rfl) ?_;refine aX ?_
  rotate_left
  refine JS.cC rfl rfl rfl (qb rfl) (Ld.alloc (qb rfl)) .none (fun _=>?_);refine JD.cF (i:=11) (j:=13) (by kernel_rfl) ?_ ?_;refine JS.q rfl rfl rfl (qb rfl) (Qt.extract rfl rfl) ?_;refine jt 13 rfl rfl (Ld.bu rfl rfl rfl (by exact rfl) (by exact rfl)) (fun _=>?_);refine JW.base none ?_;refine jk 14 rfl rfl rfl rfl (Qt.assign rfl) ?_;refine aX ?_
  rotate_left
  (refine JS.last rfl rfl (Ld.bu rfl rfl rfl (by exact rfl) (by exact rfl)) (fun _=>?_))
  refine JW.base none ?_;refine jk 11 rfl rfl rfl rfl (Qt.extract rfl rfl) ?_;refine jk 14 rfl rfl rfl rfl (Qt.assign rfl) ?_;refine aX ?_
  rotate_left
  refine JS.cC rfl rfl rfl (qb rfl) (Ld.alloc (qb rfl)) .none (fun _=>?_);refine cz 8 (D2) ?_;refine jk 9 rfl rfl rfl rfl (Qt.move rfl) ?_;refine JD.kN ?_;refine tk 10 ?_;refine JD.cF (i:=11) (j:=13) (by kernel_rfl) ?_ ?_;refine JS.q rfl rfl rfl (qb rfl) (Qt.extract rfl rfl) ?_;refine jt 13 rfl rfl (Ld.bu rfl rfl rfl (by exact rfl) (by exact rfl)) (fun _=>?_);refine JW.base none ?_;refine jk 14 rfl rfl rfl rfl (Qt.assign rfl) ?_;refine aX ?_
  rotate_left
  (refine JS.last rfl rfl (Ld.bu rfl rfl rfl (by exact rfl) (by exact rfl)) (fun _=>?_))
  refine JW.base none ?_;refine jk 11 rfl rfl rfl rfl (Qt.extract rfl rfl) ?_;refine jk 14 rfl rfl rfl rfl (Qt.assign rfl) ?_;refine aX ?_
  rotate_left
  refine JS.cC rfl rfl rfl (qb rfl) (Ld.alloc (qb rfl)) .none (fun _=>?_);refine cz 3 (D1) ?_;refine cz 8 (D2) ?_;refine jk 9 rfl rfl rfl rfl (Qt.move rfl) ?_;refine JD.kN ?_;refine tk 10 ?_;refine JD.cF (i:=11) (j:=13) (by kernel_rfl) ?_ ?_;refine JS.q rfl rfl rfl (qb rfl) (Qt.extract rfl rfl) ?_;refine jt 13 rfl rfl (Ld.bu rfl rfl rfl (by exact rfl) (by exact rfl)) (fun _=>?_);refine JW.base none ?_;refine jk 14 rfl rfl rfl rfl (Qt.assign rfl) ?_;refine aX ?_
  rotate_left
  (refine JS.last rfl rfl (Ld.bu rfl rfl rfl (by exact rfl) (by exact rfl)) (fun _=>?_))
  refine JW.base none ?_;refine jk 11 rfl rfl rfl rfl (Qt.extract rfl rfl) ?_;refine jk 14 rfl rfl rfl rfl (Qt.assign rfl) ?_;refine aX ?_
  rotate_left
  all_goals
   repeat (first | refine aO (iQ n.2 true) ?_ | refine au ?_ | intro _)
   exact az func85
theorem GU (s:ai) (g:Nat) (h:jz s g) :
  Pure prog 85 [.agg (aC s),.c (nI g)] (.aU [.agg (aC (bF s g).1),.c (bI (bF s g).2)]):=by
 have hg:=h.co.lt;have C0:=cO s g hg h.co.cJ;have C1:=dY s g h.co
 by_cases hk:(ag s g).kind=3∨(ag s g).kind=5
 case neg =>
  refine aA.intro func85 rfl rfl rfl (fun ok e=>?_);have K2:((ag s g).kind != 3)=true:=by simp;omega
  have K4:((ag s g).kind != 5)=true:=by simp;omega
  have er:bF s g=(s,false):=by unfold bF;simp only;rw [if_pos (by omega)]
  rw [er]
  repeat (first | refine au ?_ | intro _)
  exact az func85
 case pos =>
 have aZ:¬ ((ag s g).kind≠3∧(ag s g).kind≠5):=by omega
 cases hc:(common s g).2 with
 | true =>
  obtain ⟨k,ek,bV⟩:∃ k,(ag s g).kind=k∧(k=3∨k=5):=⟨_,rfl,hk⟩
  have KN:∀ c,((ag s g).kind != c)=(k != c):=fun c=>by rw [ek]
  refine aA.intro func85 rfl rfl rfl (fun ok e=>?_);have er:bF s g=((common s g).1,true):=by unfold bF;simp only;rw [if_neg aZ,if_pos hc]
  rw [er];rw [hc] at C1;rcases bV with rfl | rfl
  all_goals
   repeat (first | refine aM (KN _) ?_ | refine au ?_ | intro _)
   exact az func85
 | false =>
 cases hm:aR s (ag s g).ch with
 | false =>
  have CM:=dN s (ag s g).ch;have bX:¬ (common s g).2=true:=by rw [hc];simp
  obtain ⟨k,ek,bV⟩:∃ k,(ag s g).kind=k∧(k=3∨k=5):=⟨_,rfl,hk⟩
  have KN:∀ c,((ag s g).kind != c)=(k != c):=fun c=>by rw [ek]
  refine aA.intro func85 rfl rfl rfl (fun ok e=>?_);have er:bF s g=(s,false):=by unfold bF;simp only;rw [if_neg aZ,if_neg bX,if_pos hm]
  rw [er];rw [hc] at C1;rw [hm] at CM;rcases bV with rfl | rfl
  all_goals
   repeat (first | refine aM (KN _) ?_ | refine au ?_ | intro _)
   exact az func85
 | true =>
  by_cases e1:(aa s g).place=1
  ·exact GG s g h hk hc hm e1
  by_cases e2:(aa s g).place=2
  ·exact GH s g h hk hc hm e2
  by_cases e3:(aa s g).place=3
  ·exact GI s g h hk hc hm e3
  by_cases e5:(aa s g).place=5
  ·exact GP s g h hk hc hm e5
  by_cases e6:(aa s g).place=6
  ·exact GJ s g h hk hc hm e6
  by_cases e7:(aa s g).place=7
  ·exact GK s g h hk hc hm e7
  by_cases e8:(aa s g).place=8
  ·exact GS s g h hk hc hm e8
  by_cases e9:(aa s g).place=9
  ·exact GL s g h hk hc hm e9
  by_cases jT:(aa s g).place=10
  ·exact GM s g h hk hc hm jT
  by_cases jU:(aa s g).place=11
  ·exact GN s g h hk hc hm jU
  by_cases gU:(aa s g).place=14
  ·exact GO s g h hk hc hm gU
  exact GQ s g h hk hc hm (by omega)
end Fl
open Go.RowKit
namespace Fl
open Sx Go.Proofs.Tryz
set_option maxRecDepth 100000
structure x8 (x:Gr):Prop where
 wk:x.an.length≤50000
 od:x.order.length≤50000
 sg:x.aq.length≤50000
theorem uW (s:ai) (o:Nat) (x:Gr) (g:Nat):aa (ah s o x) g=x∨aa (ah s o x) g=aa s g:=by
 unfold aa ah;simp only [List.getD_eq_getElem?_getD,List.getElem?_set]
 split
 ·split
  ·exact .inl rfl
  ·rename_i h1 h2;rw [← h1,List.getElem?_eq_none (by omega)];exact .inr rfl
 ·exact .inr rfl
theorem Fit.gr {s:ai} (h:Fit s) (g:Nat):x8 (aa s g):=⟨h.wk g,h.od g,h.sg g⟩
theorem Fit.ff {s:ai} (h:Fit s) (o:Nat) (x:Gr) (hx:x8 x):Fit (ah s o x):=by
 have hf:Few s:=h.toAnd;have oS:Few (ah s o x):=hf.of (bP _ _ _) rfl rfl;have hg:∀ g,x8 (aa (ah s o x) g):=fun g=>by
  rcases uW s o x g with e | e
  ·rw [e];exact hx
  ·rw [e];exact h.gr g
 exact ⟨oS,fun g=>(hg g).wk,h.rv,h.sd,h.bf,fun g=>(hg g).od,fun g=>(hg g).sg,h.dn,h.ca,h.cl,h.md⟩
theorem x9 (s:ai) (g:Nat) (hg:g < s.gs.length) (hi:cP s (aa s g).hold) (hb:Fit s) :
  Pure prog 121 [.agg (aC s),.c (nI g)] (.agg (aC (gz s g))):=by
 obtain ⟨eH,ee,gi,ji⟩:=id hi;have hf:Few s:=hb.toAnd;have D1:=cj s g { aa s g with t:=s.step } hg hf.1;have f1:=hb.ff g { aa s g with t:=s.step } ⟨hb.wk g,hb.od g,hb.sg g⟩;have k1:cP (ah s g { aa s g with t:=s.step }) (aa s g).hold:=hi.of rfl (bP _ _ _);have g1:g < (ah s g { aa s g with t:=s.step }).gs.length:=by rw [bP];exact hg
 have D2:=nY (ah s g { aa s g with t:=s.step }) (aa s g).hold k1.1 k1.2.1 (Nat.le_trans (f1.rv _) (by omega)) (Nat.le_trans (f1.sd _) (by omega)) f1.1.2.1;have k2:cP (bE (ah s g { aa s g with t:=s.step }) (aa s g).hold) (aa s g).hold:=k1.of (oR _ _) (by rw [eU]);have f2:=f1.drop (aa s g).hold;have g2:g < (bE (ah s g { aa s g with t:=s.step }) (aa s g).hold).gs.length:=by rw [eU];exact g1
 have er:gz s g=Sx.serve (ah (bE (ah s g { aa s g with t:=s.step }) (aa s g).hold) (su (bE (ah s g { aa s g with t:=s.step }) (aa s g).hold) (aa s g).hold).g.toNat { aa (bE (ah s g { aa s g with t:=s.step }) (aa s g).hold) (su (bE (ah s g { aa s g with t:=s.step }) (aa s g).hold) (aa s g).hold).g.toNat with bS:=(aa (bE (ah s g { aa s g with t:=s.step }) (aa s g).hold) g).t,c7:=(su (bE (ah s g { aa s g with t:=s.step }) (aa s g).hold) (aa s g).hold).cs }) g (aa s g).hold false:=rfl;rw [er];clear er;generalize ah s g { aa s g with t:=s.step }=s1 at *;generalize bE s1 (aa s g).hold=s2 at *;have D3:=sH s2 (su s2 (aa s g).hold).g { aa s2 (su s2 (aa s g).hold).g.toNat with bS:=(aa s2 g).t,c7:=(su s2 (aa s g).hold).cs } k2.2.2.1 k2.2.2.2 f2.1.1;have f3:=f2.ff (su s2 (aa s g).hold).g.toNat { aa s2 (su s2 (aa s g).hold).g.toNat with bS:=(aa s2 g).t,c7:=(su s2 (aa s g).hold).cs } ⟨f2.wk _,f2.od _,f2.sg _⟩;have k3:cP (ah s2 (su s2 (aa s g).hold).g.toNat { aa s2 (su s2 (aa s g).hold).g.toNat with bS:=(aa s2 g).t,c7:=(su s2 (aa s g).hold).cs }) (aa s g).hold:=k2.of rfl (bP _ _ _);have D4:=sJ _ g (aa s g).hold false (by rw [bP];exact g2) k3 f3;have q0:=k2.2.2.1;have q1:=k2.gr;refine aA.intro func121 rfl rfl rfl (fun ok e=>?_)
 repeat (first | (refine K.indexAddr ?_;first | refine jx rfl rfl rfl rfl (by omega) (fM hg) ?_ | refine jx rfl rfl rfl rfl (by omega) (fM g2) ?_ | refine jx rfl rfl rfl rfl (by omega) (fO k2.1 k2.2.1) ?_ | refine jx rfl rfl rfl rfl (by omega) (q1) ?_) | refine aO (D1) ?_ | refine aO (D2) ?_ | refine aO (D3) ?_ | refine aO (D4) ?_ | refine au ?_ | intro _)
 exact az func121
end Fl
open Go.RowKit
namespace Fl
open Sx Go.Proofs.Tryz
set_option maxRecDepth 100000
theorem ku {l:List Int} {k:Int} (h0:0≤k) (h:k < l.length):(l.map fun n=>[nI n])[k.toNat]?=some [nI (aB l k)]:=by
 have:k.toNat < l.length:=by omega
 refine at_map ?_;unfold aB;rw [List.getElem?_eq_getElem this,List.getD_eq_getElem?_getD,List.getElem?_eq_getElem this];rfl
theorem oT (s:ai) (g:Nat) (p:Int) (hg:g < s.gs.length) (hb:s.gs.length≤100000) :
  Pure prog 159 [.agg (aC s),.c (nI g),.c (nI p)] (.agg (aC (unlock s g p))):=by
 refine aA.intro func159 rfl rfl rfl (fun ok e=>?_)
 repeat (first | refine aO (cj s g { aa s g with k:=(aa s g).aE.length,place:=p } hg hb) ?_ | refine au ?_ | intro _)
 exact az func159
theorem Bi (s:ai) (g:Nat) (r:Md.ak) (p:Int):(bG s g r p).gs.length=s.gs.length:=by simp [bG,ah]
theorem sQ (s:ai) (g:Nat) (r:Md.ak) (i:Int) (hg:g < s.gs.length) (hb:s.gs.length≤100000) :
  Pure prog 157 [.agg (aC s),.c (nI g),.agg (qd r),.c (nI i)] (.agg (aC (dL s g r i))):=by
 have C1:=sI r i;have C2:=gE s g { r with cs:=i } 30 hg hb;have g1:g < (bG s g { r with cs:=i } 30).gs.length:=by rw [Bi];exact hg
 have b1:(bG s g { r with cs:=i } 30).gs.length≤100000:=by rw [Bi];exact hb
 have er:dL s g r i=unlock (ah (bG s g { r with cs:=i } 30) g { aa (bG s g { r with cs:=i } 30) g with c7:=i }) g 30:=rfl;rw [er];clear er;generalize bG s g { r with cs:=i } 30=s1 at *;have C3:=cj s1 g { aa s1 g with c7:=i } g1 b1;have C4:=oT (ah s1 g { aa s1 g with c7:=i }) g 30 (by rw [bP];exact g1) (by rw [bP];exact b1);refine aA.intro func157 rfl rfl rfl (fun ok e=>?_)
 repeat (first | refine au ?_ | intro _)
 refine J.draw (by kernel_rfl) rfl ?_;refine JW.base (some 6) ?_;refine tk 0 ?_;refine tk 1 ?_;refine tk 2 ?_;refine tk 3 ?_;refine cz 4 (C1) ?_;refine cz 5 (C2) ?_;refine jt 6 rfl rfl (Ld.bu rfl rfl rfl (by exact rfl) (by exact rfl)) (fun _=>?_);refine cH ?_
 repeat (first | refine au ?_ | intro _)
 exact az func157
theorem Bj (s:ai) (g:Nat) (p:Int) (hg:g < s.gs.length) (hb:Few s) (k0:0≤(aa s g).k) (k1:(aa s g).k < (aa s g).aE.length) (kb:(aa s g).aE.length≤100000) (hm:aR s (aB (aa s g).aE (aa s g).k)=true) :
  Pure prog 122 [.agg (aC s),.c (nI g),.c (nI p)] (.agg (aC (lock s g p))):=by
 have I1:=ku k0 k1;have C1:=AA s g (aB (aa s g).aE (aa s g).k) hm hb.2.1;have g2:g < (tryLock s g (aB (aa s g).aE (aa s g).k)).1.gs.length:=by rw [uS];exact hg
 have b2:(tryLock s g (aB (aa s g).aE (aa s g).k)).1.gs.length≤100000:=by rw [uS];exact hb.1
 refine aA.intro func122 rfl rfl rfl (fun ok e=>?_)
 cases ht:(tryLock s g (aB (aa s g).aE (aa s g).k)).2 with
 | false =>
  rw [ht] at C1;have er:lock s g p=s:=by unfold lock;simp only;rw [if_neg (by rw [ht];simp)]
  rw [er]
  repeat (first | refine au ?_ | intro _)
  refine J.draw (by kernel_rfl) rfl ?_;refine JW.base (some 13) ?_;refine tk 0 ?_;refine tk 1 ?_;refine tk 2 ?_;refine tk 3 ?_;refine tk 4 ?_;refine tk 5 ?_;refine JD.take 6 rfl rfl (by kernel_rfl) rfl (qb rfl) (Qt.dj rfl rfl k0 I1) rfl ?_;refine tk 7 ?_;refine JD.cF (i:=8) (j:=12) (by kernel_rfl) ?_ ?_;refine JS.cC rfl rfl rfl (qb rfl) (Ld.pure (C1) (qb rfl) rfl lq) .none (fun _=>?_);refine JD.kN ?_;refine tk 9 ?_;refine tk 10 ?_;refine JD.cF (i:=11) (j:=12) (by kernel_rfl) ?_ ?_;refine JS.q rfl rfl rfl (qb rfl) (Qt.extract rfl rfl) ?_;refine jl 12 rfl rfl rfl rfl (Ld.alloc (qb rfl)) .none (fun _=>?_);refine jt 13 rfl rfl (Ld.bu rfl rfl rfl (by exact rfl) (by exact rfl)) (fun _=>?_);refine JW.base none ?_;refine jk 14 rfl rfl rfl rfl (Qt.assign rfl) ?_;refine aX ?_
  rotate_left
  refine JS.cC rfl rfl rfl (qb rfl) (Ld.alloc (qb rfl)) .none (fun _=>?_);refine JD.cF (i:=11) (j:=13) (by kernel_rfl) ?_ ?_;refine JS.q rfl rfl rfl (qb rfl) (Qt.extract rfl rfl) ?_;refine jt 13 rfl rfl (Ld.bu rfl rfl rfl (by exact rfl) (by exact rfl)) (fun _=>?_);refine JW.base none ?_;refine jk 14 rfl rfl rfl rfl (Qt.assign rfl) ?_;refine aX ?_
  rotate_left
  (refine JS.last rfl rfl (Ld.bu rfl rfl rfl (by exact rfl) (by exact rfl)) (fun _=>?_))
  refine JW.base none ?_;refine jk 11 rfl rfl rfl rfl (Qt.extract rfl rfl) ?_;refine jk 14 rfl rfl rfl rfl (Qt.assign rfl) ?_;refine aX ?_
  rotate_left
  refine JS.cC rfl rfl rfl (qb rfl) (Ld.alloc (qb rfl)) .none (fun _=>?_);refine cz 8 (C1) ?_;refine jk 9 rfl rfl rfl rfl (Qt.move rfl) ?_;refine JD.kN ?_;refine tk 10 ?_;refine JD.cF (i:=11) (j:=13) (by kernel_rfl) ?_ ?_;refine JS.q rfl rfl rfl (qb rfl) (Qt.extract rfl rfl) ?_;refine jt 13 rfl rfl (Ld.bu rfl rfl rfl (by exact rfl) (by exact rfl)) (fun _=>?_);refine JW.base none ?_;refine jk 14 rfl rfl rfl rfl (Qt.assign rfl) ?_;refine aX ?_
  rotate_left
  (refine JS.last rfl rfl (Ld.bu rfl rfl rfl (by exact rfl) (by exact rfl)) (fun _=>?_))
  refine JW.base none ?_;refine jk 11 rfl rfl rfl rfl (Qt.extract rfl rfl) ?_;refine jk 14 rfl rfl rfl rfl (Qt.assign rfl) ?_;refine aX ?_
  rotate_left
  all_goals
   repeat (refine gn ?_)
   exact az func122
 | true =>
  rw [ht] at C1;have er:lock s g p=if (aa s g).k + 1=(aa s g).aE.length then ah (tryLock s g (aB (aa s g).aE (aa s g).k)).1 g { aa s g with k:=0,place:=p } else ah (tryLock s g (aB (aa s g).aE (aa s g).k)).1 g { aa s g with k:=(aa s g).k + 1 }:=by unfold lock;simp only;rw [if_pos ht]
  rw [er];generalize (tryLock s g (aB (aa s g).aE (aa s g).k)).1=s1 at *;have hk:((aa s g).k + 1 == ((aa s g).aE.length:Int))=decide ((aa s g).k + 1=(aa s g).aE.length):=rfl
  by_cases hl:(aa s g).k + 1=(aa s g).aE.length
  ·rw [if_pos hl];rw [decide_eq_true hl] at hk
   repeat (first | refine au ?_ | intro _)
   refine J.draw (by kernel_rfl) rfl ?_;refine JW.base (some 13) ?_;refine tk 0 ?_;refine tk 1 ?_;refine tk 2 ?_;refine tk 3 ?_;refine tk 4 ?_;refine tk 5 ?_;refine JD.take 6 rfl rfl (by kernel_rfl) rfl (qb rfl) (Qt.dj rfl rfl k0 I1) rfl ?_;refine tk 7 ?_;refine JD.cF (i:=8) (j:=12) (by kernel_rfl) ?_ ?_;refine JS.cC rfl rfl rfl (qb rfl) (Ld.pure (C1) (qb rfl) rfl lq) .none (fun _=>?_);refine JD.kN ?_;refine tk 9 ?_;refine tk 10 ?_;refine JD.cF (i:=11) (j:=12) (by kernel_rfl) ?_ ?_;refine JS.q rfl rfl rfl (qb rfl) (Qt.extract rfl rfl) ?_;refine jl 12 rfl rfl rfl rfl (Ld.alloc (qb rfl)) .none (fun _=>?_);refine jt 13 rfl rfl (Ld.bu rfl rfl rfl (by exact rfl) (by exact rfl)) (fun _=>?_);refine JW.base none ?_;refine jk 14 rfl rfl rfl rfl (Qt.assign rfl) ?_;refine aX ?_
   rotate_left
   refine JS.cC rfl rfl rfl (qb rfl) (Ld.alloc (qb rfl)) .none (fun _=>?_);refine JD.cF (i:=11) (j:=13) (by kernel_rfl) ?_ ?_;refine JS.q rfl rfl rfl (qb rfl) (Qt.extract rfl rfl) ?_;refine jt 13 rfl rfl (Ld.bu rfl rfl rfl (by exact rfl) (by exact rfl)) (fun _=>?_);refine JW.base none ?_;refine jk 14 rfl rfl rfl rfl (Qt.assign rfl) ?_;refine aX ?_
   rotate_left
   (refine JS.last rfl rfl (Ld.bu rfl rfl rfl (by exact rfl) (by exact rfl)) (fun _=>?_))
   refine JW.base none ?_;refine jk 11 rfl rfl rfl rfl (Qt.extract rfl rfl) ?_;refine jk 14 rfl rfl rfl rfl (Qt.assign rfl) ?_;refine aX ?_
   rotate_left
   refine JS.cC rfl rfl rfl (qb rfl) (Ld.alloc (qb rfl)) .none (fun _=>?_);refine cz 8 (C1) ?_;refine jk 9 rfl rfl rfl rfl (Qt.move rfl) ?_;refine JD.kN ?_;refine tk 10 ?_;refine JD.cF (i:=11) (j:=13) (by kernel_rfl) ?_ ?_;refine JS.q rfl rfl rfl (qb rfl) (Qt.extract rfl rfl) ?_;refine jt 13 rfl rfl (Ld.bu rfl rfl rfl (by exact rfl) (by exact rfl)) (fun _=>?_);refine JW.base none ?_;refine jk 14 rfl rfl rfl rfl (Qt.assign rfl) ?_;refine aX ?_
   rotate_left
   (refine JS.last rfl rfl (Ld.bu rfl rfl rfl (by exact rfl) (by exact rfl)) (fun _=>?_))
   refine JW.base none ?_;refine jk 11 rfl rfl rfl rfl (Qt.extract rfl rfl) ?_;refine jk 14 rfl rfl rfl rfl (Qt.assign rfl) ?_;refine aX ?_
   rotate_left
   all_goals
    repeat (first | refine aO (cj s1 g { aa s g with k:=0,place:=p } g2 b2) ?_ | refine gn ?_)
    exact az func122
  ·rw [if_neg hl];rw [decide_eq_false hl] at hk
   repeat (first | refine au ?_ | intro _)
   refine J.draw (by kernel_rfl) rfl ?_;refine JW.base (some 13) ?_;refine tk 0 ?_;refine tk 1 ?_;refine tk 2 ?_;refine tk 3 ?_;refine tk 4 ?_;refine tk 5 ?_;refine JD.take 6 rfl rfl (by kernel_rfl) rfl (qb rfl) (Qt.dj rfl rfl k0 I1) rfl ?_;refine tk 7 ?_;refine JD.cF (i:=8) (j:=12) (by kernel_rfl) ?_ ?_;refine JS.cC rfl rfl rfl (qb rfl) (Ld.pure (C1) (qb rfl) rfl lq) .none (fun _=>?_);refine JD.kN ?_;refine tk 9 ?_;refine tk 10 ?_;refine JD.cF (i:=11) (j:=12) (by kernel_rfl) ?_ ?_;refine JS.q rfl rfl rfl (qb rfl) (Qt.extract rfl rfl) ?_;refine jl 12 rfl rfl rfl rfl (Ld.alloc (qb rfl)) .none (fun _=>?_);refine jt 13 rfl rfl (Ld.bu rfl rfl rfl (by exact rfl) (by exact rfl)) (fun _=>?_);refine JW.base none ?_;refine jk 14 rfl rfl rfl rfl (Qt.assign rfl) ?_;refine aX ?_
   rotate_left
   refine JS.cC rfl rfl rfl (qb rfl) (Ld.alloc (qb rfl)) .none (fun _=>?_);refine JD.cF (i:=11) (j:=13) (by kernel_rfl) ?_ ?_;refine JS.q rfl rfl rfl (qb rfl) (Qt.extract rfl rfl) ?_;refine jt 13 rfl rfl (Ld.bu rfl rfl rfl (by exact rfl) (by exact rfl)) (fun _=>?_);refine JW.base none ?_;refine jk 14 rfl rfl rfl rfl (Qt.assign rfl) ?_;refine aX ?_
   rotate_left
   (refine JS.last rfl rfl (Ld.bu rfl rfl rfl (by exact rfl) (by exact rfl)) (fun _=>?_))
   refine JW.base none ?_;refine jk 11 rfl rfl rfl rfl (Qt.extract rfl rfl) ?_;refine jk 14 rfl rfl rfl rfl (Qt.assign rfl) ?_;refine aX ?_
   rotate_left
   refine JS.cC rfl rfl rfl (qb rfl) (Ld.alloc (qb rfl)) .none (fun _=>?_);refine cz 8 (C1) ?_;refine jk 9 rfl rfl rfl rfl (Qt.move rfl) ?_;refine JD.kN ?_;refine tk 10 ?_;refine JD.cF (i:=11) (j:=13) (by kernel_rfl) ?_ ?_;refine JS.q rfl rfl rfl (qb rfl) (Qt.extract rfl rfl) ?_;refine jt 13 rfl rfl (Ld.bu rfl rfl rfl (by exact rfl) (by exact rfl)) (fun _=>?_);refine JW.base none ?_;refine jk 14 rfl rfl rfl rfl (Qt.assign rfl) ?_;refine aX ?_
   rotate_left
   (refine JS.last rfl rfl (Ld.bu rfl rfl rfl (by exact rfl) (by exact rfl)) (fun _=>?_))
   refine JW.base none ?_;refine jk 11 rfl rfl rfl rfl (Qt.extract rfl rfl) ?_;refine jk 14 rfl rfl rfl rfl (Qt.assign rfl) ?_;refine aX ?_
   rotate_left
   all_goals
    repeat (first | refine aO (cj s1 g { aa s g with k:=(aa s g).k + 1 } g2 b2) ?_ | refine gn ?_)
    exact az func122
theorem lV (s:ai) (g:Nat) (p:Int) (hg:g < s.gs.length) (hb:s.gs.length≤100000) (k0:0≤(aa s g).k) (k1:(aa s g).k≤100000) :
  Pure prog 156 [.agg (aC s),.c (nI g),.c (nI p)] (.agg (aC (Sx.next s g p))):=by
 have er:Sx.next s g p=if (aa s g).k + 1=(aa s g).order.length then ah s g { aa s g with k:=0,place:=p } else ah s g { aa s g with k:=(aa s g).k + 1 }:=rfl
 rw [er];have hk:((aa s g).k + 1 == ((aa s g).order.length:Int))=decide ((aa s g).k + 1=(aa s g).order.length):=rfl;refine aA.intro func156 rfl rfl rfl (fun ok e=>?_)
 by_cases hl:(aa s g).k + 1=(aa s g).order.length
 ·rw [if_pos hl];rw [decide_eq_true hl] at hk
  repeat (first | refine aO (cj s g { aa s g with k:=0,place:=p } hg hb) ?_ | refine au ?_ | intro _)
  exact az func156
 ·rw [if_neg hl];rw [decide_eq_false hl] at hk
  repeat (first | refine aO (cj s g { aa s g with k:=(aa s g).k + 1 } hg hb) ?_ | refine au ?_ | intro _)
  exact az func156
theorem ya (s:ai) (g:Nat) (hg:g < s.gs.length) (hb:s.gs.length≤100000) (k0:(aa s g).place=27→0≤(aa s g).k∧(aa s g).k < (aa s g).order.length) :
  Pure prog 124 [.agg (aC s),.c (nI g)] (.agg (aC (Sx.eT s g))):=by
 refine aA.intro func124 rfl rfl rfl (fun ok e=>?_)
 cases hp:((aa s g).place == 27) with
 | true =>
  have e0:(aa s g).place=27:=by simpa using hp
  have er:Sx.eT s g=ah s g { aa s g with c7:=aB (aa s g).order (aa s g).k }:=by unfold Sx.eT;simp only;rw [if_pos e0]
  rw [er];have q0:=(k0 e0).1
  repeat (first | (refine K.indexAddr ?_;refine jx rfl rfl rfl rfl (by omega) (ku (k0 e0).1 (k0 e0).2) ?_) | refine aO (cj s g { aa s g with c7:=aB (aa s g).order (aa s g).k } hg hb) ?_ | refine au ?_ | intro _)
  exact az func124
 | false =>
  have e0:¬ (aa s g).place=27:=by simpa using hp
  have er:Sx.eT s g=ah s g (aa s g):=by unfold Sx.eT;simp only;rw [if_neg e0]
  rw [er]
  repeat (first | refine aO (cj s g (aa s g) hg hb) ?_ | refine au ?_ | intro _)
  exact az func124
end Fl
end Go.Proofs.YtgjpdogjekmemaaGreat
