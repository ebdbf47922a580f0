/-
  What the laws need, part S14.
  Conditions: none.
-/
import Derived.Test.YtgjpdogjekmemaaGreatS13
set_option linter.unusedVariables false
set_option linter.unusedSimpArgs false
set_option linter.unnecessarySimpa false
set_option maxHeartbeats 2000000
namespace Go.Proofs.YtgjpdogjekmemaaGreat
open Go.RowKit
namespace Fl
open Sx Go.Proofs.Tryz
set_option maxRecDepth 100000
theorem NG (s:ah) (g:Nat) (h:kq s g) (hk:(ag s g).kind=3∨(ag s g).kind=5) (hc:(common s g).2=false) (hm:aM s (ag s g).ch=true) (e0:(aa s g).place=5) :
  Pure prog 85 [.agg (az s),.c (nI g)] (.aY [.agg (az (bF s g).1),.c (bI (bF s g).2)]):=by
 have hg:=h.co.lt;have hf:Few s:=h.fit.toAnd;have hb:=hf.1;have cW:=hf.2.1;have C0:=cU s g hg h.co.cL;have C1:=ep s g h.co;obtain ⟨k,ek,bZ⟩:∃ k,(ag s g).kind=k∧(k=3∨k=5):=⟨_,rfl,hk⟩
 have KN:∀ c,((ag s g).kind != c)=(k != c):=fun c=>by rw [ek]
 have KE:∀ c,((ag s g).kind == c)=(k == c):=fun c=>by rw [ek]
 have aV:¬ ((ag s g).kind≠3∧(ag s g).kind≠5):=by omega
 have bX:¬ (common s g).2=true:=by rw [hc];simp
 rw [hc] at C1;have CM:=dU s (ag s g).ch;have cu:¬ aM s (ag s g).ch=false:=by rw [hm];simp
 have hl:=dM hm;rw [hm] at CM;have aj:bF s g=bF s g:=rfl
 conv at aj=>rhs;unfold bF;simp only;rw [if_neg aV,if_neg bX,if_neg cu]
 have P:∀ c,((aa s g).place == c)=((5:Int) == c):=fun c=>by rw [e0]
 refine aq.intro func85 rfl rfl rfl (fun ok e=>?_);rw [ay,ay,ay] at aj;rw [if_pos e0] at aj
 cases bU:(cn s (ag s g).ch).closed with
 | true =>
  cases Ay:(((cn s (ag s g).ch).buf.length:Int) == 0) with
  | true =>
   rw [if_pos ⟨bU,by simpa using Ay⟩] at aj;rw [aj];rcases bZ with rfl | rfl
   all_goals
    repeat (first | (refine K.load ?_;refine jq rfl rfl rfl ((Qt.kE rfl (by exact rfl)).eq (congrArg (fun b=>D.c (bI b)) bU)) ?_) | refine aJ (KN _) ?_ | refine aJ (P _) ?_ | refine av ?_ | intro _)
    refine J.draw (by kernel_rfl) rfl ?_;refine JW.base (some 4) ?_;refine tk 0 ?_;refine tk 1 ?_;refine cI 2 (jE 0 false) ?_;refine cI 3 (hJ s g (dI 0 false) 16 hg hb) ?_;refine jt 4 rfl rfl (Ld.aT rfl rfl rfl (by exact rfl) (by exact rfl)) (fun _=>?_);refine JW.base none ?_;refine jk 5 rfl rfl rfl rfl (Qt.assign rfl) ?_;refine bP ?_
    repeat (fail)
    exact aA func85
  | false =>
   rw [if_neg (by intro hh;have:=hh.2;rw [this] at Ay;cases Ay),if_pos bU] at aj;rw [aj];rcases bZ with rfl | rfl
   all_goals
    repeat (first | (refine K.load ?_;refine jq rfl rfl rfl ((Qt.kE rfl (by exact rfl)).eq (congrArg (fun b=>D.c (bI b)) bU)) ?_) | refine aJ (KN _) ?_ | refine aJ (P _) ?_ | refine aI (ei s g 9 hg hb) ?_ | refine av ?_ | intro _)
    exact aA func85
 | false =>
  rw [if_neg (by rw [bU];simp),if_neg (by rw [bU];simp)] at aj;rw [aj];rcases bZ with rfl | rfl
  all_goals
   repeat (first | (refine K.load ?_;refine jq rfl rfl rfl ((Qt.kE rfl (by exact rfl)).eq (congrArg (fun b=>D.c (bI b)) bU)) ?_) | refine aJ (KN _) ?_ | refine aJ (P _) ?_ | refine aI (ei s g 6 hg hb) ?_ | refine av ?_ | intro _)
   exact aA func85
theorem NH (s:ah) (g:Nat) (h:kq s g) (hk:(ag s g).kind=3∨(ag s g).kind=5) (hc:(common s g).2=false) (hm:aM s (ag s g).ch=true) (e0:¬ ((aa s g).place=1∨(aa s g).place=2∨(aa s g).place=3∨(aa s g).place=5∨(aa s g).place=6∨(aa s g).place=7∨(aa s g).place=8∨(aa s g).place=9∨(aa s g).place=10∨(aa s g).place=11∨(aa s g).place=14)) :
  Pure prog 85 [.agg (az s),.c (nI g)] (.aY [.agg (az (bF s g).1),.c (bI (bF s g).2)]):=by
 have hg:=h.co.lt;have hf:Few s:=h.fit.toAnd;have hb:=hf.1;have cW:=hf.2.1;have C0:=cU s g hg h.co.cL;have C1:=ep s g h.co;obtain ⟨k,ek,bZ⟩:∃ k,(ag s g).kind=k∧(k=3∨k=5):=⟨_,rfl,hk⟩
 have KN:∀ c,((ag s g).kind != c)=(k != c):=fun c=>by rw [ek]
 have KE:∀ c,((ag s g).kind == c)=(k == c):=fun c=>by rw [ek]
 have aV:¬ ((ag s g).kind≠3∧(ag s g).kind≠5):=by omega
 have bX:¬ (common s g).2=true:=by rw [hc];simp
 rw [hc] at C1;have CM:=dU s (ag s g).ch;have cu:¬ aM s (ag s g).ch=false:=by rw [hm];simp
 have hl:=dM hm;rw [hm] at CM;have aj:bF s g=bF s g:=rfl
 conv at aj=>rhs;unfold bF;simp only;rw [if_neg aV,if_neg bX,if_neg cu]
 refine aq.intro func85 rfl rfl rfl (fun ok e=>?_);rw [ay,ay,ay,ay,ay,ay,ay,ay,ay,ay,ay] at aj;have P1:((aa s g).place == 1)=false:=by simp;omega
 have P2:((aa s g).place == 2)=false:=by simp;omega
 have P3:((aa s g).place == 3)=false:=by simp;omega
 have P5:((aa s g).place == 5)=false:=by simp;omega
 have P6:((aa s g).place == 6)=false:=by simp;omega
 have P7:((aa s g).place == 7)=false:=by simp;omega
 have P8:((aa s g).place == 8)=false:=by simp;omega
 have P9:((aa s g).place == 9)=false:=by simp;omega
 have Nt:((aa s g).place == 10)=false:=by simp;omega
 have Nu:((aa s g).place == 11)=false:=by simp;omega
 have Fo:((aa s g).place == 14)=false:=by simp;omega
 rw [aj];rcases bZ with rfl | rfl
 all_goals
  repeat (first | refine aJ (KN _) ?_ | refine av ?_ | intro _)
  exact aA func85
end Fl
open Go.RowKit
namespace Fl
open Sx Go.Proofs.Tryz
set_option maxRecDepth 100000
theorem Fit.dK {s:ah} (h:Fit s) (c:Int) (x:Cn) (hr:x.recv.length≤50000) (hs:x.send.length≤50000) (hu:x.buf.length≤50000):Fit (aF s c x):=by
 have hf:Few s:=h.toAnd;have qT:Few (aF s c x):=hf.of rfl (MN _ _ _) rfl;have hc:∀ ch,(cn (aF s c x) ch).recv.length≤50000∧(cn (aF s c x) ch).send.length≤50000∧(cn (aF s c x) ch).buf.length≤50000:=fun ch=>by
  rcases Fi s c x ch with e | e
  ·rw [e];exact ⟨hr,hs,hu⟩
  ·rw [e];exact ⟨h.rv ch,h.sd ch,h.bf ch⟩
 exact ⟨qT,h.wk,fun ch=>(hc ch).1,fun ch=>(hc ch).2.1,fun ch=>(hc ch).2.2,h.od,h.sg,h.dn,h.ca,h.cl,h.md⟩
theorem NI (l:List Int) (r v:Int):(fM l r v).1.length=l.length:=by
 unfold fM
 split
 ·rfl
 ·rename_i hn;have:l.length≠0:=fun e=>hn (.inr e)
  simp;omega
theorem Fit.hand {s:ah} (h:Fit s) (ch i:Int):Fit (Sx.hand s ch i).1:=by
 unfold Sx.hand;simp only
 split
 ·exact h
 ·exact h.dK _ _ (h.rv _) (h.sd _) (by rw [NI];exact h.bf _)
theorem xw (s:ah) (ch i:Int):(Sx.hand s ch i).1.gs=s.gs:=by unfold Sx.hand;simp only;split <;> rfl
theorem Fq (s:ah) (ch i:Int):(Sx.hand s ch i).1.aD=s.aD:=by unfold Sx.hand;simp only;split <;> rfl
theorem Fs (s:ah) (i ch:Int):aM (bE s i) ch=aM s ch:=by unfold aM;rw [Au]
theorem NJ (s:ah) (g:Nat) (h:kq s g) (hk:(ag s g).kind=3∨(ag s g).kind=5) (hc:(common s g).2=false) (hm:aM s (ag s g).ch=true) (e0:(aa s g).place=8) :
  Pure prog 85 [.agg (az s),.c (nI g)] (.aY [.agg (az (bF s g).1),.c (bI (bF s g).2)]):=by
 have hg:=h.co.lt;have hf:Few s:=h.fit.toAnd;have hb:=hf.1;have cW:=hf.2.1;have C0:=cU s g hg h.co.cL;have C1:=ep s g h.co;obtain ⟨k,ek,bZ⟩:∃ k,(ag s g).kind=k∧(k=3∨k=5):=⟨_,rfl,hk⟩
 have KN:∀ c,((ag s g).kind != c)=(k != c):=fun c=>by rw [ek]
 have KE:∀ c,((ag s g).kind == c)=(k == c):=fun c=>by rw [ek]
 have aV:¬ ((ag s g).kind≠3∧(ag s g).kind≠5):=by omega
 have bX:¬ (common s g).2=true:=by rw [hc];simp
 rw [hc] at C1;have CM:=dU s (ag s g).ch;have cu:¬ aM s (ag s g).ch=false:=by rw [hm];simp
 have hl:=dM hm;rw [hm] at CM;have aj:bF s g=bF s g:=rfl
 conv at aj=>rhs;unfold bF;simp only;rw [if_neg aV,if_neg bX,if_neg cu]
 have P:∀ c,((aa s g).place == c)=((8:Int) == c):=fun c=>by rw [e0]
 refine aq.intro func85 rfl rfl rfl (fun ok e=>?_);rw [ay,ay,ay,ay,ay,ay] at aj;rw [if_pos e0] at aj;have hi:=h.l8 e0;obtain ⟨eP,dz,de,gN⟩:=id hi;have D1:=pW s (aa s g).hold eP dz (Nat.le_trans (h.fit.rv _) (by omega)) (Nat.le_trans (h.fit.sd _) (by omega)) cW;have k1:cV (bE s (aa s g).hold) (aa s g).hold:=hi.of (qS _ _) (by rw [fC]);have f1:=h.fit.drop (aa s g).hold;have g1:g < (bE s (aa s g).hold).gs.length:=by rw [fC];exact hg
 have m1:aM (bE s (aa s g).hold) (ag s g).ch=true:=by rw [Fs];exact hm
 rw [aj];clear aj;generalize bE s (aa s g).hold=s1 at *;have D2:=Fp s1 (ag s g).ch (aa s g).hold m1 f1.1.2.1 k1.1 k1.2.1 (f1.bf _);have k2:cV (Sx.hand s1 (ag s g).ch (aa s g).hold).1 (aa s g).hold:=k1.of (Fq _ _ _) (by rw [xw]);have f2:=f1.hand (ag s g).ch (aa s g).hold;have g2:g < (Sx.hand s1 (ag s g).ch (aa s g).hold).1.gs.length:=by rw [xw];exact g1
 generalize Sx.hand s1 (ag s g).ch (aa s g).hold=n at *;have D3:=vi n.1 g (aa s g).hold true g2 k2 f2;have g3:g < (Sx.serve n.1 g (aa s g).hold true).gs.length:=by rw [oP];exact g2
 have b3:(Sx.serve n.1 g (aa s g).hold true).gs.length≤100000:=by rw [oP];exact f2.1.1
 generalize Sx.serve n.1 g (aa s g).hold true=s3 at *;have D4:=cA s3 g { aa s3 g with res:=dI n.2 true,place:=16 } g3 b3;rcases bZ with rfl | rfl
 all_goals
  repeat (first | refine aJ (KN _) ?_ | refine aJ (P _) ?_ | refine av ?_ | intro _)
  refine J.draw (by kernel_rfl) rfl ?_;refine JW.base (some 13) ?_;refine tk 0 ?_;refine tk 1 ?_;refine tk 2 ?_;refine tk 4 ?_;refine tk 5 ?_;refine tk 6 ?_;refine tk 7 ?_;refine JD.cy (i:=3) (j:=12) (by kernel_rfl) ?_ ?_;refine JS.bt rfl rfl rfl (qb rfl) (Ld.pure (D1) (qb rfl) rfl lq) .none (fun _=>?_);refine JD.cy (i:=8) (j:=12) (by kernel_rfl) ?_ ?_;refine JS.bt rfl rfl rfl (qb rfl) (Ld.pure (D2) (qb rfl) rfl lq) .none (fun _=>?_);refine JD.jN ?_;refine tk 9 ?_;refine tk 10 ?_;refine JD.cy (i:=11) (j:=12) (by kernel_rfl) ?_ ?_;refine JS.q rfl rfl rfl (qb rfl) (Qt.extract rfl rfl) ?_;refine jl 12 rfl rfl rfl rfl (Ld.alloc (qb rfl)) .none (fun _=>?_);refine jt 13 rfl rfl (Ld.aT rfl rfl rfl (by exact rfl) (by exact rfl)) (fun _=>?_);refine JW.base none ?_;refine jk 14 rfl rfl rfl rfl (Qt.assign rfl) ?_;refine bP ?_
  rotate_left
  refine JS.bt rfl rfl rfl (qb rfl) (Ld.alloc (qb rfl)) .none (fun _=>?_);refine JD.cy (i:=11) (j:=13) (by kernel_rfl) ?_ ?_;refine JS.q rfl rfl rfl (qb rfl) (Qt.extract rfl rfl) ?_;refine jt 13 rfl rfl (Ld.aT rfl rfl rfl (by exact rfl) (by exact rfl)) (fun _=>?_);refine JW.base none ?_;refine jk 14 rfl rfl rfl rfl (Qt.assign rfl) ?_;refine bP ?_
  rotate_left
  (refine JS.last rfl rfl (Ld.aT rfl rfl rfl (by exact rfl) (by exact rfl)) (fun _=>?_))
  refine JW.base none ?_;refine jk 11 rfl rfl rfl rfl (Qt.extract rfl rfl) ?_;refine jk 14 rfl rfl rfl rfl (Qt.assign rfl) ?_;refine bP ?_
  rotate_left
  refine JS.bt rfl rfl rfl (qb rfl) (Ld.alloc (qb rfl)) .none (fun _=>?_);refine cI 8 (D2) ?_;refine jk 9 rfl rfl rfl rfl (Qt.move rfl) ?_;refine JD.jN ?_;refine tk 10 ?_;refine JD.cy (i:=11) (j:=13) (by kernel_rfl) ?_ ?_;refine JS.q rfl rfl rfl (qb rfl) (Qt.extract rfl rfl) ?_;refine jt 13 rfl rfl (Ld.aT rfl rfl rfl (by exact rfl) (by exact rfl)) (fun _=>?_);refine JW.base none ?_;refine jk 14 rfl rfl rfl rfl (Qt.assign rfl) ?_;refine bP ?_
  rotate_left
  (refine JS.last rfl rfl (Ld.aT rfl rfl rfl (by exact rfl) (by exact rfl)) (fun _=>?_))
  refine JW.base none ?_;refine jk 11 rfl rfl rfl rfl (Qt.extract rfl rfl) ?_;refine jk 14 rfl rfl rfl rfl (Qt.assign rfl) ?_;refine bP ?_
  rotate_left
  refine JS.bt rfl rfl rfl (qb rfl) (Ld.alloc (qb rfl)) .none (fun _=>?_);refine cI 3 (D1) ?_;refine cI 8 (D2) ?_;refine jk 9 rfl rfl rfl rfl (Qt.move rfl) ?_;refine JD.jN ?_;refine tk 10 ?_;refine JD.cy (i:=11) (j:=13) (by kernel_rfl) ?_ ?_;refine JS.q rfl rfl rfl (qb rfl) (Qt.extract rfl rfl) ?_;refine jt 13 rfl rfl (Ld.aT rfl rfl rfl (by exact rfl) (by exact rfl)) (fun _=>?_);refine JW.base none ?_;refine jk 14 rfl rfl rfl rfl (Qt.assign rfl) ?_;refine bP ?_
  rotate_left
  (refine JS.last rfl rfl (Ld.aT rfl rfl rfl (by exact rfl) (by exact rfl)) (fun _=>?_))
  refine JW.base none ?_;refine jk 11 rfl rfl rfl rfl (Qt.extract rfl rfl) ?_;refine jk 14 rfl rfl rfl rfl (Qt.assign rfl) ?_;refine bP ?_
  rotate_left
  all_goals
   repeat (first | refine aI (jE n.2 true) ?_ | refine av ?_ | intro _)
   exact aA func85
theorem NK (s:ah) (g:Nat) (h:kq s g) :
  Pure prog 85 [.agg (az s),.c (nI g)] (.aY [.agg (az (bF s g).1),.c (bI (bF s g).2)]):=by
 have hg:=h.co.lt;have C0:=cU s g hg h.co.cL;have C1:=ep s g h.co
 by_cases hk:(ag s g).kind=3∨(ag s g).kind=5
 case neg =>
  refine aq.intro func85 rfl rfl rfl (fun ok e=>?_);have K2:((ag s g).kind != 3)=true:=by simp;omega
  have K4:((ag s g).kind != 5)=true:=by simp;omega
  have er:bF s g=(s,false):=by unfold bF;simp only;rw [if_pos (by omega)]
  rw [er]
  repeat (first | refine av ?_ | intro _)
  exact aA func85
 case pos =>
 have aV:¬ ((ag s g).kind≠3∧(ag s g).kind≠5):=by omega
 cases hc:(common s g).2 with
 | true =>
  obtain ⟨k,ek,bZ⟩:∃ k,(ag s g).kind=k∧(k=3∨k=5):=⟨_,rfl,hk⟩
  have KN:∀ c,((ag s g).kind != c)=(k != c):=fun c=>by rw [ek]
  refine aq.intro func85 rfl rfl rfl (fun ok e=>?_);have er:bF s g=((common s g).1,true):=by unfold bF;simp only;rw [if_neg aV,if_pos hc]
  rw [er];rw [hc] at C1;rcases bZ with rfl | rfl
  all_goals
   repeat (first | refine aJ (KN _) ?_ | refine av ?_ | intro _)
   exact aA func85
 | false =>
 cases hm:aM s (ag s g).ch with
 | false =>
  have CM:=dU s (ag s g).ch;have bX:¬ (common s g).2=true:=by rw [hc];simp
  obtain ⟨k,ek,bZ⟩:∃ k,(ag s g).kind=k∧(k=3∨k=5):=⟨_,rfl,hk⟩
  have KN:∀ c,((ag s g).kind != c)=(k != c):=fun c=>by rw [ek]
  refine aq.intro func85 rfl rfl rfl (fun ok e=>?_);have er:bF s g=(s,false):=by unfold bF;simp only;rw [if_neg aV,if_neg bX,if_pos hm]
  rw [er];rw [hc] at C1;rw [hm] at CM;rcases bZ with rfl | rfl
  all_goals
   repeat (first | refine aJ (KN _) ?_ | refine av ?_ | intro _)
   exact aA func85
 | true =>
  by_cases e1:(aa s g).place=1
  ·exact Nw s g h hk hc hm e1
  by_cases e2:(aa s g).place=2
  ·exact Nx s g h hk hc hm e2
  by_cases e3:(aa s g).place=3
  ·exact Ny s g h hk hc hm e3
  by_cases e5:(aa s g).place=5
  ·exact NG s g h hk hc hm e5
  by_cases e6:(aa s g).place=6
  ·exact Nz s g h hk hc hm e6
  by_cases e7:(aa s g).place=7
  ·exact NA s g h hk hc hm e7
  by_cases e8:(aa s g).place=8
  ·exact NJ s g h hk hc hm e8
  by_cases e9:(aa s g).place=9
  ·exact NB s g h hk hc hm e9
  by_cases kS:(aa s g).place=10
  ·exact NC s g h hk hc hm kS
  by_cases jU:(aa s g).place=11
  ·exact ND s g h hk hc hm jU
  by_cases iC:(aa s g).place=14
  ·exact NF s g h hk hc hm iC
  exact NH s g h hk hc hm (by omega)
end Fl
open Go.RowKit
namespace Fl
open Sx Go.Proofs.Tryz
set_option maxRecDepth 100000
structure Az (x:Gr):Prop where
 wk:x.an.length≤50000
 od:x.order.length≤50000
 sg:x.au.length≤50000
theorem xx (s:ah) (o:Nat) (x:Gr) (g:Nat):aa (ai s o x) g=x∨aa (ai s o x) g=aa s g:=by
 unfold aa ai;simp only [List.getD_eq_getElem?_getD,List.getElem?_set]
 split
 ·split
  ·exact .inl rfl
  ·rename_i h1 h2;rw [← h1,List.getElem?_eq_none (by omega)];exact .inr rfl
 ·exact .inr rfl
theorem Fit.gr {s:ah} (h:Fit s) (g:Nat):Az (aa s g):=⟨h.wk g,h.od g,h.sg g⟩
theorem Fit.fJ {s:ah} (h:Fit s) (o:Nat) (x:Gr) (hx:Az x):Fit (ai s o x):=by
 have hf:Few s:=h.toAnd;have qT:Few (ai s o x):=hf.of (bQ _ _ _) rfl rfl;have hg:∀ g,Az (aa (ai s o x) g):=fun g=>by
  rcases xx s o x g with e | e
  ·rw [e];exact hx
  ·rw [e];exact h.gr g
 exact ⟨qT,fun g=>(hg g).wk,h.rv,h.sd,h.bf,fun g=>(hg g).od,fun g=>(hg g).sg,h.dn,h.ca,h.cl,h.md⟩
theorem AA (s:ah) (g:Nat) (hg:g < s.gs.length) (hi:cV s (aa s g).hold) (hb:Fit s) :
  Pure prog 121 [.agg (az s),.c (nI g)] (.agg (az (gO s g))):=by
 obtain ⟨eP,dz,de,gN⟩:=id hi;have hf:Few s:=hb.toAnd;have D1:=cA s g { aa s g with t:=s.step } hg hf.1;have f1:=hb.fJ g { aa s g with t:=s.step } ⟨hb.wk g,hb.od g,hb.sg g⟩;have k1:cV (ai s g { aa s g with t:=s.step }) (aa s g).hold:=hi.of rfl (bQ _ _ _);have g1:g < (ai s g { aa s g with t:=s.step }).gs.length:=by rw [bQ];exact hg
 have D2:=pW (ai s g { aa s g with t:=s.step }) (aa s g).hold k1.1 k1.2.1 (Nat.le_trans (f1.rv _) (by omega)) (Nat.le_trans (f1.sd _) (by omega)) f1.1.2.1;have k2:cV (bE (ai s g { aa s g with t:=s.step }) (aa s g).hold) (aa s g).hold:=k1.of (qS _ _) (by rw [fC]);have f2:=f1.drop (aa s g).hold;have g2:g < (bE (ai s g { aa s g with t:=s.step }) (aa s g).hold).gs.length:=by rw [fC];exact g1
 have er:gO s g=Sx.serve (ai (bE (ai s g { aa s g with t:=s.step }) (aa s g).hold) (su (bE (ai s g { aa s g with t:=s.step }) (aa s g).hold) (aa s g).hold).g.toNat { aa (bE (ai s g { aa s g with t:=s.step }) (aa s g).hold) (su (bE (ai s g { aa s g with t:=s.step }) (aa s g).hold) (aa s g).hold).g.toNat with cz:=(aa (bE (ai s g { aa s g with t:=s.step }) (aa s g).hold) g).t,dc:=(su (bE (ai s g { aa s g with t:=s.step }) (aa s g).hold) (aa s g).hold).cs }) g (aa s g).hold false:=rfl;rw [er];clear er;generalize ai s g { aa s g with t:=s.step }=s1 at *;generalize bE s1 (aa s g).hold=s2 at *;have D3:=ve s2 (su s2 (aa s g).hold).g { aa s2 (su s2 (aa s g).hold).g.toNat with cz:=(aa s2 g).t,dc:=(su s2 (aa s g).hold).cs } k2.2.2.1 k2.2.2.2 f2.1.1;have f3:=f2.fJ (su s2 (aa s g).hold).g.toNat { aa s2 (su s2 (aa s g).hold).g.toNat with cz:=(aa s2 g).t,dc:=(su s2 (aa s g).hold).cs } ⟨f2.wk _,f2.od _,f2.sg _⟩;have k3:cV (ai s2 (su s2 (aa s g).hold).g.toNat { aa s2 (su s2 (aa s g).hold).g.toNat with cz:=(aa s2 g).t,dc:=(su s2 (aa s g).hold).cs }) (aa s g).hold:=k2.of rfl (bQ _ _ _);have D4:=vi _ g (aa s g).hold false (by rw [bQ];exact g2) k3 f3;have q0:=k2.2.2.1;have q1:=k2.gr;refine aq.intro func121 rfl rfl rfl (fun ok e=>?_)
 repeat (first | (refine K.indexAddr ?_;first | refine jx rfl rfl rfl rfl (by omega) (gL hg) ?_ | refine jx rfl rfl rfl rfl (by omega) (gL g2) ?_ | refine jx rfl rfl rfl rfl (by omega) (fZ k2.1 k2.2.1) ?_ | refine jx rfl rfl rfl rfl (by omega) (q1) ?_) | refine aI (D1) ?_ | refine aI (D2) ?_ | refine aI (D3) ?_ | refine aI (D4) ?_ | refine av ?_ | intro _)
 exact aA func121
end Fl
open Go.RowKit
namespace Fl
open Sx Go.Proofs.Tryz
set_option maxRecDepth 100000
structure sM (s:ah) (g:Nat):Prop where
 co:sJ s g
 fit:Fit s
 Ft:(aa s g).place=22→(∀ i l,(cn s (ag s g).ch).recv=i :: l→cV s i)∧(∀ i l,(cn s (ag s g).ch).send=i :: l→cV s i)
 NL:(aa s g).place=23→cV s (aa s g).hold
theorem Fu {s:ah} {g:Nat} {x:Gr} (h:g < s.gs.length):aa (ai s g x) g=x:=by
 unfold aa ai;simp [h]
theorem NM {s:ah} {o g:Nat} {x:Gr} (e:x.hold=(aa s o).hold):(aa (ai s o x) g).hold=(aa s g).hold:=by
 by_cases h:o=g
 ·subst h;rcases xx s o x o with e1 | e1
  ·rw [e1,e]
  ·rw [e1]
 ·have:aa (ai s o x) g=aa s g:=by
   unfold aa ai;simp only [List.getD_eq_getElem?_getD,List.getElem?_set];rw [if_neg h]
  rw [this]
theorem Fv (s:ah) (g:Nat):(gO s g).gs.length=s.gs.length:=by
 unfold gO;simp only [oP,bQ,fC]
theorem NN (s:ah) (g:Nat) (h:sM s g) (hk:(ag s g).kind=6) (hc:(common s g).2=false) (hm:aM s (ag s g).ch=true) (e0:(aa s g).place=21) :
  Pure prog 86 [.agg (az s),.c (nI g)] (.aY [.agg (az (dh s g).1),.c (bI (dh s g).2)]):=by
 have hg:=h.co.lt;have hf:Few s:=h.fit.toAnd;have hb:=hf.1;have cW:=hf.2.1;have C0:=cU s g hg h.co.cL;have C1:=ep s g h.co;have K6:((ag s g).kind != 6)=false:=by rw [hk];rfl
 have aV:¬ ((ag s g).kind≠6):=by omega
 have bX:¬ (common s g).2=true:=by rw [hc];simp
 rw [hc] at C1;have CM:=dU s (ag s g).ch;have cu:¬ aM s (ag s g).ch=false:=by rw [hm];simp
 have hl:=dM hm;rw [hm] at CM;have aj:dh s g=dh s g:=rfl
 conv at aj=>rhs;unfold dh;simp only;rw [if_neg aV,if_neg bX,if_neg cu]
 have P:∀ c,((aa s g).place == c)=((21:Int) == c):=fun c=>by rw [e0]
 refine aq.intro func86 rfl rfl rfl (fun ok e=>?_);rw [if_pos e0] at aj
 cases bU:(cn s (ag s g).ch).closed with
 | true =>
  rw [if_pos bU] at aj;rw [aj]
  repeat (first | refine J.fI (congrArg (fun b=>some (D.c (bI b))) bU) ?_ | refine aJ (P _) ?_ | refine aI (hJ s g (Sx.res 4) 16 hg hb) ?_ | refine av ?_ | intro _)
  exact aA func86
 | false =>
  rw [if_neg (by rw [bU];simp)] at aj;rw [aj]
  repeat (first | refine J.eW (congrArg (fun b=>some (D.c (bI b))) bU) ?_ | refine aJ (P _) ?_ | refine aI (kT s (ag s g).ch { (cn s (ag s g).ch) with closed:=true } hm cW) ?_ | refine aI (hJ (aF s (ag s g).ch { (cn s (ag s g).ch) with closed:=true }) g me 22 hg hb) ?_ | refine av ?_ | intro _)
  exact aA func86
theorem NO (s:ah) (g:Nat) (h:sM s g) (hk:(ag s g).kind=6) (hc:(common s g).2=false) (hm:aM s (ag s g).ch=true) (e0:(aa s g).place=22) :
  Pure prog 86 [.agg (az s),.c (nI g)] (.aY [.agg (az (dh s g).1),.c (bI (dh s g).2)]):=by
 have hg:=h.co.lt;have hf:Few s:=h.fit.toAnd;have hb:=hf.1;have cW:=hf.2.1;have C0:=cU s g hg h.co.cL;have C1:=ep s g h.co;have K6:((ag s g).kind != 6)=false:=by rw [hk];rfl
 have aV:¬ ((ag s g).kind≠6):=by omega
 have bX:¬ (common s g).2=true:=by rw [hc];simp
 rw [hc] at C1;have CM:=dU s (ag s g).ch;have cu:¬ aM s (ag s g).ch=false:=by rw [hm];simp
 have hl:=dM hm;rw [hm] at CM;have aj:dh s g=dh s g:=rfl
 conv at aj=>rhs;unfold dh;simp only;rw [if_neg aV,if_neg bX,if_neg cu]
 have P:∀ c,((aa s g).place == c)=((22:Int) == c):=fun c=>by rw [e0]
 refine aq.intro func86 rfl rfl rfl (fun ok e=>?_);rw [ay] at aj;rw [if_pos e0] at aj
 cases hr:(cn s (ag s g).ch).recv with
 | cons a l =>
  have hz:(decide (((cn s (ag s g).ch).recv.length:Int) > 0))=true:=by rw [hr];simp
  have w0:((cn s (ag s g).ch).recv.map fun n=>[nI n])[(0:Int).toNat]?=some [nI a]:=by rw [hr];rfl
  rw [if_pos (by rw [hr];simp),hr] at aj;dsimp only [List.headD_cons] at aj;have k0:cV s a:=(h.Ft e0).1 a l hr;have k1:cV (ai s g { aa s g with hold:=a }) a:=k0.of rfl (bQ _ _ _);have g1:g < (ai s g { aa s g with hold:=a }).gs.length:=by rw [bQ];exact hg
  have f1:=h.fit.fJ g { aa s g with hold:=a } ⟨h.fit.wk g,h.fit.od g,h.fit.sg g⟩;have hh:(aa (ai s g { aa s g with hold:=a }) g).hold=a:=by rw [Fu hg]
  have D1:=cA s g { aa s g with hold:=a } hg hb;have D2:=ei (ai s g { aa s g with hold:=a }) g 23 g1 f1.1.1;have D3:=AA (ai s g { aa s g with hold:=a }) g g1 (by rw [hh];exact k1) f1;have pZ:j9 s g a=if 0≤(su (ai s g { aa s g with hold:=a }) a).cs then aO (ai s g { aa s g with hold:=a }) g 23 else gO (ai s g { aa s g with hold:=a }) g:=rfl
  rw [pZ] at aj;clear pZ hh;generalize ai s g { aa s g with hold:=a }=s1 at *;have q0:=k1.1
  cases kz:decide ((su s1 a).cs ≥ 0) with
  | true =>
   rw [if_pos (by simpa using kz)] at aj;rw [aj]
   repeat (first | (refine K.indexAddr ?_;refine jx rfl rfl rfl rfl (by omega) (fZ k1.1 k1.2.1) ?_) | refine aJ (P _) ?_ | refine av ?_ | intro _)
   exact aA func86
  | false =>
   rw [if_neg (by simpa using kz)] at aj;rw [aj]
   repeat (first | (refine K.indexAddr ?_;refine jx rfl rfl rfl rfl (by omega) (fZ k1.1 k1.2.1) ?_) | refine aJ (P _) ?_ | refine av ?_ | intro _)
   exact aA func86
 | nil =>
  have hz:(decide (((cn s (ag s g).ch).recv.length:Int) > 0))=false:=by rw [hr];rfl
  rw [if_neg (by rw [hr];simp)] at aj
  cases hs:(cn s (ag s g).ch).send with
  | cons a l =>
   have hy:(decide (((cn s (ag s g).ch).send.length:Int) > 0))=true:=by rw [hs];simp
   have w0:((cn s (ag s g).ch).send.map fun n=>[nI n])[(0:Int).toNat]?=some [nI a]:=by rw [hs];rfl
   rw [if_pos (by rw [hs];simp),hs] at aj;dsimp only [List.headD_cons] at aj;have k0:cV s a:=(h.Ft e0).2 a l hs;have k1:cV (ai s g { aa s g with hold:=a }) a:=k0.of rfl (bQ _ _ _);have g1:g < (ai s g { aa s g with hold:=a }).gs.length:=by rw [bQ];exact hg
   have f1:=h.fit.fJ g { aa s g with hold:=a } ⟨h.fit.wk g,h.fit.od g,h.fit.sg g⟩;have hh:(aa (ai s g { aa s g with hold:=a }) g).hold=a:=by rw [Fu hg]
   have D1:=cA s g { aa s g with hold:=a } hg hb;have D2:=ei (ai s g { aa s g with hold:=a }) g 23 g1 f1.1.1;have D3:=AA (ai s g { aa s g with hold:=a }) g g1 (by rw [hh];exact k1) f1;have pZ:j9 s g a=if 0≤(su (ai s g { aa s g with hold:=a }) a).cs then aO (ai s g { aa s g with hold:=a }) g 23 else gO (ai s g { aa s g with hold:=a }) g:=rfl
   rw [pZ] at aj;clear pZ hh;generalize ai s g { aa s g with hold:=a }=s1 at *;have q0:=k1.1
   cases kz:decide ((su s1 a).cs ≥ 0) with
   | true =>
    rw [if_pos (by simpa using kz)] at aj;rw [aj]
    repeat (first | (refine K.indexAddr ?_;refine jx rfl rfl rfl rfl (by omega) (fZ k1.1 k1.2.1) ?_) | refine aJ (P _) ?_ | refine av ?_ | intro _)
    exact aA func86
   | false =>
    rw [if_neg (by simpa using kz)] at aj;rw [aj]
    repeat (first | (refine K.indexAddr ?_;refine jx rfl rfl rfl rfl (by omega) (fZ k1.1 k1.2.1) ?_) | refine aJ (P _) ?_ | refine av ?_ | intro _)
    exact aA func86
  | nil =>
   have hy:(decide (((cn s (ag s g).ch).send.length:Int) > 0))=false:=by rw [hs];rfl
   rw [if_neg (by rw [hs];simp)] at aj;rw [aj]
   repeat (first | refine aJ (P _) ?_ | refine aI (ei s g 16 hg hb) ?_ | refine av ?_ | intro _)
   exact aA func86
theorem NP (s:ah) (g:Nat) (h:sM s g) (hk:(ag s g).kind=6) (hc:(common s g).2=false) (hm:aM s (ag s g).ch=true) (e0:(aa s g).place=23) :
  Pure prog 86 [.agg (az s),.c (nI g)] (.aY [.agg (az (dh s g).1),.c (bI (dh s g).2)]):=by
 have hg:=h.co.lt;have hf:Few s:=h.fit.toAnd;have hb:=hf.1;have cW:=hf.2.1;have C0:=cU s g hg h.co.cL;have C1:=ep s g h.co;have K6:((ag s g).kind != 6)=false:=by rw [hk];rfl
 have aV:¬ ((ag s g).kind≠6):=by omega
 have bX:¬ (common s g).2=true:=by rw [hc];simp
 rw [hc] at C1;have CM:=dU s (ag s g).ch;have cu:¬ aM s (ag s g).ch=false:=by rw [hm];simp
 have hl:=dM hm;rw [hm] at CM;have aj:dh s g=dh s g:=rfl
 conv at aj=>rhs;unfold dh;simp only;rw [if_neg aV,if_neg bX,if_neg cu]
 have P:∀ c,((aa s g).place == c)=((23:Int) == c):=fun c=>by rw [e0]
 refine aq.intro func86 rfl rfl rfl (fun ok e=>?_);rw [ay,ay] at aj;rw [if_pos e0] at aj;have hi:=h.NL e0;obtain ⟨eP,dz,de,gN⟩:=id hi;have Nh:=hi.gr;have pZ:kZ s g=if (aa s (su s (aa s g).hold).g.toNat).bp=true then ai (bE s (aa s g).hold) g { aa s g with hold:=-1,place:=22 } else aO (gO (ai s (su s (aa s g).hold).g.toNat { aa s (su s (aa s g).hold).g.toNat with bp:=true }) g) g 22:=rfl
 rw [pZ] at aj;clear pZ
 cases hp:(aa s (su s (aa s g).hold).g.toNat).bp with
 | true =>
  rw [if_pos hp] at aj;have D1:=pW s (aa s g).hold eP dz (Nat.le_trans (h.fit.rv _) (by omega)) (Nat.le_trans (h.fit.sd _) (by omega)) cW;have D2:=cA (bE s (aa s g).hold) g { aa s g with hold:=-1,place:=22 } (by rw [fC];exact hg) (by rw [fC];exact hb);rw [aj]
  repeat (first | refine J.fI (congrArg (fun b=>some (D.c (bI b))) hp) ?_ | (refine K.indexAddr ?_;refine jx rfl rfl rfl rfl (by omega) (fZ eP dz) ?_) | refine aJ (P _) ?_ | refine av ?_ | intro _)
  exact aA func86
 | false =>
  rw [if_neg (by rw [hp];simp)] at aj;have D1:=ve s (su s (aa s g).hold).g { aa s (su s (aa s g).hold).g.toNat with bp:=true } de gN hb;have f1:=h.fit.fJ (su s (aa s g).hold).g.toNat { aa s (su s (aa s g).hold).g.toNat with bp:=true } ⟨h.fit.wk _,h.fit.od _,h.fit.sg _⟩;have k1:cV (ai s (su s (aa s g).hold).g.toNat { aa s (su s (aa s g).hold).g.toNat with bp:=true }) (aa s g).hold:=hi.of rfl (bQ _ _ _);have g1:g < (ai s (su s (aa s g).hold).g.toNat { aa s (su s (aa s g).hold).g.toNat with bp:=true }).gs.length:=by rw [bQ];exact hg
  have hh:(aa (ai s (su s (aa s g).hold).g.toNat { aa s (su s (aa s g).hold).g.toNat with bp:=true }) g).hold=(aa s g).hold:=NM rfl;have D2:=AA _ g g1 (by rw [hh];exact k1) f1;generalize ai s (su s (aa s g).hold).g.toNat { aa s (su s (aa s g).hold).g.toNat with bp:=true }=s1 at *;have D3:=ei (gO s1 g) g 22 (by rw [Fv];exact g1) (by rw [Fv];exact f1.1.1);rw [aj]
  repeat (first | refine J.eW (congrArg (fun b=>some (D.c (bI b))) hp) ?_ | (refine K.indexAddr ?_;refine jx rfl rfl rfl rfl (by omega) (fZ eP dz) ?_) | refine aJ (P _) ?_ | refine av ?_ | intro _)
  exact aA func86
theorem NQ (s:ah) (g:Nat) (h:sM s g) (hk:(ag s g).kind=6) (hc:(common s g).2=false) (hm:aM s (ag s g).ch=true) (e0:¬ ((aa s g).place=21∨(aa s g).place=22∨(aa s g).place=23)) :
  Pure prog 86 [.agg (az s),.c (nI g)] (.aY [.agg (az (dh s g).1),.c (bI (dh s g).2)]):=by
 have hg:=h.co.lt;have hf:Few s:=h.fit.toAnd;have hb:=hf.1;have cW:=hf.2.1;have C0:=cU s g hg h.co.cL;have C1:=ep s g h.co;have K6:((ag s g).kind != 6)=false:=by rw [hk];rfl
 have aV:¬ ((ag s g).kind≠6):=by omega
 have bX:¬ (common s g).2=true:=by rw [hc];simp
 rw [hc] at C1;have CM:=dU s (ag s g).ch;have cu:¬ aM s (ag s g).ch=false:=by rw [hm];simp
 have hl:=dM hm;rw [hm] at CM;have aj:dh s g=dh s g:=rfl
 conv at aj=>rhs;unfold dh;simp only;rw [if_neg aV,if_neg bX,if_neg cu]
 refine aq.intro func86 rfl rfl rfl (fun ok e=>?_);rw [ay,ay,ay] at aj;have Q2:((aa s g).place == 21)=false:=by simp;omega
 have Q3:((aa s g).place == 22)=false:=by simp;omega
 have Q4:((aa s g).place == 23)=false:=by simp;omega
 rw [aj]
 repeat (first | refine av ?_ | intro _)
 exact aA func86
theorem NR (s:ah) (g:Nat) (h:sM s g) :
  Pure prog 86 [.agg (az s),.c (nI g)] (.aY [.agg (az (dh s g).1),.c (bI (dh s g).2)]):=by
 have hg:=h.co.lt;have C0:=cU s g hg h.co.cL;have C1:=ep s g h.co
 by_cases hk:(ag s g).kind=6
 case neg =>
  refine aq.intro func86 rfl rfl rfl (fun ok e=>?_);have K6:((ag s g).kind != 6)=true:=by simp;omega
  have er:dh s g=(s,false):=by unfold dh;simp only;rw [if_pos (by omega)]
  rw [er]
  repeat (first | refine av ?_ | intro _)
  exact aA func86
 case pos =>
 have aV:¬ ((ag s g).kind≠6):=by omega
 have K6:((ag s g).kind != 6)=false:=by rw [hk];rfl
 cases hc:(common s g).2 with
 | true =>
  refine aq.intro func86 rfl rfl rfl (fun ok e=>?_);have er:dh s g=((common s g).1,true):=by unfold dh;simp only;rw [if_neg aV,if_pos hc]
  rw [er];rw [hc] at C1
  repeat (first | refine av ?_ | intro _)
  exact aA func86
 | false =>
 cases hm:aM s (ag s g).ch with
 | false =>
  have CM:=dU s (ag s g).ch;have bX:¬ (common s g).2=true:=by rw [hc];simp
  refine aq.intro func86 rfl rfl rfl (fun ok e=>?_);have er:dh s g=(s,false):=by unfold dh;simp only;rw [if_neg aV,if_neg bX,if_pos hm]
  rw [er];rw [hc] at C1;rw [hm] at CM
  repeat (first | refine av ?_ | intro _)
  exact aA func86
 | true =>
  by_cases NS:(aa s g).place=21
  ·exact NN s g h hk hc hm NS
  by_cases NT:(aa s g).place=22
  ·exact NO s g h hk hc hm NT
  by_cases NU:(aa s g).place=23
  ·exact NP s g h hk hc hm NU
  exact NQ s g h hk hc hm (by omega)
end Fl
end Go.Proofs.YtgjpdogjekmemaaGreat
