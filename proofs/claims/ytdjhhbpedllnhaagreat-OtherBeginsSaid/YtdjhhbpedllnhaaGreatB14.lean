/-
  What the laws need, part B14.
  Conditions: none.
-/
import Derived.Test.YtdjhhbpedllnhaaGreatB13
set_option linter.unusedVariables false
set_option linter.unusedSimpArgs false
set_option linter.unnecessarySimpa false
set_option maxHeartbeats 2000000
namespace Go.Proofs.YtdjhhbpedllnhaaGreat
open Go.RowKit
namespace Fl
open Sx Go.Proofs.Tryz
set_option maxRecDepth 100000
theorem Tq (s:ah) (g:Nat) (h:mH s g) (hk:(ag s g).kind=3∨(ag s g).kind=5) (hc:(common s g).2=false) (hm:aT s (ag s g).ch=true) (e0:(aa s g).place=5) :
  Pure prog 172 [.agg (aC s),.c (nI g)] (.bp [.agg (aC (cj s g).1),.c (bI (cj s g).2)]):=by
 have hg:=h.co.lt;have hf:Few s:=h.fit.toAnd;have hb:=hf.1;have dL:=hf.2.1;have C0:=dI s g hg h.co.dD;have C1:=fS s g h.co;obtain ⟨k,ek,cP⟩:∃ k,(ag s g).kind=k∧(k=3∨k=5):=⟨_,rfl,hk⟩
 have KN:∀ c,((ag s g).kind != c)=(k != c):=fun c=>by rw [ek]
 have KE:∀ c,((ag s g).kind == c)=(k == c):=fun c=>by rw [ek]
 have bQ:¬ ((ag s g).kind≠3∧(ag s g).kind≠5):=by omega
 have cQ:¬ (common s g).2=true:=by rw [hc];simp
 rw [hc] at C1;have CM:=fH s (ag s g).ch;have cG:¬ aT s (ag s g).ch=false:=by rw [hm];simp
 have hl:=fD hm;rw [hm] at CM;have ak:cj s g=cj s g:=rfl
 conv at ak=>rhs;unfold cj;simp only;rw [if_neg bQ,if_neg cQ,if_neg cG]
 have P:∀ c,((aa s g).place == c)=((5:Int) == c):=fun c=>by rw [e0]
 refine an.intro func172 rfl rfl rfl (fun ok e=>?_);rw [az,az,az] at ak;rw [if_pos e0] at ak
 cases cF:(cn s (ag s g).ch).closed with
 | true =>
  cases Fk:(((cn s (ag s g).ch).buf.length:Int) == 0) with
  | true =>
   rw [if_pos ⟨cF,by simpa using Fk⟩] at ak;rw [ak];rcases cP with rfl | rfl
   all_goals
    repeat (first | (refine K.load ?_;refine jq rfl rfl rfl ((Qt.hJ rfl (by exact rfl)).eq (congrArg (fun b=>D.c (bI b)) cF)) ?_) | refine aQ (KN _) ?_ | refine aQ (P _) ?_ | refine ay ?_ | intro _)
    refine J.draw (by kernel_rfl) rfl ?_;refine JW.base (some 4) ?_;refine tk 0 ?_;refine tk 1 ?_;refine dA 2 (kU 0 false) ?_;refine dA 3 (jo s g (eB 0 false) 16 hg hb) ?_;refine jt 4 rfl rfl (Ld.bq rfl rfl rfl (by exact rfl) (by exact rfl)) (fun _=>?_);refine JW.base none ?_;refine jk 5 rfl rfl rfl rfl (Qt.assign rfl) ?_;refine bE ?_
    repeat (fail)
    exact aD func172
  | false =>
   rw [if_neg (by intro hh;have:=hh.2;rw [this] at Fk;cases Fk),if_pos cF] at ak;rw [ak];rcases cP with rfl | rfl
   all_goals
    repeat (first | (refine K.load ?_;refine jq rfl rfl rfl ((Qt.hJ rfl (by exact rfl)).eq (congrArg (fun b=>D.c (bI b)) cF)) ?_) | refine aQ (KN _) ?_ | refine aQ (P _) ?_ | refine aX (fQ s g 9 hg hb) ?_ | refine ay ?_ | intro _)
    exact aD func172
 | false =>
  rw [if_neg (by rw [cF];simp),if_neg (by rw [cF];simp)] at ak;rw [ak];rcases cP with rfl | rfl
  all_goals
   repeat (first | (refine K.load ?_;refine jq rfl rfl rfl ((Qt.hJ rfl (by exact rfl)).eq (congrArg (fun b=>D.c (bI b)) cF)) ?_) | refine aQ (KN _) ?_ | refine aQ (P _) ?_ | refine aX (fQ s g 6 hg hb) ?_ | refine ay ?_ | intro _)
   exact aD func172
theorem Tr (s:ah) (g:Nat) (h:mH s g) (hk:(ag s g).kind=3∨(ag s g).kind=5) (hc:(common s g).2=false) (hm:aT s (ag s g).ch=true) (e0:¬ ((aa s g).place=1∨(aa s g).place=2∨(aa s g).place=3∨(aa s g).place=5∨(aa s g).place=6∨(aa s g).place=7∨(aa s g).place=8∨(aa s g).place=9∨(aa s g).place=10∨(aa s g).place=11∨(aa s g).place=14)) :
  Pure prog 172 [.agg (aC s),.c (nI g)] (.bp [.agg (aC (cj s g).1),.c (bI (cj s g).2)]):=by
 have hg:=h.co.lt;have hf:Few s:=h.fit.toAnd;have hb:=hf.1;have dL:=hf.2.1;have C0:=dI s g hg h.co.dD;have C1:=fS s g h.co;obtain ⟨k,ek,cP⟩:∃ k,(ag s g).kind=k∧(k=3∨k=5):=⟨_,rfl,hk⟩
 have KN:∀ c,((ag s g).kind != c)=(k != c):=fun c=>by rw [ek]
 have KE:∀ c,((ag s g).kind == c)=(k == c):=fun c=>by rw [ek]
 have bQ:¬ ((ag s g).kind≠3∧(ag s g).kind≠5):=by omega
 have cQ:¬ (common s g).2=true:=by rw [hc];simp
 rw [hc] at C1;have CM:=fH s (ag s g).ch;have cG:¬ aT s (ag s g).ch=false:=by rw [hm];simp
 have hl:=fD hm;rw [hm] at CM;have ak:cj s g=cj s g:=rfl
 conv at ak=>rhs;unfold cj;simp only;rw [if_neg bQ,if_neg cQ,if_neg cG]
 refine an.intro func172 rfl rfl rfl (fun ok e=>?_);rw [az,az,az,az,az,az,az,az,az,az,az] at ak;have P1:((aa s g).place == 1)=false:=by simp;omega
 have P2:((aa s g).place == 2)=false:=by simp;omega
 have P3:((aa s g).place == 3)=false:=by simp;omega
 have P5:((aa s g).place == 5)=false:=by simp;omega
 have P6:((aa s g).place == 6)=false:=by simp;omega
 have P7:((aa s g).place == 7)=false:=by simp;omega
 have P8:((aa s g).place == 8)=false:=by simp;omega
 have P9:((aa s g).place == 9)=false:=by simp;omega
 have Td:((aa s g).place == 10)=false:=by simp;omega
 have Te:((aa s g).place == 11)=false:=by simp;omega
 have Kx:((aa s g).place == 14)=false:=by simp;omega
 rw [ak];rcases cP with rfl | rfl
 all_goals
  repeat (first | refine aQ (KN _) ?_ | refine ay ?_ | intro _)
  exact aD func172
end Fl
open Go.RowKit
namespace Fl
open Sx Go.Proofs.Tryz
set_option maxRecDepth 100000
theorem Fit.dS {s:ah} (h:Fit s) (c:Int) (x:Cn) (hr:x.recv.length≤50000) (hs:x.send.length≤50000) (hu:x.buf.length≤50000):Fit (aE s c x):=by
 have hf:Few s:=h.toAnd;have uL:Few (aE s c x):=hf.of rfl (Sp _ _ _) rfl;have hc:∀ ch,(cn (aE s c x) ch).recv.length≤50000∧(cn (aE s c x) ch).send.length≤50000∧(cn (aE s c x) ch).buf.length≤50000:=fun ch=>by
  rcases Ku s c x ch with e | e
  ·rw [e];exact ⟨hr,hs,hu⟩
  ·rw [e];exact ⟨h.rv ch,h.sd ch,h.bf ch⟩
 exact ⟨uL,h.wk,fun ch=>(hc ch).1,fun ch=>(hc ch).2.1,fun ch=>(hc ch).2.2,h.od,h.sg,h.dn,h.ca,h.cl,h.md⟩
theorem Ts (l:List Int) (r v:Int):(fh l r v).1.length=l.length:=by
 unfold fh
 split
 ·rfl
 ·rename_i hn;have:l.length≠0:=fun e=>hn (.inr e)
  simp;omega
theorem Fit.hand {s:ah} (h:Fit s) (ch i:Int):Fit (Sx.hand s ch i).1:=by
 unfold Sx.hand;simp only
 split
 ·exact h
 ·exact h.dS _ _ (h.rv _) (h.sd _) (by rw [Ts];exact h.bf _)
theorem BN (s:ah) (ch i:Int):(Sx.hand s ch i).1.gs=s.gs:=by unfold Sx.hand;simp only;split <;> rfl
theorem Kz (s:ah) (ch i:Int):(Sx.hand s ch i).1.aA=s.aA:=by unfold Sx.hand;simp only;split <;> rfl
theorem KB (s:ah) (i ch:Int):aT (aZ s i) ch=aT s ch:=by unfold aT;rw [Fh]
theorem Tt (s:ah) (g:Nat) (h:mH s g) (hk:(ag s g).kind=3∨(ag s g).kind=5) (hc:(common s g).2=false) (hm:aT s (ag s g).ch=true) (e0:(aa s g).place=8) :
  Pure prog 172 [.agg (aC s),.c (nI g)] (.bp [.agg (aC (cj s g).1),.c (bI (cj s g).2)]):=by
 have hg:=h.co.lt;have hf:Few s:=h.fit.toAnd;have hb:=hf.1;have dL:=hf.2.1;have C0:=dI s g hg h.co.dD;have C1:=fS s g h.co;obtain ⟨k,ek,cP⟩:∃ k,(ag s g).kind=k∧(k=3∨k=5):=⟨_,rfl,hk⟩
 have KN:∀ c,((ag s g).kind != c)=(k != c):=fun c=>by rw [ek]
 have KE:∀ c,((ag s g).kind == c)=(k == c):=fun c=>by rw [ek]
 have bQ:¬ ((ag s g).kind≠3∧(ag s g).kind≠5):=by omega
 have cQ:¬ (common s g).2=true:=by rw [hc];simp
 rw [hc] at C1;have CM:=fH s (ag s g).ch;have cG:¬ aT s (ag s g).ch=false:=by rw [hm];simp
 have hl:=fD hm;rw [hm] at CM;have ak:cj s g=cj s g:=rfl
 conv at ak=>rhs;unfold cj;simp only;rw [if_neg bQ,if_neg cQ,if_neg cG]
 have P:∀ c,((aa s g).place == c)=((8:Int) == c):=fun c=>by rw [e0]
 refine an.intro func172 rfl rfl rfl (fun ok e=>?_);rw [az,az,az,az,az,az] at ak;rw [if_pos e0] at ak;have hi:=h.l8 e0;obtain ⟨gz,eJ,dM,iY⟩:=id hi;have D1:=sW s (aa s g).hold gz eJ (Nat.le_trans (h.fit.rv _) (by omega)) (Nat.le_trans (h.fit.sd _) (by omega)) dL;have k1:dK (aZ s (aa s g).hold) (aa s g).hold:=hi.of (uK _ _) (by rw [fR]);have f1:=h.fit.drop (aa s g).hold;have g1:g < (aZ s (aa s g).hold).gs.length:=by rw [fR];exact hg
 have m1:aT (aZ s (aa s g).hold) (ag s g).ch=true:=by rw [KB];exact hm
 rw [ak];clear ak;generalize aZ s (aa s g).hold=s1 at *;have D2:=Ky s1 (ag s g).ch (aa s g).hold m1 f1.1.2.1 k1.1 k1.2.1 (f1.bf _);have k2:dK (Sx.hand s1 (ag s g).ch (aa s g).hold).1 (aa s g).hold:=k1.of (Kz _ _ _) (by rw [BN]);have f2:=f1.hand (ag s g).ch (aa s g).hold;have g2:g < (Sx.hand s1 (ag s g).ch (aa s g).hold).1.gs.length:=by rw [BN];exact g1
 generalize Sx.hand s1 (ag s g).ch (aa s g).hold=n at *;have D3:=zb n.1 g (aa s g).hold true g2 k2 f2;have g3:g < (Sx.serve n.1 g (aa s g).hold true).gs.length:=by rw [rX];exact g2
 have b3:(Sx.serve n.1 g (aa s g).hold true).gs.length≤100000:=by rw [rX];exact f2.1.1
 generalize Sx.serve n.1 g (aa s g).hold true=s3 at *;have D4:=cV s3 g { aa s3 g with res:=eB n.2 true,place:=16 } g3 b3;rcases cP with rfl | rfl
 all_goals
  repeat (first | refine aQ (KN _) ?_ | refine aQ (P _) ?_ | refine ay ?_ | intro _)
  refine J.draw (by kernel_rfl) rfl ?_;refine JW.base (some 13) ?_;refine tk 0 ?_;refine tk 1 ?_;refine tk 2 ?_;refine tk 4 ?_;refine tk 5 ?_;refine tk 6 ?_;refine tk 7 ?_;refine JD.cU (i:=3) (j:=12) (by kernel_rfl) ?_ ?_;refine JS.bZ rfl rfl rfl (qb rfl) (Ld.pure (D1) (qb rfl) rfl lq) .none (fun _=>?_);refine JD.cU (i:=8) (j:=12) (by kernel_rfl) ?_ ?_;refine JS.bZ rfl rfl rfl (qb rfl) (Ld.pure (D2) (qb rfl) rfl lq) .none (fun _=>?_);refine JD.lB ?_;refine tk 9 ?_;refine tk 10 ?_;refine JD.cU (i:=11) (j:=12) (by kernel_rfl) ?_ ?_;refine JS.q rfl rfl rfl (qb rfl) (Qt.extract rfl rfl) ?_;refine jl 12 rfl rfl rfl rfl (Ld.alloc (qb rfl)) .none (fun _=>?_);refine jt 13 rfl rfl (Ld.bq rfl rfl rfl (by exact rfl) (by exact rfl)) (fun _=>?_);refine JW.base none ?_;refine jk 14 rfl rfl rfl rfl (Qt.assign rfl) ?_;refine bE ?_
  rotate_left
  refine JS.bZ rfl rfl rfl (qb rfl) (Ld.alloc (qb rfl)) .none (fun _=>?_);refine JD.cU (i:=11) (j:=13) (by kernel_rfl) ?_ ?_;refine JS.q rfl rfl rfl (qb rfl) (Qt.extract rfl rfl) ?_;refine jt 13 rfl rfl (Ld.bq rfl rfl rfl (by exact rfl) (by exact rfl)) (fun _=>?_);refine JW.base none ?_;refine jk 14 rfl rfl rfl rfl (Qt.assign rfl) ?_;refine bE ?_
  rotate_left
  (refine JS.last rfl rfl (Ld.bq rfl rfl rfl (by exact rfl) (by exact rfl)) (fun _=>?_))
  refine JW.base none ?_;refine jk 11 rfl rfl rfl rfl (Qt.extract rfl rfl) ?_;refine jk 14 rfl rfl rfl rfl (Qt.assign rfl) ?_;refine bE ?_
  rotate_left
  refine JS.bZ rfl rfl rfl (qb rfl) (Ld.alloc (qb rfl)) .none (fun _=>?_);refine dA 8 (D2) ?_;refine jk 9 rfl rfl rfl rfl (Qt.move rfl) ?_;refine JD.lB ?_;refine tk 10 ?_;refine JD.cU (i:=11) (j:=13) (by kernel_rfl) ?_ ?_;refine JS.q rfl rfl rfl (qb rfl) (Qt.extract rfl rfl) ?_;refine jt 13 rfl rfl (Ld.bq rfl rfl rfl (by exact rfl) (by exact rfl)) (fun _=>?_);refine JW.base none ?_;refine jk 14 rfl rfl rfl rfl (Qt.assign rfl) ?_;refine bE ?_
  rotate_left
  (refine JS.last rfl rfl (Ld.bq rfl rfl rfl (by exact rfl) (by exact rfl)) (fun _=>?_))
  refine JW.base none ?_;refine jk 11 rfl rfl rfl rfl (Qt.extract rfl rfl) ?_;refine jk 14 rfl rfl rfl rfl (Qt.assign rfl) ?_;refine bE ?_
  rotate_left
  refine JS.bZ rfl rfl rfl (qb rfl) (Ld.alloc (qb rfl)) .none (fun _=>?_);refine dA 3 (D1) ?_;refine dA 8 (D2) ?_;refine jk 9 rfl rfl rfl rfl (Qt.move rfl) ?_;refine JD.lB ?_;refine tk 10 ?_;refine JD.cU (i:=11) (j:=13) (by kernel_rfl) ?_ ?_;refine JS.q rfl rfl rfl (qb rfl) (Qt.extract rfl rfl) ?_;refine jt 13 rfl rfl (Ld.bq rfl rfl rfl (by exact rfl) (by exact rfl)) (fun _=>?_);refine JW.base none ?_;refine jk 14 rfl rfl rfl rfl (Qt.assign rfl) ?_;refine bE ?_
  rotate_left
  (refine JS.last rfl rfl (Ld.bq rfl rfl rfl (by exact rfl) (by exact rfl)) (fun _=>?_))
  refine JW.base none ?_;refine jk 11 rfl rfl rfl rfl (Qt.extract rfl rfl) ?_;refine jk 14 rfl rfl rfl rfl (Qt.assign rfl) ?_;refine bE ?_
  rotate_left
  all_goals
   repeat (first | refine aX (kU n.2 true) ?_ | refine ay ?_ | intro _)
   exact aD func172
theorem Tu (s:ah) (g:Nat) (h:mH s g) :
  Pure prog 172 [.agg (aC s),.c (nI g)] (.bp [.agg (aC (cj s g).1),.c (bI (cj s g).2)]):=by
 have hg:=h.co.lt;have C0:=dI s g hg h.co.dD;have C1:=fS s g h.co
 by_cases hk:(ag s g).kind=3∨(ag s g).kind=5
 case neg =>
  refine an.intro func172 rfl rfl rfl (fun ok e=>?_);have K2:((ag s g).kind != 3)=true:=by simp;omega
  have K4:((ag s g).kind != 5)=true:=by simp;omega
  have er:cj s g=(s,false):=by unfold cj;simp only;rw [if_pos (by omega)]
  rw [er]
  repeat (first | refine ay ?_ | intro _)
  exact aD func172
 case pos =>
 have bQ:¬ ((ag s g).kind≠3∧(ag s g).kind≠5):=by omega
 cases hc:(common s g).2 with
 | true =>
  obtain ⟨k,ek,cP⟩:∃ k,(ag s g).kind=k∧(k=3∨k=5):=⟨_,rfl,hk⟩
  have KN:∀ c,((ag s g).kind != c)=(k != c):=fun c=>by rw [ek]
  refine an.intro func172 rfl rfl rfl (fun ok e=>?_);have er:cj s g=((common s g).1,true):=by unfold cj;simp only;rw [if_neg bQ,if_pos hc]
  rw [er];rw [hc] at C1;rcases cP with rfl | rfl
  all_goals
   repeat (first | refine aQ (KN _) ?_ | refine ay ?_ | intro _)
   exact aD func172
 | false =>
 cases hm:aT s (ag s g).ch with
 | false =>
  have CM:=fH s (ag s g).ch;have cQ:¬ (common s g).2=true:=by rw [hc];simp
  obtain ⟨k,ek,cP⟩:∃ k,(ag s g).kind=k∧(k=3∨k=5):=⟨_,rfl,hk⟩
  have KN:∀ c,((ag s g).kind != c)=(k != c):=fun c=>by rw [ek]
  refine an.intro func172 rfl rfl rfl (fun ok e=>?_);have er:cj s g=(s,false):=by unfold cj;simp only;rw [if_neg bQ,if_neg cQ,if_pos hm]
  rw [er];rw [hc] at C1;rw [hm] at CM;rcases cP with rfl | rfl
  all_goals
   repeat (first | refine aQ (KN _) ?_ | refine ay ?_ | intro _)
   exact aD func172
 | true =>
  by_cases e1:(aa s g).place=1
  ·exact Tg s g h hk hc hm e1
  by_cases e2:(aa s g).place=2
  ·exact Th s g h hk hc hm e2
  by_cases e3:(aa s g).place=3
  ·exact Ti s g h hk hc hm e3
  by_cases e5:(aa s g).place=5
  ·exact Tq s g h hk hc hm e5
  by_cases e6:(aa s g).place=6
  ·exact Tj s g h hk hc hm e6
  by_cases e7:(aa s g).place=7
  ·exact Tl s g h hk hc hm e7
  by_cases e8:(aa s g).place=8
  ·exact Tt s g h hk hc hm e8
  by_cases e9:(aa s g).place=9
  ·exact Tm s g h hk hc hm e9
  by_cases nv:(aa s g).place=10
  ·exact Tn s g h hk hc hm nv
  by_cases nA:(aa s g).place=11
  ·exact To s g h hk hc hm nA
  by_cases g9:(aa s g).place=14
  ·exact Tp s g h hk hc hm g9
  exact Tr s g h hk hc hm (by omega)
end Fl
open Go.RowKit
namespace Fl
open Sx Go.Proofs.Tryz
set_option maxRecDepth 100000
structure Fo (x:Gr):Prop where
 wk:x.au.length≤50000
 od:x.order.length≤50000
 sg:x.aq.length≤50000
theorem BO (s:ah) (o:Nat) (x:Gr) (g:Nat):aa (ai s o x) g=x∨aa (ai s o x) g=aa s g:=by
 unfold aa ai;simp only [List.getD_eq_getElem?_getD,List.getElem?_set]
 split
 ·split
  ·exact .inl rfl
  ·rename_i h1 h2;rw [← h1,List.getElem?_eq_none (by omega)];exact .inr rfl
 ·exact .inr rfl
theorem Fit.gr {s:ah} (h:Fit s) (g:Nat):Fo (aa s g):=⟨h.wk g,h.od g,h.sg g⟩
theorem Fit.dR {s:ah} (h:Fit s) (o:Nat) (x:Gr) (hx:Fo x):Fit (ai s o x):=by
 have hf:Few s:=h.toAnd;have uL:Few (ai s o x):=hf.of (cD _ _ _) rfl rfl;have hg:∀ g,Fo (aa (ai s o x) g):=fun g=>by
  rcases BO s o x g with e | e
  ·rw [e];exact hx
  ·rw [e];exact h.gr g
 exact ⟨uL,fun g=>(hg g).wk,h.rv,h.sd,h.bf,fun g=>(hg g).od,fun g=>(hg g).sg,h.dn,h.ca,h.cl,h.md⟩
theorem Fp (s:ah) (g:Nat) (hg:g < s.gs.length) (hi:dK s (aa s g).hold) (hb:Fit s) :
  Pure prog 233 [.agg (aC s),.c (nI g)] (.agg (aC (jj s g))):=by
 obtain ⟨gz,eJ,dM,iY⟩:=id hi;have hf:Few s:=hb.toAnd;have D1:=cV s g { aa s g with t:=s.step } hg hf.1;have f1:=hb.dR g { aa s g with t:=s.step } ⟨hb.wk g,hb.od g,hb.sg g⟩;have k1:dK (ai s g { aa s g with t:=s.step }) (aa s g).hold:=hi.of rfl (cD _ _ _);have g1:g < (ai s g { aa s g with t:=s.step }).gs.length:=by rw [cD];exact hg
 have D2:=sW (ai s g { aa s g with t:=s.step }) (aa s g).hold k1.1 k1.2.1 (Nat.le_trans (f1.rv _) (by omega)) (Nat.le_trans (f1.sd _) (by omega)) f1.1.2.1;have k2:dK (aZ (ai s g { aa s g with t:=s.step }) (aa s g).hold) (aa s g).hold:=k1.of (uK _ _) (by rw [fR]);have f2:=f1.drop (aa s g).hold;have g2:g < (aZ (ai s g { aa s g with t:=s.step }) (aa s g).hold).gs.length:=by rw [fR];exact g1
 have er:jj s g=Sx.serve (ai (aZ (ai s g { aa s g with t:=s.step }) (aa s g).hold) (su (aZ (ai s g { aa s g with t:=s.step }) (aa s g).hold) (aa s g).hold).g.toNat { aa (aZ (ai s g { aa s g with t:=s.step }) (aa s g).hold) (su (aZ (ai s g { aa s g with t:=s.step }) (aa s g).hold) (aa s g).hold).g.toNat with bT:=(aa (aZ (ai s g { aa s g with t:=s.step }) (aa s g).hold) g).t,dm:=(su (aZ (ai s g { aa s g with t:=s.step }) (aa s g).hold) (aa s g).hold).cs }) g (aa s g).hold false:=rfl;rw [er];clear er;generalize ai s g { aa s g with t:=s.step }=s1 at *;generalize aZ s1 (aa s g).hold=s2 at *;have D3:=y9 s2 (su s2 (aa s g).hold).g { aa s2 (su s2 (aa s g).hold).g.toNat with bT:=(aa s2 g).t,dm:=(su s2 (aa s g).hold).cs } k2.2.2.1 k2.2.2.2 f2.1.1;have f3:=f2.dR (su s2 (aa s g).hold).g.toNat { aa s2 (su s2 (aa s g).hold).g.toNat with bT:=(aa s2 g).t,dm:=(su s2 (aa s g).hold).cs } ⟨f2.wk _,f2.od _,f2.sg _⟩;have k3:dK (ai s2 (su s2 (aa s g).hold).g.toNat { aa s2 (su s2 (aa s g).hold).g.toNat with bT:=(aa s2 g).t,dm:=(su s2 (aa s g).hold).cs }) (aa s g).hold:=k2.of rfl (cD _ _ _);have D4:=zb _ g (aa s g).hold false (by rw [cD];exact g2) k3 f3;have q0:=k2.2.2.1;have q1:=k2.gr;refine an.intro func233 rfl rfl rfl (fun ok e=>?_)
 repeat (first | (refine K.indexAddr ?_;first | refine jx rfl rfl rfl rfl (by omega) (iB hg) ?_ | refine jx rfl rfl rfl rfl (by omega) (iB g2) ?_ | refine jx rfl rfl rfl rfl (by omega) (iC k2.1 k2.2.1) ?_ | refine jx rfl rfl rfl rfl (by omega) (q1) ?_) | refine aX (D1) ?_ | refine aX (D2) ?_ | refine aX (D3) ?_ | refine aX (D4) ?_ | refine ay ?_ | intro _)
 exact aD func233
end Fl
open Go.RowKit
namespace Fl
open Sx Go.Proofs.Tryz
set_option maxRecDepth 100000
structure wM (s:ah) (g:Nat):Prop where
 co:wJ s g
 fit:Fit s
 Fq:(aa s g).place=22→(∀ i l,(cn s (ag s g).ch).recv=i :: l→dK s i)∧(∀ i l,(cn s (ag s g).ch).send=i :: l→dK s i)
 KC:(aa s g).place=23→dK s (aa s g).hold
theorem KD {s:ah} {g:Nat} {x:Gr} (h:g < s.gs.length):aa (ai s g x) g=x:=by
 unfold aa ai;simp [h]
theorem Tv {s:ah} {o g:Nat} {x:Gr} (e:x.hold=(aa s o).hold):(aa (ai s o x) g).hold=(aa s g).hold:=by
 by_cases h:o=g
 ·subst h;rcases BO s o x o with e1 | e1
  ·rw [e1,e]
  ·rw [e1]
 ·have:aa (ai s o x) g=aa s g:=by
   unfold aa ai;simp only [List.getD_eq_getElem?_getD,List.getElem?_set];rw [if_neg h]
  rw [this]
theorem KF (s:ah) (g:Nat):(jj s g).gs.length=s.gs.length:=by
 unfold jj;simp only [rX,cD,fR]
theorem Tw (s:ah) (g:Nat) (h:wM s g) (hk:(ag s g).kind=6) (hc:(common s g).2=false) (hm:aT s (ag s g).ch=true) (e0:(aa s g).place=21) :
  Pure prog 173 [.agg (aC s),.c (nI g)] (.bp [.agg (aC (dY s g).1),.c (bI (dY s g).2)]):=by
 have hg:=h.co.lt;have hf:Few s:=h.fit.toAnd;have hb:=hf.1;have dL:=hf.2.1;have C0:=dI s g hg h.co.dD;have C1:=fS s g h.co;have K6:((ag s g).kind != 6)=false:=by rw [hk];rfl
 have bQ:¬ ((ag s g).kind≠6):=by omega
 have cQ:¬ (common s g).2=true:=by rw [hc];simp
 rw [hc] at C1;have CM:=fH s (ag s g).ch;have cG:¬ aT s (ag s g).ch=false:=by rw [hm];simp
 have hl:=fD hm;rw [hm] at CM;have ak:dY s g=dY s g:=rfl
 conv at ak=>rhs;unfold dY;simp only;rw [if_neg bQ,if_neg cQ,if_neg cG]
 have P:∀ c,((aa s g).place == c)=((21:Int) == c):=fun c=>by rw [e0]
 refine an.intro func173 rfl rfl rfl (fun ok e=>?_);rw [if_pos e0] at ak
 cases cF:(cn s (ag s g).ch).closed with
 | true =>
  rw [if_pos cF] at ak;rw [ak]
  repeat (first | refine J.gK (congrArg (fun b=>some (D.c (bI b))) cF) ?_ | refine aQ (P _) ?_ | refine aX (jo s g (Sx.res 4) 16 hg hb) ?_ | refine ay ?_ | intro _)
  exact aD func173
 | false =>
  rw [if_neg (by rw [cF];simp)] at ak;rw [ak]
  repeat (first | refine J.fT (congrArg (fun b=>some (D.c (bI b))) cF) ?_ | refine aQ (P _) ?_ | refine aX (m9 s (ag s g).ch { (cn s (ag s g).ch) with closed:=true } hm dL) ?_ | refine aX (jo (aE s (ag s g).ch { (cn s (ag s g).ch) with closed:=true }) g oH 22 hg hb) ?_ | refine ay ?_ | intro _)
  exact aD func173
theorem Tx (s:ah) (g:Nat) (h:wM s g) (hk:(ag s g).kind=6) (hc:(common s g).2=false) (hm:aT s (ag s g).ch=true) (e0:(aa s g).place=22) :
  Pure prog 173 [.agg (aC s),.c (nI g)] (.bp [.agg (aC (dY s g).1),.c (bI (dY s g).2)]):=by
 have hg:=h.co.lt;have hf:Few s:=h.fit.toAnd;have hb:=hf.1;have dL:=hf.2.1;have C0:=dI s g hg h.co.dD;have C1:=fS s g h.co;have K6:((ag s g).kind != 6)=false:=by rw [hk];rfl
 have bQ:¬ ((ag s g).kind≠6):=by omega
 have cQ:¬ (common s g).2=true:=by rw [hc];simp
 rw [hc] at C1;have CM:=fH s (ag s g).ch;have cG:¬ aT s (ag s g).ch=false:=by rw [hm];simp
 have hl:=fD hm;rw [hm] at CM;have ak:dY s g=dY s g:=rfl
 conv at ak=>rhs;unfold dY;simp only;rw [if_neg bQ,if_neg cQ,if_neg cG]
 have P:∀ c,((aa s g).place == c)=((22:Int) == c):=fun c=>by rw [e0]
 refine an.intro func173 rfl rfl rfl (fun ok e=>?_);rw [az] at ak;rw [if_pos e0] at ak
 cases hr:(cn s (ag s g).ch).recv with
 | cons a l =>
  have hz:(decide (((cn s (ag s g).ch).recv.length:Int) > 0))=true:=by rw [hr];simp
  have w0:((cn s (ag s g).ch).recv.map fun n=>[nI n])[(0:Int).toNat]?=some [nI a]:=by rw [hr];rfl
  rw [if_pos (by rw [hr];simp),hr] at ak;dsimp only [List.headD_cons] at ak;have k0:dK s a:=(h.Fq e0).1 a l hr;have k1:dK (ai s g { aa s g with hold:=a }) a:=k0.of rfl (cD _ _ _);have g1:g < (ai s g { aa s g with hold:=a }).gs.length:=by rw [cD];exact hg
  have f1:=h.fit.dR g { aa s g with hold:=a } ⟨h.fit.wk g,h.fit.od g,h.fit.sg g⟩;have hh:(aa (ai s g { aa s g with hold:=a }) g).hold=a:=by rw [KD hg]
  have D1:=cV s g { aa s g with hold:=a } hg hb;have D2:=fQ (ai s g { aa s g with hold:=a }) g 23 g1 f1.1.1;have D3:=Fp (ai s g { aa s g with hold:=a }) g g1 (by rw [hh];exact k1) f1;have sZ:l9 s g a=if 0≤(su (ai s g { aa s g with hold:=a }) a).cs then Sx.aS (ai s g { aa s g with hold:=a }) g 23 else jj (ai s g { aa s g with hold:=a }) g:=rfl
  rw [sZ] at ak;clear sZ hh;generalize ai s g { aa s g with hold:=a }=s1 at *;have q0:=k1.1
  cases jK:decide ((su s1 a).cs ≥ 0) with
  | true =>
   rw [if_pos (by simpa using jK)] at ak;rw [ak]
   repeat (first | (refine K.indexAddr ?_;refine jx rfl rfl rfl rfl (by omega) (iC k1.1 k1.2.1) ?_) | refine aQ (P _) ?_ | refine ay ?_ | intro _)
   exact aD func173
  | false =>
   rw [if_neg (by simpa using jK)] at ak;rw [ak]
   repeat (first | (refine K.indexAddr ?_;refine jx rfl rfl rfl rfl (by omega) (iC k1.1 k1.2.1) ?_) | refine aQ (P _) ?_ | refine ay ?_ | intro _)
   exact aD func173
 | nil =>
  have hz:(decide (((cn s (ag s g).ch).recv.length:Int) > 0))=false:=by rw [hr];rfl
  rw [if_neg (by rw [hr];simp)] at ak
  cases hs:(cn s (ag s g).ch).send with
  | cons a l =>
   have hy:(decide (((cn s (ag s g).ch).send.length:Int) > 0))=true:=by rw [hs];simp
   have w0:((cn s (ag s g).ch).send.map fun n=>[nI n])[(0:Int).toNat]?=some [nI a]:=by rw [hs];rfl
   rw [if_pos (by rw [hs];simp),hs] at ak;dsimp only [List.headD_cons] at ak;have k0:dK s a:=(h.Fq e0).2 a l hs;have k1:dK (ai s g { aa s g with hold:=a }) a:=k0.of rfl (cD _ _ _);have g1:g < (ai s g { aa s g with hold:=a }).gs.length:=by rw [cD];exact hg
   have f1:=h.fit.dR g { aa s g with hold:=a } ⟨h.fit.wk g,h.fit.od g,h.fit.sg g⟩;have hh:(aa (ai s g { aa s g with hold:=a }) g).hold=a:=by rw [KD hg]
   have D1:=cV s g { aa s g with hold:=a } hg hb;have D2:=fQ (ai s g { aa s g with hold:=a }) g 23 g1 f1.1.1;have D3:=Fp (ai s g { aa s g with hold:=a }) g g1 (by rw [hh];exact k1) f1;have sZ:l9 s g a=if 0≤(su (ai s g { aa s g with hold:=a }) a).cs then Sx.aS (ai s g { aa s g with hold:=a }) g 23 else jj (ai s g { aa s g with hold:=a }) g:=rfl
   rw [sZ] at ak;clear sZ hh;generalize ai s g { aa s g with hold:=a }=s1 at *;have q0:=k1.1
   cases jK:decide ((su s1 a).cs ≥ 0) with
   | true =>
    rw [if_pos (by simpa using jK)] at ak;rw [ak]
    repeat (first | (refine K.indexAddr ?_;refine jx rfl rfl rfl rfl (by omega) (iC k1.1 k1.2.1) ?_) | refine aQ (P _) ?_ | refine ay ?_ | intro _)
    exact aD func173
   | false =>
    rw [if_neg (by simpa using jK)] at ak;rw [ak]
    repeat (first | (refine K.indexAddr ?_;refine jx rfl rfl rfl rfl (by omega) (iC k1.1 k1.2.1) ?_) | refine aQ (P _) ?_ | refine ay ?_ | intro _)
    exact aD func173
  | nil =>
   have hy:(decide (((cn s (ag s g).ch).send.length:Int) > 0))=false:=by rw [hs];rfl
   rw [if_neg (by rw [hs];simp)] at ak;rw [ak]
   repeat (first | refine aQ (P _) ?_ | refine aX (fQ s g 16 hg hb) ?_ | refine ay ?_ | intro _)
   exact aD func173
theorem Ty (s:ah) (g:Nat) (h:wM s g) (hk:(ag s g).kind=6) (hc:(common s g).2=false) (hm:aT s (ag s g).ch=true) (e0:(aa s g).place=23) :
  Pure prog 173 [.agg (aC s),.c (nI g)] (.bp [.agg (aC (dY s g).1),.c (bI (dY s g).2)]):=by
 have hg:=h.co.lt;have hf:Few s:=h.fit.toAnd;have hb:=hf.1;have dL:=hf.2.1;have C0:=dI s g hg h.co.dD;have C1:=fS s g h.co;have K6:((ag s g).kind != 6)=false:=by rw [hk];rfl
 have bQ:¬ ((ag s g).kind≠6):=by omega
 have cQ:¬ (common s g).2=true:=by rw [hc];simp
 rw [hc] at C1;have CM:=fH s (ag s g).ch;have cG:¬ aT s (ag s g).ch=false:=by rw [hm];simp
 have hl:=fD hm;rw [hm] at CM;have ak:dY s g=dY s g:=rfl
 conv at ak=>rhs;unfold dY;simp only;rw [if_neg bQ,if_neg cQ,if_neg cG]
 have P:∀ c,((aa s g).place == c)=((23:Int) == c):=fun c=>by rw [e0]
 refine an.intro func173 rfl rfl rfl (fun ok e=>?_);rw [az,az] at ak;rw [if_pos e0] at ak;have hi:=h.KC e0;obtain ⟨gz,eJ,dM,iY⟩:=id hi;have SZ:=hi.gr;have sZ:nN s g=if (aa s (su s (aa s g).hold).g.toNat).bG=true then ai (aZ s (aa s g).hold) g { aa s g with hold:=-1,place:=22 } else Sx.aS (jj (ai s (su s (aa s g).hold).g.toNat { aa s (su s (aa s g).hold).g.toNat with bG:=true }) g) g 22:=rfl
 rw [sZ] at ak;clear sZ
 cases hp:(aa s (su s (aa s g).hold).g.toNat).bG with
 | true =>
  rw [if_pos hp] at ak;have D1:=sW s (aa s g).hold gz eJ (Nat.le_trans (h.fit.rv _) (by omega)) (Nat.le_trans (h.fit.sd _) (by omega)) dL;have D2:=cV (aZ s (aa s g).hold) g { aa s g with hold:=-1,place:=22 } (by rw [fR];exact hg) (by rw [fR];exact hb);rw [ak]
  repeat (first | refine J.gK (congrArg (fun b=>some (D.c (bI b))) hp) ?_ | (refine K.indexAddr ?_;refine jx rfl rfl rfl rfl (by omega) (iC gz eJ) ?_) | refine aQ (P _) ?_ | refine ay ?_ | intro _)
  exact aD func173
 | false =>
  rw [if_neg (by rw [hp];simp)] at ak;have D1:=y9 s (su s (aa s g).hold).g { aa s (su s (aa s g).hold).g.toNat with bG:=true } dM iY hb;have f1:=h.fit.dR (su s (aa s g).hold).g.toNat { aa s (su s (aa s g).hold).g.toNat with bG:=true } ⟨h.fit.wk _,h.fit.od _,h.fit.sg _⟩;have k1:dK (ai s (su s (aa s g).hold).g.toNat { aa s (su s (aa s g).hold).g.toNat with bG:=true }) (aa s g).hold:=hi.of rfl (cD _ _ _);have g1:g < (ai s (su s (aa s g).hold).g.toNat { aa s (su s (aa s g).hold).g.toNat with bG:=true }).gs.length:=by rw [cD];exact hg
  have hh:(aa (ai s (su s (aa s g).hold).g.toNat { aa s (su s (aa s g).hold).g.toNat with bG:=true }) g).hold=(aa s g).hold:=Tv rfl;have D2:=Fp _ g g1 (by rw [hh];exact k1) f1;generalize ai s (su s (aa s g).hold).g.toNat { aa s (su s (aa s g).hold).g.toNat with bG:=true }=s1 at *;have D3:=fQ (jj s1 g) g 22 (by rw [KF];exact g1) (by rw [KF];exact f1.1.1);rw [ak]
  repeat (first | refine J.fT (congrArg (fun b=>some (D.c (bI b))) hp) ?_ | (refine K.indexAddr ?_;refine jx rfl rfl rfl rfl (by omega) (iC gz eJ) ?_) | refine aQ (P _) ?_ | refine ay ?_ | intro _)
  exact aD func173
theorem Tz (s:ah) (g:Nat) (h:wM s g) (hk:(ag s g).kind=6) (hc:(common s g).2=false) (hm:aT s (ag s g).ch=true) (e0:¬ ((aa s g).place=21∨(aa s g).place=22∨(aa s g).place=23)) :
  Pure prog 173 [.agg (aC s),.c (nI g)] (.bp [.agg (aC (dY s g).1),.c (bI (dY s g).2)]):=by
 have hg:=h.co.lt;have hf:Few s:=h.fit.toAnd;have hb:=hf.1;have dL:=hf.2.1;have C0:=dI s g hg h.co.dD;have C1:=fS s g h.co;have K6:((ag s g).kind != 6)=false:=by rw [hk];rfl
 have bQ:¬ ((ag s g).kind≠6):=by omega
 have cQ:¬ (common s g).2=true:=by rw [hc];simp
 rw [hc] at C1;have CM:=fH s (ag s g).ch;have cG:¬ aT s (ag s g).ch=false:=by rw [hm];simp
 have hl:=fD hm;rw [hm] at CM;have ak:dY s g=dY s g:=rfl
 conv at ak=>rhs;unfold dY;simp only;rw [if_neg bQ,if_neg cQ,if_neg cG]
 refine an.intro func173 rfl rfl rfl (fun ok e=>?_);rw [az,az,az] at ak;have Ye:((aa s g).place == 21)=false:=by simp;omega
 have Yf:((aa s g).place == 22)=false:=by simp;omega
 have Yg:((aa s g).place == 23)=false:=by simp;omega
 rw [ak]
 repeat (first | refine ay ?_ | intro _)
 exact aD func173
theorem TA (s:ah) (g:Nat) (h:wM s g) :
  Pure prog 173 [.agg (aC s),.c (nI g)] (.bp [.agg (aC (dY s g).1),.c (bI (dY s g).2)]):=by
 have hg:=h.co.lt;have C0:=dI s g hg h.co.dD;have C1:=fS s g h.co
 by_cases hk:(ag s g).kind=6
 case neg =>
  refine an.intro func173 rfl rfl rfl (fun ok e=>?_);have K6:((ag s g).kind != 6)=true:=by simp;omega
  have er:dY s g=(s,false):=by unfold dY;simp only;rw [if_pos (by omega)]
  rw [er]
  repeat (first | refine ay ?_ | intro _)
  exact aD func173
 case pos =>
 have bQ:¬ ((ag s g).kind≠6):=by omega
 have K6:((ag s g).kind != 6)=false:=by rw [hk];rfl
 cases hc:(common s g).2 with
 | true =>
  refine an.intro func173 rfl rfl rfl (fun ok e=>?_);have er:dY s g=((common s g).1,true):=by unfold dY;simp only;rw [if_neg bQ,if_pos hc]
  rw [er];rw [hc] at C1
  repeat (first | refine ay ?_ | intro _)
  exact aD func173
 | false =>
 cases hm:aT s (ag s g).ch with
 | false =>
  have CM:=fH s (ag s g).ch;have cQ:¬ (common s g).2=true:=by rw [hc];simp
  refine an.intro func173 rfl rfl rfl (fun ok e=>?_);have er:dY s g=(s,false):=by unfold dY;simp only;rw [if_neg bQ,if_neg cQ,if_pos hm]
  rw [er];rw [hc] at C1;rw [hm] at CM
  repeat (first | refine ay ?_ | intro _)
  exact aD func173
 | true =>
  by_cases TC:(aa s g).place=21
  ·exact Tw s g h hk hc hm TC
  by_cases TD:(aa s g).place=22
  ·exact Tx s g h hk hc hm TD
  by_cases TE:(aa s g).place=23
  ·exact Ty s g h hk hc hm TE
  exact Tz s g h hk hc hm (by omega)
end Fl
end Go.Proofs.YtdjhhbpedllnhaaGreat
