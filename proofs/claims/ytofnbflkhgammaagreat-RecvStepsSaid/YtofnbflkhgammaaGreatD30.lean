/-
  What the laws need, part D30.
  Conditions: none.
-/
import Derived.Test.YtofnbflkhgammaaGreatD29
set_option linter.unusedVariables false
set_option linter.unusedSimpArgs false
set_option linter.unnecessarySimpa false
set_option maxHeartbeats 2000000
namespace Go.Proofs.YtofnbflkhgammaaGreat
open Go.RowKit
namespace Fl
open Sx Go.Proofs.Tryz
set_option maxRecDepth 100000
theorem XU (s:ah) (g:Nat) (h:mY s g) (hk:(ag s g).kind=3∨(ag s g).kind=5) (hc:(common s g).2=false) (hm:aN s (ag s g).ch=true) (e0:(aa s g).place=5) :
  Pure prog 116 [.agg (az s),.c (nI g)] (.aZ [.agg (az (bR s g).1),.c (bI (bR s g).2)]):=by
 have hg:=h.co.lt;have hf:Few s:=h.fit.toAnd;have hb:=hf.1;have dF:=hf.2.1;have C0:=dA s g hg h.co.dh;have C1:=fN s g h.co;obtain ⟨k,ek,cD⟩:∃ k,(ag s g).kind=k∧(k=3∨k=5):=⟨_,rfl,hk⟩
 have KN:∀ c,((ag s g).kind != c)=(k != c):=fun c=>by rw [ek]
 have KE:∀ c,((ag s g).kind == c)=(k == c):=fun c=>by rw [ek]
 have br:¬ ((ag s g).kind≠3∧(ag s g).kind≠5):=by omega
 have cF:¬ (common s g).2=true:=by rw [hc];simp
 rw [hc] at C1;have CM:=fu s (ag s g).ch;have cB:¬ aN s (ag s g).ch=false:=by rw [hm];simp
 have hl:=eV hm;rw [hm] at CM;have aj:bR s g=bR s g:=rfl
 conv at aj=>rhs;unfold bR;simp only;rw [if_neg br,if_neg cF,if_neg cB]
 have P:∀ c,((aa s g).place == c)=((5:Int) == c):=fun c=>by rw [e0]
 refine ax.intro func116 rfl rfl rfl (fun ok e=>?_);rw [aB,aB,aB] at aj;rw [if_pos e0] at aj
 cases bZ:(cn s (ag s g).ch).closed with
 | true =>
  cases G6:(((cn s (ag s g).ch).buf.length:Int) == 0) with
  | true =>
   rw [if_pos ⟨bZ,by simpa using G6⟩] at aj;rw [aj];rcases cD with rfl | rfl
   all_goals
    repeat (first | (refine K.load ?_;refine jq rfl rfl rfl ((Qt.fR rfl (by exact rfl)).eq (congrArg (fun b=>D.c (bI b)) bZ)) ?_) | refine aL (KN _) ?_ | refine aL (P _) ?_ | refine av ?_ | intro _)
    refine J.draw (by kernel_rfl) rfl ?_;refine JW.base (some 4) ?_;refine tk 0 ?_;refine tk 1 ?_;refine cW 2 (lG 0 false) ?_;refine cW 3 (jv s g (eJ 0 false) 16 hg hb) ?_;refine jt 4 rfl rfl (Ld.aX rfl rfl rfl (by exact rfl) (by exact rfl)) (fun _=>?_);refine JW.base none ?_;refine jk 5 rfl rfl rfl rfl (Qt.assign rfl) ?_;refine bt ?_
    repeat (fail)
    exact aA func116
  | false =>
   rw [if_neg (by intro hh;have:=hh.2;rw [this] at G6;cases G6),if_pos bZ] at aj;rw [aj];rcases cD with rfl | rfl
   all_goals
    repeat (first | (refine K.load ?_;refine jq rfl rfl rfl ((Qt.fR rfl (by exact rfl)).eq (congrArg (fun b=>D.c (bI b)) bZ)) ?_) | refine aL (KN _) ?_ | refine aL (P _) ?_ | refine aO (fM s g 9 hg hb) ?_ | refine av ?_ | intro _)
    exact aA func116
 | false =>
  rw [if_neg (by rw [bZ];simp),if_neg (by rw [bZ];simp)] at aj;rw [aj];rcases cD with rfl | rfl
  all_goals
   repeat (first | (refine K.load ?_;refine jq rfl rfl rfl ((Qt.fR rfl (by exact rfl)).eq (congrArg (fun b=>D.c (bI b)) bZ)) ?_) | refine aL (KN _) ?_ | refine aL (P _) ?_ | refine aO (fM s g 6 hg hb) ?_ | refine av ?_ | intro _)
   exact aA func116
theorem XV (s:ah) (g:Nat) (h:mY s g) (hk:(ag s g).kind=3∨(ag s g).kind=5) (hc:(common s g).2=false) (hm:aN s (ag s g).ch=true) (e0:¬ ((aa s g).place=1∨(aa s g).place=2∨(aa s g).place=3∨(aa s g).place=5∨(aa s g).place=6∨(aa s g).place=7∨(aa s g).place=8∨(aa s g).place=9∨(aa s g).place=10∨(aa s g).place=11∨(aa s g).place=14)) :
  Pure prog 116 [.agg (az s),.c (nI g)] (.aZ [.agg (az (bR s g).1),.c (bI (bR s g).2)]):=by
 have hg:=h.co.lt;have hf:Few s:=h.fit.toAnd;have hb:=hf.1;have dF:=hf.2.1;have C0:=dA s g hg h.co.dh;have C1:=fN s g h.co;obtain ⟨k,ek,cD⟩:∃ k,(ag s g).kind=k∧(k=3∨k=5):=⟨_,rfl,hk⟩
 have KN:∀ c,((ag s g).kind != c)=(k != c):=fun c=>by rw [ek]
 have KE:∀ c,((ag s g).kind == c)=(k == c):=fun c=>by rw [ek]
 have br:¬ ((ag s g).kind≠3∧(ag s g).kind≠5):=by omega
 have cF:¬ (common s g).2=true:=by rw [hc];simp
 rw [hc] at C1;have CM:=fu s (ag s g).ch;have cB:¬ aN s (ag s g).ch=false:=by rw [hm];simp
 have hl:=eV hm;rw [hm] at CM;have aj:bR s g=bR s g:=rfl
 conv at aj=>rhs;unfold bR;simp only;rw [if_neg br,if_neg cF,if_neg cB]
 refine ax.intro func116 rfl rfl rfl (fun ok e=>?_);rw [aB,aB,aB,aB,aB,aB,aB,aB,aB,aB,aB] at aj;have P1:((aa s g).place == 1)=false:=by simp;omega
 have P2:((aa s g).place == 2)=false:=by simp;omega
 have P3:((aa s g).place == 3)=false:=by simp;omega
 have P5:((aa s g).place == 5)=false:=by simp;omega
 have P6:((aa s g).place == 6)=false:=by simp;omega
 have P7:((aa s g).place == 7)=false:=by simp;omega
 have P8:((aa s g).place == 8)=false:=by simp;omega
 have P9:((aa s g).place == 9)=false:=by simp;omega
 have XJ:((aa s g).place == 10)=false:=by simp;omega
 have XK:((aa s g).place == 11)=false:=by simp;omega
 have N1:((aa s g).place == 14)=false:=by simp;omega
 rw [aj];rcases cD with rfl | rfl
 all_goals
  repeat (first | refine aL (KN _) ?_ | refine av ?_ | intro _)
  exact aA func116
end Fl
open Go.RowKit
namespace Fl
open Sx Go.Proofs.Tryz
set_option maxRecDepth 100000
theorem Fit.dJ {s:ah} (h:Fit s) (c:Int) (x:Cn) (hr:x.recv.length≤50000) (hs:x.send.length≤50000) (hu:x.buf.length≤50000):Fit (aE s c x):=by
 have hf:Few s:=h.toAnd;have vK:Few (aE s c x):=hf.of rfl (W7 _ _ _) rfl;have hc:∀ ch,(cn (aE s c x) ch).recv.length≤50000∧(cn (aE s c x) ch).send.length≤50000∧(cn (aE s c x) ch).buf.length≤50000:=fun ch=>by
  rcases NY s c x ch with e | e
  ·rw [e];exact ⟨hr,hs,hu⟩
  ·rw [e];exact ⟨h.rv ch,h.sd ch,h.bf ch⟩
 exact ⟨vK,h.wk,fun ch=>(hc ch).1,fun ch=>(hc ch).2.1,fun ch=>(hc ch).2.2,h.od,h.sg,h.dn,h.ca,h.cl,h.md⟩
theorem XW (l:List Int) (r v:Int):(iy l r v).1.length=l.length:=by
 unfold iy
 split
 ·rfl
 ·rename_i hn;have:l.length≠0:=fun e=>hn (.inr e)
  simp;omega
theorem Fit.hand {s:ah} (h:Fit s) (ch i:Int):Fit (Sx.hand s ch i).1:=by
 unfold Sx.hand;simp only
 split
 ·exact h
 ·exact h.dJ _ _ (h.rv _) (h.sd _) (by rw [XW];exact h.bf _)
theorem C7 (s:ah) (ch i:Int):(Sx.hand s ch i).1.gs=s.gs:=by unfold Sx.hand;simp only;split <;> rfl
theorem N4 (s:ah) (ch i:Int):(Sx.hand s ch i).1.aC=s.aC:=by unfold Sx.hand;simp only;split <;> rfl
theorem N5 (s:ah) (i ch:Int):aN (bq s i) ch=aN s ch:=by unfold aN;rw [GY]
theorem XX (s:ah) (g:Nat) (h:mY s g) (hk:(ag s g).kind=3∨(ag s g).kind=5) (hc:(common s g).2=false) (hm:aN s (ag s g).ch=true) (e0:(aa s g).place=8) :
  Pure prog 116 [.agg (az s),.c (nI g)] (.aZ [.agg (az (bR s g).1),.c (bI (bR s g).2)]):=by
 have hg:=h.co.lt;have hf:Few s:=h.fit.toAnd;have hb:=hf.1;have dF:=hf.2.1;have C0:=dA s g hg h.co.dh;have C1:=fN s g h.co;obtain ⟨k,ek,cD⟩:∃ k,(ag s g).kind=k∧(k=3∨k=5):=⟨_,rfl,hk⟩
 have KN:∀ c,((ag s g).kind != c)=(k != c):=fun c=>by rw [ek]
 have KE:∀ c,((ag s g).kind == c)=(k == c):=fun c=>by rw [ek]
 have br:¬ ((ag s g).kind≠3∧(ag s g).kind≠5):=by omega
 have cF:¬ (common s g).2=true:=by rw [hc];simp
 rw [hc] at C1;have CM:=fu s (ag s g).ch;have cB:¬ aN s (ag s g).ch=false:=by rw [hm];simp
 have hl:=eV hm;rw [hm] at CM;have aj:bR s g=bR s g:=rfl
 conv at aj=>rhs;unfold bR;simp only;rw [if_neg br,if_neg cF,if_neg cB]
 have P:∀ c,((aa s g).place == c)=((8:Int) == c):=fun c=>by rw [e0]
 refine ax.intro func116 rfl rfl rfl (fun ok e=>?_);rw [aB,aB,aB,aB,aB,aB] at aj;rw [if_pos e0] at aj;have hi:=h.l8 e0;obtain ⟨gq,dR,dx,iw⟩:=id hi;have D1:=ue s (aa s g).hold gq dR (Nat.le_trans (h.fit.rv _) (by omega)) (Nat.le_trans (h.fit.sd _) (by omega)) dF;have k1:dz (bq s (aa s g).hold) (aa s g).hold:=hi.of (vJ _ _) (by rw [fX]);have f1:=h.fit.drop (aa s g).hold;have g1:g < (bq s (aa s g).hold).gs.length:=by rw [fX];exact hg
 have m1:aN (bq s (aa s g).hold) (ag s g).ch=true:=by rw [N5];exact hm
 rw [aj];clear aj;generalize bq s (aa s g).hold=s1 at *;have D2:=N3 s1 (ag s g).ch (aa s g).hold m1 f1.1.2.1 k1.1 k1.2.1 (f1.bf _);have k2:dz (Sx.hand s1 (ag s g).ch (aa s g).hold).1 (aa s g).hold:=k1.of (N4 _ _ _) (by rw [C7]);have f2:=f1.hand (ag s g).ch (aa s g).hold;have g2:g < (Sx.hand s1 (ag s g).ch (aa s g).hold).1.gs.length:=by rw [C7];exact g1
 generalize Sx.hand s1 (ag s g).ch (aa s g).hold=n at *;have D3:=Ap n.1 g (aa s g).hold true g2 k2 f2;have g3:g < (Sx.serve n.1 g (aa s g).hold true).gs.length:=by rw [sR];exact g2
 have b3:(Sx.serve n.1 g (aa s g).hold true).gs.length≤100000:=by rw [sR];exact f2.1.1
 generalize Sx.serve n.1 g (aa s g).hold true=s3 at *;have D4:=cP s3 g { aa s3 g with res:=eJ n.2 true,place:=16 } g3 b3;rcases cD with rfl | rfl
 all_goals
  repeat (first | refine aL (KN _) ?_ | refine aL (P _) ?_ | refine av ?_ | intro _)
  refine J.draw (by kernel_rfl) rfl ?_;refine JW.base (some 13) ?_;refine tk 0 ?_;refine tk 1 ?_;refine tk 2 ?_;refine tk 4 ?_;refine tk 5 ?_;refine tk 6 ?_;refine tk 7 ?_;refine JD.cU (i:=3) (j:=12) (by kernel_rfl) ?_ ?_;refine JS.cz rfl rfl rfl (qb rfl) (Ld.pure (D1) (qb rfl) rfl lq) .none (fun _=>?_);refine JD.cU (i:=8) (j:=12) (by kernel_rfl) ?_ ?_;refine JS.cz rfl rfl rfl (qb rfl) (Ld.pure (D2) (qb rfl) rfl lq) .none (fun _=>?_);refine JD.lV ?_;refine tk 9 ?_;refine tk 10 ?_;refine JD.cU (i:=11) (j:=12) (by kernel_rfl) ?_ ?_;refine JS.q rfl rfl rfl (qb rfl) (Qt.extract rfl rfl) ?_;refine jl 12 rfl rfl rfl rfl (Ld.alloc (qb rfl)) .none (fun _=>?_);refine jt 13 rfl rfl (Ld.aX rfl rfl rfl (by exact rfl) (by exact rfl)) (fun _=>?_);refine JW.base none ?_;refine jk 14 rfl rfl rfl rfl (Qt.assign rfl) ?_;refine bt ?_
  rotate_left
  refine JS.cz rfl rfl rfl (qb rfl) (Ld.alloc (qb rfl)) .none (fun _=>?_);refine JD.cU (i:=11) (j:=13) (by kernel_rfl) ?_ ?_;refine JS.q rfl rfl rfl (qb rfl) (Qt.extract rfl rfl) ?_;refine jt 13 rfl rfl (Ld.aX rfl rfl rfl (by exact rfl) (by exact rfl)) (fun _=>?_);refine JW.base none ?_;refine jk 14 rfl rfl rfl rfl (Qt.assign rfl) ?_;refine bt ?_
  rotate_left
  (refine JS.last rfl rfl (Ld.aX rfl rfl rfl (by exact rfl) (by exact rfl)) (fun _=>?_))
  refine JW.base none ?_;refine jk 11 rfl rfl rfl rfl (Qt.extract rfl rfl) ?_;refine jk 14 rfl rfl rfl rfl (Qt.assign rfl) ?_;refine bt ?_
  rotate_left
  refine JS.cz rfl rfl rfl (qb rfl) (Ld.alloc (qb rfl)) .none (fun _=>?_);refine cW 8 (D2) ?_;refine jk 9 rfl rfl rfl rfl (Qt.move rfl) ?_;refine JD.lV ?_;refine tk 10 ?_;refine JD.cU (i:=11) (j:=13) (by kernel_rfl) ?_ ?_;refine JS.q rfl rfl rfl (qb rfl) (Qt.extract rfl rfl) ?_;refine jt 13 rfl rfl (Ld.aX rfl rfl rfl (by exact rfl) (by exact rfl)) (fun _=>?_);refine JW.base none ?_;refine jk 14 rfl rfl rfl rfl (Qt.assign rfl) ?_;refine bt ?_
  rotate_left
  (refine JS.last rfl rfl (Ld.aX rfl rfl rfl (by exact rfl) (by exact rfl)) (fun _=>?_))
  refine JW.base none ?_;refine jk 11 rfl rfl rfl rfl (Qt.extract rfl rfl) ?_;refine jk 14 rfl rfl rfl rfl (Qt.assign rfl) ?_;refine bt ?_
  rotate_left
  refine JS.cz rfl rfl rfl (qb rfl) (Ld.alloc (qb rfl)) .none (fun _=>?_);refine cW 3 (D1) ?_;refine cW 8 (D2) ?_;refine jk 9 rfl rfl rfl rfl (Qt.move rfl) ?_;refine JD.lV ?_;refine tk 10 ?_;refine JD.cU (i:=11) (j:=13) (by kernel_rfl) ?_ ?_;refine JS.q rfl rfl rfl (qb rfl) (Qt.extract rfl rfl) ?_;refine jt 13 rfl rfl (Ld.aX rfl rfl rfl (by exact rfl) (by exact rfl)) (fun _=>?_);refine JW.base none ?_;refine jk 14 rfl rfl rfl rfl (Qt.assign rfl) ?_;refine bt ?_
  rotate_left
  (refine JS.last rfl rfl (Ld.aX rfl rfl rfl (by exact rfl) (by exact rfl)) (fun _=>?_))
  refine JW.base none ?_;refine jk 11 rfl rfl rfl rfl (Qt.extract rfl rfl) ?_;refine jk 14 rfl rfl rfl rfl (Qt.assign rfl) ?_;refine bt ?_
  rotate_left
  all_goals
   repeat (first | refine aO (lG n.2 true) ?_ | refine av ?_ | intro _)
   exact aA func116
theorem XY (s:ah) (g:Nat) (h:mY s g) :
  Pure prog 116 [.agg (az s),.c (nI g)] (.aZ [.agg (az (bR s g).1),.c (bI (bR s g).2)]):=by
 have hg:=h.co.lt;have C0:=dA s g hg h.co.dh;have C1:=fN s g h.co
 by_cases hk:(ag s g).kind=3∨(ag s g).kind=5
 case neg =>
  refine ax.intro func116 rfl rfl rfl (fun ok e=>?_);have K2:((ag s g).kind != 3)=true:=by simp;omega
  have K4:((ag s g).kind != 5)=true:=by simp;omega
  have er:bR s g=(s,false):=by unfold bR;simp only;rw [if_pos (by omega)]
  rw [er]
  repeat (first | refine av ?_ | intro _)
  exact aA func116
 case pos =>
 have br:¬ ((ag s g).kind≠3∧(ag s g).kind≠5):=by omega
 cases hc:(common s g).2 with
 | true =>
  obtain ⟨k,ek,cD⟩:∃ k,(ag s g).kind=k∧(k=3∨k=5):=⟨_,rfl,hk⟩
  have KN:∀ c,((ag s g).kind != c)=(k != c):=fun c=>by rw [ek]
  refine ax.intro func116 rfl rfl rfl (fun ok e=>?_);have er:bR s g=((common s g).1,true):=by unfold bR;simp only;rw [if_neg br,if_pos hc]
  rw [er];rw [hc] at C1;rcases cD with rfl | rfl
  all_goals
   repeat (first | refine aL (KN _) ?_ | refine av ?_ | intro _)
   exact aA func116
 | false =>
 cases hm:aN s (ag s g).ch with
 | false =>
  have CM:=fu s (ag s g).ch;have cF:¬ (common s g).2=true:=by rw [hc];simp
  obtain ⟨k,ek,cD⟩:∃ k,(ag s g).kind=k∧(k=3∨k=5):=⟨_,rfl,hk⟩
  have KN:∀ c,((ag s g).kind != c)=(k != c):=fun c=>by rw [ek]
  refine ax.intro func116 rfl rfl rfl (fun ok e=>?_);have er:bR s g=(s,false):=by unfold bR;simp only;rw [if_neg br,if_neg cF,if_pos hm]
  rw [er];rw [hc] at C1;rw [hm] at CM;rcases cD with rfl | rfl
  all_goals
   repeat (first | refine aL (KN _) ?_ | refine av ?_ | intro _)
   exact aA func116
 | true =>
  by_cases e1:(aa s g).place=1
  ·exact XL s g h hk hc hm e1
  by_cases e2:(aa s g).place=2
  ·exact XM s g h hk hc hm e2
  by_cases e3:(aa s g).place=3
  ·exact XN s g h hk hc hm e3
  by_cases e5:(aa s g).place=5
  ·exact XU s g h hk hc hm e5
  by_cases e6:(aa s g).place=6
  ·exact XO s g h hk hc hm e6
  by_cases e7:(aa s g).place=7
  ·exact XP s g h hk hc hm e7
  by_cases e8:(aa s g).place=8
  ·exact XX s g h hk hc hm e8
  by_cases e9:(aa s g).place=9
  ·exact XQ s g h hk hc hm e9
  by_cases nJ:(aa s g).place=10
  ·exact XR s g h hk hc hm nJ
  by_cases nK:(aa s g).place=11
  ·exact XS s g h hk hc hm nK
  by_cases jP:(aa s g).place=14
  ·exact XT s g h hk hc hm jP
  exact XV s g h hk hc hm (by omega)
end Fl
open Go.RowKit
namespace Fl
open Sx Go.Proofs.Tryz
set_option maxRecDepth 100000
structure G7 (x:Gr):Prop where
 wk:x.an.length≤50000
 od:x.order.length≤50000
 sg:x.ay.length≤50000
theorem C8 (s:ah) (o:Nat) (x:Gr) (g:Nat):aa (ai s o x) g=x∨aa (ai s o x) g=aa s g:=by
 unfold aa ai;simp only [List.getD_eq_getElem?_getD,List.getElem?_set]
 split
 ·split
  ·exact .inl rfl
  ·rename_i h1 h2;rw [← h1,List.getElem?_eq_none (by omega)];exact .inr rfl
 ·exact .inr rfl
theorem Fit.gr {s:ah} (h:Fit s) (g:Nat):G7 (aa s g):=⟨h.wk g,h.od g,h.sg g⟩
theorem Fit.dy {s:ah} (h:Fit s) (o:Nat) (x:Gr) (hx:G7 x):Fit (ai s o x):=by
 have hf:Few s:=h.toAnd;have vK:Few (ai s o x):=hf.of (cr _ _ _) rfl rfl;have hg:∀ g,G7 (aa (ai s o x) g):=fun g=>by
  rcases C8 s o x g with e | e
  ·rw [e];exact hx
  ·rw [e];exact h.gr g
 exact ⟨vK,fun g=>(hg g).wk,h.rv,h.sd,h.bf,fun g=>(hg g).od,fun g=>(hg g).sg,h.dn,h.ca,h.cl,h.md⟩
theorem G8 (s:ah) (g:Nat) (hg:g < s.gs.length) (hi:dz s (aa s g).hold) (hb:Fit s) :
  Pure prog 142 [.agg (az s),.c (nI g)] (.agg (az (ji s g))):=by
 obtain ⟨gq,dR,dx,iw⟩:=id hi;have hf:Few s:=hb.toAnd;have D1:=cP s g { aa s g with t:=s.step } hg hf.1;have f1:=hb.dy g { aa s g with t:=s.step } ⟨hb.wk g,hb.od g,hb.sg g⟩;have k1:dz (ai s g { aa s g with t:=s.step }) (aa s g).hold:=hi.of rfl (cr _ _ _);have g1:g < (ai s g { aa s g with t:=s.step }).gs.length:=by rw [cr];exact hg
 have D2:=ue (ai s g { aa s g with t:=s.step }) (aa s g).hold k1.1 k1.2.1 (Nat.le_trans (f1.rv _) (by omega)) (Nat.le_trans (f1.sd _) (by omega)) f1.1.2.1;have k2:dz (bq (ai s g { aa s g with t:=s.step }) (aa s g).hold) (aa s g).hold:=k1.of (vJ _ _) (by rw [fX]);have f2:=f1.drop (aa s g).hold;have g2:g < (bq (ai s g { aa s g with t:=s.step }) (aa s g).hold).gs.length:=by rw [fX];exact g1
 have er:ji s g=Sx.serve (ai (bq (ai s g { aa s g with t:=s.step }) (aa s g).hold) (su (bq (ai s g { aa s g with t:=s.step }) (aa s g).hold) (aa s g).hold).g.toNat { aa (bq (ai s g { aa s g with t:=s.step }) (aa s g).hold) (su (bq (ai s g { aa s g with t:=s.step }) (aa s g).hold) (aa s g).hold).g.toNat with bQ:=(aa (bq (ai s g { aa s g with t:=s.step }) (aa s g).hold) g).t,dL:=(su (bq (ai s g { aa s g with t:=s.step }) (aa s g).hold) (aa s g).hold).cs }) g (aa s g).hold false:=rfl;rw [er];clear er;generalize ai s g { aa s g with t:=s.step }=s1 at *;generalize bq s1 (aa s g).hold=s2 at *;have D3:=An s2 (su s2 (aa s g).hold).g { aa s2 (su s2 (aa s g).hold).g.toNat with bQ:=(aa s2 g).t,dL:=(su s2 (aa s g).hold).cs } k2.2.2.1 k2.2.2.2 f2.1.1;have f3:=f2.dy (su s2 (aa s g).hold).g.toNat { aa s2 (su s2 (aa s g).hold).g.toNat with bQ:=(aa s2 g).t,dL:=(su s2 (aa s g).hold).cs } ⟨f2.wk _,f2.od _,f2.sg _⟩;have k3:dz (ai s2 (su s2 (aa s g).hold).g.toNat { aa s2 (su s2 (aa s g).hold).g.toNat with bQ:=(aa s2 g).t,dL:=(su s2 (aa s g).hold).cs }) (aa s g).hold:=k2.of rfl (cr _ _ _);have D4:=Ap _ g (aa s g).hold false (by rw [cr];exact g2) k3 f3;have q0:=k2.2.2.1;have q1:=k2.gr;refine ax.intro func142 rfl rfl rfl (fun ok e=>?_)
 repeat (first | (refine K.indexAddr ?_;first | refine jx rfl rfl rfl rfl (by omega) (iz hg) ?_ | refine jx rfl rfl rfl rfl (by omega) (iz g2) ?_ | refine jx rfl rfl rfl rfl (by omega) (iu k2.1 k2.2.1) ?_ | refine jx rfl rfl rfl rfl (by omega) (q1) ?_) | refine aO (D1) ?_ | refine aO (D2) ?_ | refine aO (D3) ?_ | refine aO (D4) ?_ | refine av ?_ | intro _)
 exact aA func142
end Fl
end Go.Proofs.YtofnbflkhgammaaGreat
