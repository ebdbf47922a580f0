/-
  What the laws need, part A29.
  Conditions: none.
-/
import Derived.Test.YtdjhhbpedllnhaaGreatA28
set_option linter.unusedVariables false
set_option linter.unusedSimpArgs false
set_option linter.unnecessarySimpa false
set_option maxHeartbeats 2000000
namespace Go.Proofs.YtdjhhbpedllnhaaGreat
open Go.RowKit
namespace Fl
open Sx Go.Proofs.Tryz
set_option maxRecDepth 100000
theorem XQ (s:ah) (g:Nat) (h:nr s g) (hk:(ag s g).kind=3∨(ag s g).kind=5) (hc:(common s g).2=false) (hm:aL s (ag s g).ch=true) (e0:(aa s g).place=5) :
  Pure prog 172 [.agg (aD s),.c (nI g)] (.aZ [.agg (aD (bz s g).1),.c (bI (bz s g).2)]):=by
 have hg:=h.co.lt;have hf:Few s:=h.fit.toAnd;have hb:=hf.1;have dM:=hf.2.1;have C0:=dH s g hg h.co.dm;have C1:=fV s g h.co;obtain ⟨k,ek,cL⟩:∃ k,(ag s g).kind=k∧(k=3∨k=5):=⟨_,rfl,hk⟩
 have KN:∀ c,((ag s g).kind != c)=(k != c):=fun c=>by rw [ek]
 have KE:∀ c,((ag s g).kind == c)=(k == c):=fun c=>by rw [ek]
 have bu:¬ ((ag s g).kind≠3∧(ag s g).kind≠5):=by omega
 have cP:¬ (common s g).2=true:=by rw [hc];simp
 rw [hc] at C1;have CM:=fD s (ag s g).ch;have cF:¬ aL s (ag s g).ch=false:=by rw [hm];simp
 have hl:=fh hm;rw [hm] at CM;have aj:bz s g=bz s g:=rfl
 conv at aj=>rhs;unfold bz;simp only;rw [if_neg bu,if_neg cP,if_neg cF]
 have P:∀ c,((aa s g).place == c)=((5:Int) == c):=fun c=>by rw [e0]
 refine av.intro func172 rfl rfl rfl (fun ok e=>?_);rw [az,az,az] at aj;rw [if_pos e0] at aj
 cases bY:(cn s (ag s g).ch).closed with
 | true =>
  cases GR:(((cn s (ag s g).ch).buf.length:Int) == 0) with
  | true =>
   rw [if_pos ⟨bY,by simpa using GR⟩] at aj;rw [aj];rcases cL with rfl | rfl
   all_goals
    repeat (first | (refine K.load ?_;refine jq rfl rfl rfl ((Qt.lf rfl (by exact rfl)).eq (congrArg (fun b=>D.c (bI b)) bY)) ?_) | refine aK (KN _) ?_ | refine aK (P _) ?_ | refine ay ?_ | intro _)
    refine J.draw (by kernel_rfl) rfl ?_;refine JW.base (some 4) ?_;refine tk 0 ?_;refine tk 1 ?_;refine c9 2 (lR 0 false) ?_;refine c9 3 (jA s g (cZ 0 false) 16 hg hb) ?_;refine jt 4 rfl rfl (Ld.bh rfl rfl rfl (by exact rfl) (by exact rfl)) (fun _=>?_);refine JW.base none ?_;refine jk 5 rfl rfl rfl rfl (Qt.assign rfl) ?_;refine bX ?_
    repeat (fail)
    exact aC func172
  | false =>
   rw [if_neg (by intro hh;have:=hh.2;rw [this] at GR;cases GR),if_pos bY] at aj;rw [aj];rcases cL with rfl | rfl
   all_goals
    repeat (first | (refine K.load ?_;refine jq rfl rfl rfl ((Qt.lf rfl (by exact rfl)).eq (congrArg (fun b=>D.c (bI b)) bY)) ?_) | refine aK (KN _) ?_ | refine aK (P _) ?_ | refine aR (fU s g 9 hg hb) ?_ | refine ay ?_ | intro _)
    exact aC func172
 | false =>
  rw [if_neg (by rw [bY];simp),if_neg (by rw [bY];simp)] at aj;rw [aj];rcases cL with rfl | rfl
  all_goals
   repeat (first | (refine K.load ?_;refine jq rfl rfl rfl ((Qt.lf rfl (by exact rfl)).eq (congrArg (fun b=>D.c (bI b)) bY)) ?_) | refine aK (KN _) ?_ | refine aK (P _) ?_ | refine aR (fU s g 6 hg hb) ?_ | refine ay ?_ | intro _)
   exact aC func172
theorem XR (s:ah) (g:Nat) (h:nr s g) (hk:(ag s g).kind=3∨(ag s g).kind=5) (hc:(common s g).2=false) (hm:aL s (ag s g).ch=true) (e0:¬ ((aa s g).place=1∨(aa s g).place=2∨(aa s g).place=3∨(aa s g).place=5∨(aa s g).place=6∨(aa s g).place=7∨(aa s g).place=8∨(aa s g).place=9∨(aa s g).place=10∨(aa s g).place=11∨(aa s g).place=14)) :
  Pure prog 172 [.agg (aD s),.c (nI g)] (.aZ [.agg (aD (bz s g).1),.c (bI (bz s g).2)]):=by
 have hg:=h.co.lt;have hf:Few s:=h.fit.toAnd;have hb:=hf.1;have dM:=hf.2.1;have C0:=dH s g hg h.co.dm;have C1:=fV s g h.co;obtain ⟨k,ek,cL⟩:∃ k,(ag s g).kind=k∧(k=3∨k=5):=⟨_,rfl,hk⟩
 have KN:∀ c,((ag s g).kind != c)=(k != c):=fun c=>by rw [ek]
 have KE:∀ c,((ag s g).kind == c)=(k == c):=fun c=>by rw [ek]
 have bu:¬ ((ag s g).kind≠3∧(ag s g).kind≠5):=by omega
 have cP:¬ (common s g).2=true:=by rw [hc];simp
 rw [hc] at C1;have CM:=fD s (ag s g).ch;have cF:¬ aL s (ag s g).ch=false:=by rw [hm];simp
 have hl:=fh hm;rw [hm] at CM;have aj:bz s g=bz s g:=rfl
 conv at aj=>rhs;unfold bz;simp only;rw [if_neg bu,if_neg cP,if_neg cF]
 refine av.intro func172 rfl rfl rfl (fun ok e=>?_);rw [az,az,az,az,az,az,az,az,az,az,az] at aj;have P1:((aa s g).place == 1)=false:=by simp;omega
 have P2:((aa s g).place == 2)=false:=by simp;omega
 have P3:((aa s g).place == 3)=false:=by simp;omega
 have P5:((aa s g).place == 5)=false:=by simp;omega
 have P6:((aa s g).place == 6)=false:=by simp;omega
 have P7:((aa s g).place == 7)=false:=by simp;omega
 have P8:((aa s g).place == 8)=false:=by simp;omega
 have P9:((aa s g).place == 9)=false:=by simp;omega
 have XE:((aa s g).place == 10)=false:=by simp;omega
 have XF:((aa s g).place == 11)=false:=by simp;omega
 have Nw:((aa s g).place == 14)=false:=by simp;omega
 rw [aj];rcases cL with rfl | rfl
 all_goals
  repeat (first | refine aK (KN _) ?_ | refine ay ?_ | intro _)
  exact aC func172
end Fl
open Go.RowKit
namespace Fl
open Sx Go.Proofs.Tryz
set_option maxRecDepth 100000
theorem Fit.dQ {s:ah} (h:Fit s) (c:Int) (x:Cn) (hr:x.recv.length≤50000) (hs:x.send.length≤50000) (hu:x.buf.length≤50000):Fit (aA s c x):=by
 have hf:Few s:=h.toAnd;have vN:Few (aA s c x):=hf.of rfl (W4 _ _ _) rfl;have hc:∀ ch,(cn (aA s c x) ch).recv.length≤50000∧(cn (aA s c x) ch).send.length≤50000∧(cn (aA s c x) ch).buf.length≤50000:=fun ch=>by
  rcases Nt s c x ch with e | e
  ·rw [e];exact ⟨hr,hs,hu⟩
  ·rw [e];exact ⟨h.rv ch,h.sd ch,h.bf ch⟩
 exact ⟨vN,h.wk,fun ch=>(hc ch).1,fun ch=>(hc ch).2.1,fun ch=>(hc ch).2.2,h.od,h.sg,h.dn,h.ca,h.cl,h.md⟩
theorem XS (l:List Int) (r v:Int):(eF l r v).1.length=l.length:=by
 unfold eF
 split
 ·rfl
 ·rename_i hn;have:l.length≠0:=fun e=>hn (.inr e)
  simp;omega
theorem Fit.hand {s:ah} (h:Fit s) (ch i:Int):Fit (Sx.hand s ch i).1:=by
 unfold Sx.hand;simp only
 split
 ·exact h
 ·exact h.dQ _ _ (h.rv _) (h.sd _) (by rw [XS];exact h.bf _)
theorem C8 (s:ah) (ch i:Int):(Sx.hand s ch i).1.gs=s.gs:=by unfold Sx.hand;simp only;split <;> rfl
theorem Ny (s:ah) (ch i:Int):(Sx.hand s ch i).1.aB=s.aB:=by unfold Sx.hand;simp only;split <;> rfl
theorem Nz (s:ah) (i ch:Int):aL (aT s i) ch=aL s ch:=by unfold aL;rw [GN]
theorem XT (s:ah) (g:Nat) (h:nr s g) (hk:(ag s g).kind=3∨(ag s g).kind=5) (hc:(common s g).2=false) (hm:aL s (ag s g).ch=true) (e0:(aa s g).place=8) :
  Pure prog 172 [.agg (aD s),.c (nI g)] (.aZ [.agg (aD (bz s g).1),.c (bI (bz s g).2)]):=by
 have hg:=h.co.lt;have hf:Few s:=h.fit.toAnd;have hb:=hf.1;have dM:=hf.2.1;have C0:=dH s g hg h.co.dm;have C1:=fV s g h.co;obtain ⟨k,ek,cL⟩:∃ k,(ag s g).kind=k∧(k=3∨k=5):=⟨_,rfl,hk⟩
 have KN:∀ c,((ag s g).kind != c)=(k != c):=fun c=>by rw [ek]
 have KE:∀ c,((ag s g).kind == c)=(k == c):=fun c=>by rw [ek]
 have bu:¬ ((ag s g).kind≠3∧(ag s g).kind≠5):=by omega
 have cP:¬ (common s g).2=true:=by rw [hc];simp
 rw [hc] at C1;have CM:=fD s (ag s g).ch;have cF:¬ aL s (ag s g).ch=false:=by rw [hm];simp
 have hl:=fh hm;rw [hm] at CM;have aj:bz s g=bz s g:=rfl
 conv at aj=>rhs;unfold bz;simp only;rw [if_neg bu,if_neg cP,if_neg cF]
 have P:∀ c,((aa s g).place == c)=((8:Int) == c):=fun c=>by rw [e0]
 refine av.intro func172 rfl rfl rfl (fun ok e=>?_);rw [az,az,az,az,az,az] at aj;rw [if_pos e0] at aj;have hi:=h.l8 e0;obtain ⟨gG,dY,fo,iD⟩:=id hi;have D1:=ue s (aa s g).hold gG dY (Nat.le_trans (h.fit.rv _) (by omega)) (Nat.le_trans (h.fit.sd _) (by omega)) dM;have k1:dL (aT s (aa s g).hold) (aa s g).hold:=hi.of (vL _ _) (by rw [gf]);have f1:=h.fit.drop (aa s g).hold;have g1:g < (aT s (aa s g).hold).gs.length:=by rw [gf];exact hg
 have m1:aL (aT s (aa s g).hold) (ag s g).ch=true:=by rw [Nz];exact hm
 rw [aj];clear aj;generalize aT s (aa s g).hold=s1 at *;have D2:=Nx s1 (ag s g).ch (aa s g).hold m1 f1.1.2.1 k1.1 k1.2.1 (f1.bf _);have k2:dL (Sx.hand s1 (ag s g).ch (aa s g).hold).1 (aa s g).hold:=k1.of (Ny _ _ _) (by rw [C8]);have f2:=f1.hand (ag s g).ch (aa s g).hold;have g2:g < (Sx.hand s1 (ag s g).ch (aa s g).hold).1.gs.length:=by rw [C8];exact g1
 generalize Sx.hand s1 (ag s g).ch (aa s g).hold=n at *;have D3:=An n.1 g (aa s g).hold true g2 k2 f2;have g3:g < (Sx.serve n.1 g (aa s g).hold true).gs.length:=by rw [sS];exact g2
 have b3:(Sx.serve n.1 g (aa s g).hold true).gs.length≤100000:=by rw [sS];exact f2.1.1
 generalize Sx.serve n.1 g (aa s g).hold true=s3 at *;have D4:=cS s3 g { aa s3 g with res:=cZ n.2 true,place:=16 } g3 b3;rcases cL with rfl | rfl
 all_goals
  repeat (first | refine aK (KN _) ?_ | refine aK (P _) ?_ | refine ay ?_ | intro _)
  refine J.draw (by kernel_rfl) rfl ?_;refine JW.base (some 13) ?_;refine tk 0 ?_;refine tk 1 ?_;refine tk 2 ?_;refine tk 4 ?_;refine tk 5 ?_;refine tk 6 ?_;refine tk 7 ?_;refine JD.dA (i:=3) (j:=12) (by kernel_rfl) ?_ ?_;refine JS.cK rfl rfl rfl (qb rfl) (Ld.pure (D1) (qb rfl) rfl lq) .none (fun _=>?_);refine JD.dA (i:=8) (j:=12) (by kernel_rfl) ?_ ?_;refine JS.cK rfl rfl rfl (qb rfl) (Ld.pure (D2) (qb rfl) rfl lq) .none (fun _=>?_);refine JD.nA ?_;refine tk 9 ?_;refine tk 10 ?_;refine JD.dA (i:=11) (j:=12) (by kernel_rfl) ?_ ?_;refine JS.q rfl rfl rfl (qb rfl) (Qt.extract rfl rfl) ?_;refine jl 12 rfl rfl rfl rfl (Ld.alloc (qb rfl)) .none (fun _=>?_);refine jt 13 rfl rfl (Ld.bh rfl rfl rfl (by exact rfl) (by exact rfl)) (fun _=>?_);refine JW.base none ?_;refine jk 14 rfl rfl rfl rfl (Qt.assign rfl) ?_;refine bX ?_
  rotate_left
  refine JS.cK rfl rfl rfl (qb rfl) (Ld.alloc (qb rfl)) .none (fun _=>?_);refine JD.dA (i:=11) (j:=13) (by kernel_rfl) ?_ ?_;refine JS.q rfl rfl rfl (qb rfl) (Qt.extract rfl rfl) ?_;refine jt 13 rfl rfl (Ld.bh rfl rfl rfl (by exact rfl) (by exact rfl)) (fun _=>?_);refine JW.base none ?_;refine jk 14 rfl rfl rfl rfl (Qt.assign rfl) ?_;refine bX ?_
  rotate_left
  (refine JS.last rfl rfl (Ld.bh rfl rfl rfl (by exact rfl) (by exact rfl)) (fun _=>?_))
  refine JW.base none ?_;refine jk 11 rfl rfl rfl rfl (Qt.extract rfl rfl) ?_;refine jk 14 rfl rfl rfl rfl (Qt.assign rfl) ?_;refine bX ?_
  rotate_left
  refine JS.cK rfl rfl rfl (qb rfl) (Ld.alloc (qb rfl)) .none (fun _=>?_);refine c9 8 (D2) ?_;refine jk 9 rfl rfl rfl rfl (Qt.move rfl) ?_;refine JD.nA ?_;refine tk 10 ?_;refine JD.dA (i:=11) (j:=13) (by kernel_rfl) ?_ ?_;refine JS.q rfl rfl rfl (qb rfl) (Qt.extract rfl rfl) ?_;refine jt 13 rfl rfl (Ld.bh rfl rfl rfl (by exact rfl) (by exact rfl)) (fun _=>?_);refine JW.base none ?_;refine jk 14 rfl rfl rfl rfl (Qt.assign rfl) ?_;refine bX ?_
  rotate_left
  (refine JS.last rfl rfl (Ld.bh rfl rfl rfl (by exact rfl) (by exact rfl)) (fun _=>?_))
  refine JW.base none ?_;refine jk 11 rfl rfl rfl rfl (Qt.extract rfl rfl) ?_;refine jk 14 rfl rfl rfl rfl (Qt.assign rfl) ?_;refine bX ?_
  rotate_left
  refine JS.cK rfl rfl rfl (qb rfl) (Ld.alloc (qb rfl)) .none (fun _=>?_);refine c9 3 (D1) ?_;refine c9 8 (D2) ?_;refine jk 9 rfl rfl rfl rfl (Qt.move rfl) ?_;refine JD.nA ?_;refine tk 10 ?_;refine JD.dA (i:=11) (j:=13) (by kernel_rfl) ?_ ?_;refine JS.q rfl rfl rfl (qb rfl) (Qt.extract rfl rfl) ?_;refine jt 13 rfl rfl (Ld.bh rfl rfl rfl (by exact rfl) (by exact rfl)) (fun _=>?_);refine JW.base none ?_;refine jk 14 rfl rfl rfl rfl (Qt.assign rfl) ?_;refine bX ?_
  rotate_left
  (refine JS.last rfl rfl (Ld.bh rfl rfl rfl (by exact rfl) (by exact rfl)) (fun _=>?_))
  refine JW.base none ?_;refine jk 11 rfl rfl rfl rfl (Qt.extract rfl rfl) ?_;refine jk 14 rfl rfl rfl rfl (Qt.assign rfl) ?_;refine bX ?_
  rotate_left
  all_goals
   repeat (first | refine aR (lR n.2 true) ?_ | refine ay ?_ | intro _)
   exact aC func172
theorem XU (s:ah) (g:Nat) (h:nr s g) :
  Pure prog 172 [.agg (aD s),.c (nI g)] (.aZ [.agg (aD (bz s g).1),.c (bI (bz s g).2)]):=by
 have hg:=h.co.lt;have C0:=dH s g hg h.co.dm;have C1:=fV s g h.co
 by_cases hk:(ag s g).kind=3∨(ag s g).kind=5
 case neg =>
  refine av.intro func172 rfl rfl rfl (fun ok e=>?_);have K2:((ag s g).kind != 3)=true:=by simp;omega
  have K4:((ag s g).kind != 5)=true:=by simp;omega
  have er:bz s g=(s,false):=by unfold bz;simp only;rw [if_pos (by omega)]
  rw [er]
  repeat (first | refine ay ?_ | intro _)
  exact aC func172
 case pos =>
 have bu:¬ ((ag s g).kind≠3∧(ag s g).kind≠5):=by omega
 cases hc:(common s g).2 with
 | true =>
  obtain ⟨k,ek,cL⟩:∃ k,(ag s g).kind=k∧(k=3∨k=5):=⟨_,rfl,hk⟩
  have KN:∀ c,((ag s g).kind != c)=(k != c):=fun c=>by rw [ek]
  refine av.intro func172 rfl rfl rfl (fun ok e=>?_);have er:bz s g=((common s g).1,true):=by unfold bz;simp only;rw [if_neg bu,if_pos hc]
  rw [er];rw [hc] at C1;rcases cL with rfl | rfl
  all_goals
   repeat (first | refine aK (KN _) ?_ | refine ay ?_ | intro _)
   exact aC func172
 | false =>
 cases hm:aL s (ag s g).ch with
 | false =>
  have CM:=fD s (ag s g).ch;have cP:¬ (common s g).2=true:=by rw [hc];simp
  obtain ⟨k,ek,cL⟩:∃ k,(ag s g).kind=k∧(k=3∨k=5):=⟨_,rfl,hk⟩
  have KN:∀ c,((ag s g).kind != c)=(k != c):=fun c=>by rw [ek]
  refine av.intro func172 rfl rfl rfl (fun ok e=>?_);have er:bz s g=(s,false):=by unfold bz;simp only;rw [if_neg bu,if_neg cP,if_pos hm]
  rw [er];rw [hc] at C1;rw [hm] at CM;rcases cL with rfl | rfl
  all_goals
   repeat (first | refine aK (KN _) ?_ | refine ay ?_ | intro _)
   exact aC func172
 | true =>
  by_cases e1:(aa s g).place=1
  ·exact XH s g h hk hc hm e1
  by_cases e2:(aa s g).place=2
  ·exact XI s g h hk hc hm e2
  by_cases e3:(aa s g).place=3
  ·exact XJ s g h hk hc hm e3
  by_cases e5:(aa s g).place=5
  ·exact XQ s g h hk hc hm e5
  by_cases e6:(aa s g).place=6
  ·exact XK s g h hk hc hm e6
  by_cases e7:(aa s g).place=7
  ·exact XL s g h hk hc hm e7
  by_cases e8:(aa s g).place=8
  ·exact XT s g h hk hc hm e8
  by_cases e9:(aa s g).place=9
  ·exact XM s g h hk hc hm e9
  by_cases nU:(aa s g).place=10
  ·exact XN s g h hk hc hm nU
  by_cases nV:(aa s g).place=11
  ·exact XO s g h hk hc hm nV
  by_cases jV:(aa s g).place=14
  ·exact XP s g h hk hc hm jV
  exact XR s g h hk hc hm (by omega)
end Fl
open Go.RowKit
namespace Fl
open Sx Go.Proofs.Tryz
set_option maxRecDepth 100000
structure GU (x:Gr):Prop where
 wk:x.ak.length≤50000
 od:x.order.length≤50000
 sg:x.ax.length≤50000
theorem C9 (s:ah) (o:Nat) (x:Gr) (g:Nat):aa (ai s o x) g=x∨aa (ai s o x) g=aa s g:=by
 unfold aa ai;simp only [List.getD_eq_getElem?_getD,List.getElem?_set]
 split
 ·split
  ·exact .inl rfl
  ·rename_i h1 h2;rw [← h1,List.getElem?_eq_none (by omega)];exact .inr rfl
 ·exact .inr rfl
theorem Fit.gr {s:ah} (h:Fit s) (g:Nat):GU (aa s g):=⟨h.wk g,h.od g,h.sg g⟩
theorem Fit.dK {s:ah} (h:Fit s) (o:Nat) (x:Gr) (hx:GU x):Fit (ai s o x):=by
 have hf:Few s:=h.toAnd;have vN:Few (ai s o x):=hf.of (cz _ _ _) rfl rfl;have hg:∀ g,GU (aa (ai s o x) g):=fun g=>by
  rcases C9 s o x g with e | e
  ·rw [e];exact hx
  ·rw [e];exact h.gr g
 exact ⟨vN,fun g=>(hg g).wk,h.rv,h.sd,h.bf,fun g=>(hg g).od,fun g=>(hg g).sg,h.dn,h.ca,h.cl,h.md⟩
theorem GW (s:ah) (g:Nat) (hg:g < s.gs.length) (hi:dL s (aa s g).hold) (hb:Fit s) :
  Pure prog 233 [.agg (aD s),.c (nI g)] (.agg (aD (Sx.fR s g))):=by
 obtain ⟨gG,dY,fo,iD⟩:=id hi;have hf:Few s:=hb.toAnd;have D1:=cS s g { aa s g with t:=s.step } hg hf.1;have f1:=hb.dK g { aa s g with t:=s.step } ⟨hb.wk g,hb.od g,hb.sg g⟩;have k1:dL (ai s g { aa s g with t:=s.step }) (aa s g).hold:=hi.of rfl (cz _ _ _);have g1:g < (ai s g { aa s g with t:=s.step }).gs.length:=by rw [cz];exact hg
 have D2:=ue (ai s g { aa s g with t:=s.step }) (aa s g).hold k1.1 k1.2.1 (Nat.le_trans (f1.rv _) (by omega)) (Nat.le_trans (f1.sd _) (by omega)) f1.1.2.1;have k2:dL (aT (ai s g { aa s g with t:=s.step }) (aa s g).hold) (aa s g).hold:=k1.of (vL _ _) (by rw [gf]);have f2:=f1.drop (aa s g).hold;have g2:g < (aT (ai s g { aa s g with t:=s.step }) (aa s g).hold).gs.length:=by rw [gf];exact g1
 have er:Sx.fR s g=Sx.serve (ai (aT (ai s g { aa s g with t:=s.step }) (aa s g).hold) (su (aT (ai s g { aa s g with t:=s.step }) (aa s g).hold) (aa s g).hold).g.toNat { aa (aT (ai s g { aa s g with t:=s.step }) (aa s g).hold) (su (aT (ai s g { aa s g with t:=s.step }) (aa s g).hold) (aa s g).hold).g.toNat with bE:=(aa (aT (ai s g { aa s g with t:=s.step }) (aa s g).hold) g).t,dJ:=(su (aT (ai s g { aa s g with t:=s.step }) (aa s g).hold) (aa s g).hold).cs }) g (aa s g).hold false:=rfl;rw [er];clear er;generalize ai s g { aa s g with t:=s.step }=s1 at *;generalize aT s1 (aa s g).hold=s2 at *;have D3:=Al s2 (su s2 (aa s g).hold).g { aa s2 (su s2 (aa s g).hold).g.toNat with bE:=(aa s2 g).t,dJ:=(su s2 (aa s g).hold).cs } k2.2.2.1 k2.2.2.2 f2.1.1;have f3:=f2.dK (su s2 (aa s g).hold).g.toNat { aa s2 (su s2 (aa s g).hold).g.toNat with bE:=(aa s2 g).t,dJ:=(su s2 (aa s g).hold).cs } ⟨f2.wk _,f2.od _,f2.sg _⟩;have k3:dL (ai s2 (su s2 (aa s g).hold).g.toNat { aa s2 (su s2 (aa s g).hold).g.toNat with bE:=(aa s2 g).t,dJ:=(su s2 (aa s g).hold).cs }) (aa s g).hold:=k2.of rfl (cz _ _ _);have D4:=An _ g (aa s g).hold false (by rw [cz];exact g2) k3 f3;have q0:=k2.2.2.1;have q1:=k2.gr;refine av.intro func233 rfl rfl rfl (fun ok e=>?_)
 repeat (first | (refine K.indexAddr ?_;first | refine jx rfl rfl rfl rfl (by omega) (gZ hg) ?_ | refine jx rfl rfl rfl rfl (by omega) (gZ g2) ?_ | refine jx rfl rfl rfl rfl (by omega) (iB k2.1 k2.2.1) ?_ | refine jx rfl rfl rfl rfl (by omega) (q1) ?_) | refine aR (D1) ?_ | refine aR (D2) ?_ | refine aR (D3) ?_ | refine aR (D4) ?_ | refine ay ?_ | intro _)
 exact aC func233
end Fl
open Go.RowKit
namespace Fl
open Sx Go.Proofs.Tryz
set_option maxRecDepth 100000
structure xI (s:ah) (g:Nat):Prop where
 co:xE s g
 fit:Fit s
 Da:(aa s g).place=22→(∀ i l,(cn s (ag s g).ch).recv=i :: l→dL s i)∧(∀ i l,(cn s (ag s g).ch).send=i :: l→dL s i)
 GX:(aa s g).place=23→dL s (aa s g).hold
theorem NA {s:ah} {g:Nat} {x:Gr} (h:g < s.gs.length):aa (ai s g x) g=x:=by
 unfold aa ai;simp [h]
theorem XV {s:ah} {o g:Nat} {x:Gr} (e:x.hold=(aa s o).hold):(aa (ai s o x) g).hold=(aa s g).hold:=by
 by_cases h:o=g
 ·subst h;rcases C9 s o x o with e1 | e1
  ·rw [e1,e]
  ·rw [e1]
 ·have:aa (ai s o x) g=aa s g:=by
   unfold aa ai;simp only [List.getD_eq_getElem?_getD,List.getElem?_set];rw [if_neg h]
  rw [this]
theorem NB (s:ah) (g:Nat):(Sx.fR s g).gs.length=s.gs.length:=by
 unfold Sx.fR;simp only [sS,cz,gf]
theorem XW (s:ah) (g:Nat) (h:xI s g) (hk:(ag s g).kind=6) (hc:(common s g).2=false) (hm:aL s (ag s g).ch=true) (e0:(aa s g).place=21) :
  Pure prog 173 [.agg (aD s),.c (nI g)] (.aZ [.agg (aD (cj s g).1),.c (bI (cj s g).2)]):=by
 have hg:=h.co.lt;have hf:Few s:=h.fit.toAnd;have hb:=hf.1;have dM:=hf.2.1;have C0:=dH s g hg h.co.dm;have C1:=fV s g h.co;have K6:((ag s g).kind != 6)=false:=by rw [hk];rfl
 have bu:¬ ((ag s g).kind≠6):=by omega
 have cP:¬ (common s g).2=true:=by rw [hc];simp
 rw [hc] at C1;have CM:=fD s (ag s g).ch;have cF:¬ aL s (ag s g).ch=false:=by rw [hm];simp
 have hl:=fh hm;rw [hm] at CM;have aj:cj s g=cj s g:=rfl
 conv at aj=>rhs;unfold cj;simp only;rw [if_neg bu,if_neg cP,if_neg cF]
 have P:∀ c,((aa s g).place == c)=((21:Int) == c):=fun c=>by rw [e0]
 refine av.intro func173 rfl rfl rfl (fun ok e=>?_);rw [if_pos e0] at aj
 cases bY:(cn s (ag s g).ch).closed with
 | true =>
  rw [if_pos bY] at aj;rw [aj]
  repeat (first | refine J.iy (congrArg (fun b=>some (D.c (bI b))) bY) ?_ | refine aK (P _) ?_ | refine aR (jA s g (Sx.res 4) 16 hg hb) ?_ | refine ay ?_ | intro _)
  exact aC func173
 | false =>
  rw [if_neg (by rw [bY];simp)] at aj;rw [aj]
  repeat (first | refine J.gK (congrArg (fun b=>some (D.c (bI b))) bY) ?_ | refine aK (P _) ?_ | refine aR (nL s (ag s g).ch { (cn s (ag s g).ch) with closed:=true } hm dM) ?_ | refine aR (jA (aA s (ag s g).ch { (cn s (ag s g).ch) with closed:=true }) g gj 22 hg hb) ?_ | refine ay ?_ | intro _)
  exact aC func173
theorem XX (s:ah) (g:Nat) (h:xI s g) (hk:(ag s g).kind=6) (hc:(common s g).2=false) (hm:aL s (ag s g).ch=true) (e0:(aa s g).place=22) :
  Pure prog 173 [.agg (aD s),.c (nI g)] (.aZ [.agg (aD (cj s g).1),.c (bI (cj s g).2)]):=by
 have hg:=h.co.lt;have hf:Few s:=h.fit.toAnd;have hb:=hf.1;have dM:=hf.2.1;have C0:=dH s g hg h.co.dm;have C1:=fV s g h.co;have K6:((ag s g).kind != 6)=false:=by rw [hk];rfl
 have bu:¬ ((ag s g).kind≠6):=by omega
 have cP:¬ (common s g).2=true:=by rw [hc];simp
 rw [hc] at C1;have CM:=fD s (ag s g).ch;have cF:¬ aL s (ag s g).ch=false:=by rw [hm];simp
 have hl:=fh hm;rw [hm] at CM;have aj:cj s g=cj s g:=rfl
 conv at aj=>rhs;unfold cj;simp only;rw [if_neg bu,if_neg cP,if_neg cF]
 have P:∀ c,((aa s g).place == c)=((22:Int) == c):=fun c=>by rw [e0]
 refine av.intro func173 rfl rfl rfl (fun ok e=>?_);rw [az] at aj;rw [if_pos e0] at aj
 cases hr:(cn s (ag s g).ch).recv with
 | cons a l =>
  have hz:(decide (((cn s (ag s g).ch).recv.length:Int) > 0))=true:=by rw [hr];simp
  have w0:((cn s (ag s g).ch).recv.map fun n=>[nI n])[(0:Int).toNat]?=some [nI a]:=by rw [hr];rfl
  rw [if_pos (by rw [hr];simp),hr] at aj;dsimp only [List.headD_cons] at aj;have k0:dL s a:=(h.Da e0).1 a l hr;have k1:dL (ai s g { aa s g with hold:=a }) a:=k0.of rfl (cz _ _ _);have g1:g < (ai s g { aa s g with hold:=a }).gs.length:=by rw [cz];exact hg
  have f1:=h.fit.dK g { aa s g with hold:=a } ⟨h.fit.wk g,h.fit.od g,h.fit.sg g⟩;have hh:(aa (ai s g { aa s g with hold:=a }) g).hold=a:=by rw [NA hg]
  have D1:=cS s g { aa s g with hold:=a } hg hb;have D2:=fU (ai s g { aa s g with hold:=a }) g 23 g1 f1.1.1;have D3:=GW (ai s g { aa s g with hold:=a }) g g1 (by rw [hh];exact k1) f1;have uk:ff s g a=if 0≤(su (ai s g { aa s g with hold:=a }) a).cs then Sx.aG (ai s g { aa s g with hold:=a }) g 23 else Sx.fR (ai s g { aa s g with hold:=a }) g:=rfl
  rw [uk] at aj;clear uk hh;generalize ai s g { aa s g with hold:=a }=s1 at *;have q0:=k1.1
  cases jm:decide ((su s1 a).cs ≥ 0) with
  | true =>
   rw [if_pos (by simpa using jm)] at aj;rw [aj]
   repeat (first | (refine K.indexAddr ?_;refine jx rfl rfl rfl rfl (by omega) (iB k1.1 k1.2.1) ?_) | refine aK (P _) ?_ | refine ay ?_ | intro _)
   exact aC func173
  | false =>
   rw [if_neg (by simpa using jm)] at aj;rw [aj]
   repeat (first | (refine K.indexAddr ?_;refine jx rfl rfl rfl rfl (by omega) (iB k1.1 k1.2.1) ?_) | refine aK (P _) ?_ | refine ay ?_ | intro _)
   exact aC func173
 | nil =>
  have hz:(decide (((cn s (ag s g).ch).recv.length:Int) > 0))=false:=by rw [hr];rfl
  rw [if_neg (by rw [hr];simp)] at aj
  cases hs:(cn s (ag s g).ch).send with
  | cons a l =>
   have hy:(decide (((cn s (ag s g).ch).send.length:Int) > 0))=true:=by rw [hs];simp
   have w0:((cn s (ag s g).ch).send.map fun n=>[nI n])[(0:Int).toNat]?=some [nI a]:=by rw [hs];rfl
   rw [if_pos (by rw [hs];simp),hs] at aj;dsimp only [List.headD_cons] at aj;have k0:dL s a:=(h.Da e0).2 a l hs;have k1:dL (ai s g { aa s g with hold:=a }) a:=k0.of rfl (cz _ _ _);have g1:g < (ai s g { aa s g with hold:=a }).gs.length:=by rw [cz];exact hg
   have f1:=h.fit.dK g { aa s g with hold:=a } ⟨h.fit.wk g,h.fit.od g,h.fit.sg g⟩;have hh:(aa (ai s g { aa s g with hold:=a }) g).hold=a:=by rw [NA hg]
   have D1:=cS s g { aa s g with hold:=a } hg hb;have D2:=fU (ai s g { aa s g with hold:=a }) g 23 g1 f1.1.1;have D3:=GW (ai s g { aa s g with hold:=a }) g g1 (by rw [hh];exact k1) f1;have uk:ff s g a=if 0≤(su (ai s g { aa s g with hold:=a }) a).cs then Sx.aG (ai s g { aa s g with hold:=a }) g 23 else Sx.fR (ai s g { aa s g with hold:=a }) g:=rfl
   rw [uk] at aj;clear uk hh;generalize ai s g { aa s g with hold:=a }=s1 at *;have q0:=k1.1
   cases jm:decide ((su s1 a).cs ≥ 0) with
   | true =>
    rw [if_pos (by simpa using jm)] at aj;rw [aj]
    repeat (first | (refine K.indexAddr ?_;refine jx rfl rfl rfl rfl (by omega) (iB k1.1 k1.2.1) ?_) | refine aK (P _) ?_ | refine ay ?_ | intro _)
    exact aC func173
   | false =>
    rw [if_neg (by simpa using jm)] at aj;rw [aj]
    repeat (first | (refine K.indexAddr ?_;refine jx rfl rfl rfl rfl (by omega) (iB k1.1 k1.2.1) ?_) | refine aK (P _) ?_ | refine ay ?_ | intro _)
    exact aC func173
  | nil =>
   have hy:(decide (((cn s (ag s g).ch).send.length:Int) > 0))=false:=by rw [hs];rfl
   rw [if_neg (by rw [hs];simp)] at aj;rw [aj]
   repeat (first | refine aK (P _) ?_ | refine aR (fU s g 16 hg hb) ?_ | refine ay ?_ | intro _)
   exact aC func173
theorem XY (s:ah) (g:Nat) (h:xI s g) (hk:(ag s g).kind=6) (hc:(common s g).2=false) (hm:aL s (ag s g).ch=true) (e0:(aa s g).place=23) :
  Pure prog 173 [.agg (aD s),.c (nI g)] (.aZ [.agg (aD (cj s g).1),.c (bI (cj s g).2)]):=by
 have hg:=h.co.lt;have hf:Few s:=h.fit.toAnd;have hb:=hf.1;have dM:=hf.2.1;have C0:=dH s g hg h.co.dm;have C1:=fV s g h.co;have K6:((ag s g).kind != 6)=false:=by rw [hk];rfl
 have bu:¬ ((ag s g).kind≠6):=by omega
 have cP:¬ (common s g).2=true:=by rw [hc];simp
 rw [hc] at C1;have CM:=fD s (ag s g).ch;have cF:¬ aL s (ag s g).ch=false:=by rw [hm];simp
 have hl:=fh hm;rw [hm] at CM;have aj:cj s g=cj s g:=rfl
 conv at aj=>rhs;unfold cj;simp only;rw [if_neg bu,if_neg cP,if_neg cF]
 have P:∀ c,((aa s g).place == c)=((23:Int) == c):=fun c=>by rw [e0]
 refine av.intro func173 rfl rfl rfl (fun ok e=>?_);rw [az,az] at aj;rw [if_pos e0] at aj;have hi:=h.GX e0;obtain ⟨gG,dY,fo,iD⟩:=id hi;have Xs:=hi.gr;have uk:ic s g=if (aa s (su s (aa s g).hold).g.toNat).aU=true then ai (aT s (aa s g).hold) g { aa s g with hold:=-1,place:=22 } else Sx.aG (Sx.fR (ai s (su s (aa s g).hold).g.toNat { aa s (su s (aa s g).hold).g.toNat with aU:=true }) g) g 22:=rfl
 rw [uk] at aj;clear uk
 cases hp:(aa s (su s (aa s g).hold).g.toNat).aU with
 | true =>
  rw [if_pos hp] at aj;have D1:=ue s (aa s g).hold gG dY (Nat.le_trans (h.fit.rv _) (by omega)) (Nat.le_trans (h.fit.sd _) (by omega)) dM;have D2:=cS (aT s (aa s g).hold) g { aa s g with hold:=-1,place:=22 } (by rw [gf];exact hg) (by rw [gf];exact hb);rw [aj]
  repeat (first | refine J.iy (congrArg (fun b=>some (D.c (bI b))) hp) ?_ | (refine K.indexAddr ?_;refine jx rfl rfl rfl rfl (by omega) (iB gG dY) ?_) | refine aK (P _) ?_ | refine ay ?_ | intro _)
  exact aC func173
 | false =>
  rw [if_neg (by rw [hp];simp)] at aj;have D1:=Al s (su s (aa s g).hold).g { aa s (su s (aa s g).hold).g.toNat with aU:=true } fo iD hb;have f1:=h.fit.dK (su s (aa s g).hold).g.toNat { aa s (su s (aa s g).hold).g.toNat with aU:=true } ⟨h.fit.wk _,h.fit.od _,h.fit.sg _⟩;have k1:dL (ai s (su s (aa s g).hold).g.toNat { aa s (su s (aa s g).hold).g.toNat with aU:=true }) (aa s g).hold:=hi.of rfl (cz _ _ _);have g1:g < (ai s (su s (aa s g).hold).g.toNat { aa s (su s (aa s g).hold).g.toNat with aU:=true }).gs.length:=by rw [cz];exact hg
  have hh:(aa (ai s (su s (aa s g).hold).g.toNat { aa s (su s (aa s g).hold).g.toNat with aU:=true }) g).hold=(aa s g).hold:=XV rfl;have D2:=GW _ g g1 (by rw [hh];exact k1) f1;generalize ai s (su s (aa s g).hold).g.toNat { aa s (su s (aa s g).hold).g.toNat with aU:=true }=s1 at *;have D3:=fU (Sx.fR s1 g) g 22 (by rw [NB];exact g1) (by rw [NB];exact f1.1.1);rw [aj]
  repeat (first | refine J.gK (congrArg (fun b=>some (D.c (bI b))) hp) ?_ | (refine K.indexAddr ?_;refine jx rfl rfl rfl rfl (by omega) (iB gG dY) ?_) | refine aK (P _) ?_ | refine ay ?_ | intro _)
  exact aC func173
theorem XZ (s:ah) (g:Nat) (h:xI s g) (hk:(ag s g).kind=6) (hc:(common s g).2=false) (hm:aL s (ag s g).ch=true) (e0:¬ ((aa s g).place=21∨(aa s g).place=22∨(aa s g).place=23)) :
  Pure prog 173 [.agg (aD s),.c (nI g)] (.aZ [.agg (aD (cj s g).1),.c (bI (cj s g).2)]):=by
 have hg:=h.co.lt;have hf:Few s:=h.fit.toAnd;have hb:=hf.1;have dM:=hf.2.1;have C0:=dH s g hg h.co.dm;have C1:=fV s g h.co;have K6:((ag s g).kind != 6)=false:=by rw [hk];rfl
 have bu:¬ ((ag s g).kind≠6):=by omega
 have cP:¬ (common s g).2=true:=by rw [hc];simp
 rw [hc] at C1;have CM:=fD s (ag s g).ch;have cF:¬ aL s (ag s g).ch=false:=by rw [hm];simp
 have hl:=fh hm;rw [hm] at CM;have aj:cj s g=cj s g:=rfl
 conv at aj=>rhs;unfold cj;simp only;rw [if_neg bu,if_neg cP,if_neg cF]
 refine av.intro func173 rfl rfl rfl (fun ok e=>?_);rw [az,az,az] at aj;have P21:((aa s g).place == 21)=false:=by simp;omega
 have P22:((aa s g).place == 22)=false:=by simp;omega
 have P23:((aa s g).place == 23)=false:=by simp;omega
 rw [aj]
 repeat (first | refine ay ?_ | intro _)
 exact aC func173
theorem X0 (s:ah) (g:Nat) (h:xI s g) :
  Pure prog 173 [.agg (aD s),.c (nI g)] (.aZ [.agg (aD (cj s g).1),.c (bI (cj s g).2)]):=by
 have hg:=h.co.lt;have C0:=dH s g hg h.co.dm;have C1:=fV s g h.co
 by_cases hk:(ag s g).kind=6
 case neg =>
  refine av.intro func173 rfl rfl rfl (fun ok e=>?_);have K6:((ag s g).kind != 6)=true:=by simp;omega
  have er:cj s g=(s,false):=by unfold cj;simp only;rw [if_pos (by omega)]
  rw [er]
  repeat (first | refine ay ?_ | intro _)
  exact aC func173
 case pos =>
 have bu:¬ ((ag s g).kind≠6):=by omega
 have K6:((ag s g).kind != 6)=false:=by rw [hk];rfl
 cases hc:(common s g).2 with
 | true =>
  refine av.intro func173 rfl rfl rfl (fun ok e=>?_);have er:cj s g=((common s g).1,true):=by unfold cj;simp only;rw [if_neg bu,if_pos hc]
  rw [er];rw [hc] at C1
  repeat (first | refine ay ?_ | intro _)
  exact aC func173
 | false =>
 cases hm:aL s (ag s g).ch with
 | false =>
  have CM:=fD s (ag s g).ch;have cP:¬ (common s g).2=true:=by rw [hc];simp
  refine av.intro func173 rfl rfl rfl (fun ok e=>?_);have er:cj s g=(s,false):=by unfold cj;simp only;rw [if_neg bu,if_neg cP,if_pos hm]
  rw [er];rw [hc] at C1;rw [hm] at CM
  repeat (first | refine ay ?_ | intro _)
  exact aC func173
 | true =>
  by_cases Ax:(aa s g).place=21
  ·exact XW s g h hk hc hm Ax
  by_cases Db:(aa s g).place=22
  ·exact XX s g h hk hc hm Db
  by_cases Dc:(aa s g).place=23
  ·exact XY s g h hk hc hm Dc
  exact XZ s g h hk hc hm (by omega)
end Fl
end Go.Proofs.YtdjhhbpedllnhaaGreat
