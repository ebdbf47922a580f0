/-
  What the laws need, part A32.
  Conditions: none.
-/
import Derived.Test.YtofnbflkhgammaaGreatA31
set_option linter.unusedVariables false
set_option linter.unusedSimpArgs false
set_option linter.unnecessarySimpa false
set_option maxHeartbeats 2000000
namespace Go.Proofs.YtofnbflkhgammaaGreat
open Go.RowKit
namespace Fl
open Sx
set_option maxRecDepth 100000
theorem Xw (s:Sx.St) (g:Nat) (h:mg s g) (hk:(Sx.op s g).kind=3∨(Sx.op s g).kind=5) (hc:(common s g).2=false) (hm:Sx.made s (Sx.op s g).ch=true) (e0:(Sx.gr s g).place=5) :
  Pure Tryz.prog 116 [.agg (ay s),.c (nI g)] (.aV [.agg (ay (bE s g).1),.c (bI (bE s g).2)]):=by
 have hg:=h.co.lt;have hf:Few s:=h.fit.toAnd;have hb:=hf.1;have dz:=hf.2.1;have C0:=dj s g hg h.co.cY;have C1:=fy s g h.co;obtain ⟨k,ek,ck⟩:∃ k,(Sx.op s g).kind=k∧(k=3∨k=5):=⟨_,rfl,hk⟩
 have KN:∀ c,((Sx.op s g).kind != c)=(k != c):=fun c=>by rw [ek]
 have KE:∀ c,((Sx.op s g).kind == c)=(k == c):=fun c=>by rw [ek]
 have aS:¬ ((Sx.op s g).kind≠3∧(Sx.op s g).kind≠5):=by omega
 have cr:¬ (common s g).2=true:=by rw [hc];simp
 rw [hc] at C1;have CM:=eK s (Sx.op s g).ch;have cz:¬ Sx.made s (Sx.op s g).ch=false:=by rw [hm];simp
 have hl:=eD hm;rw [hm] at CM;have ag:bE s g=bE s g:=rfl
 conv at ag=>rhs;unfold bE;simp only;rw [if_neg aS,if_neg cr,if_neg cz]
 have P:∀ c,((Sx.gr s g).place == c)=((5:Int) == c):=fun c=>by rw [e0]
 refine aq.intro Tryz.func116 rfl rfl rfl (fun ok e=>?_);rw [ax,ax,ax] at ag;rw [if_pos e0] at ag
 cases bQ:(cn s (Sx.op s g).ch).closed with
 | true =>
  cases F9:(((cn s (Sx.op s g).ch).buf.length:Int) == 0) with
  | true =>
   rw [if_pos ⟨bQ,by simpa using F9⟩] at ag;rw [ag];rcases ck with rfl | rfl
   all_goals
    repeat (first | (refine K.load ?_;refine jq rfl rfl rfl ((Qt.iC rfl (by exact rfl)).eq (congrArg (fun b=>D.c (bI b)) bQ)) ?_) | refine aM (KN _) ?_ | refine aM (P _) ?_ | refine au ?_ | intro _)
    refine J.draw (by kernel_rfl) rfl ?_;refine JW.base (some 4) ?_;refine tk 0 ?_;refine tk 1 ?_;refine cU 2 (kQ 0 false) ?_;refine cU 3 (jh s g (ee 0 false) 16 hg hb) ?_;refine jt 4 rfl rfl (Ld.aP rfl rfl rfl (by exact rfl) (by exact rfl)) (fun _=>?_);refine JW.base none ?_;refine jk 5 rfl rfl rfl rfl (Qt.assign rfl) ?_;refine bH ?_
    repeat (fail)
    exact az Tryz.func116
  | false =>
   rw [if_neg (by intro hh;have:=hh.2;rw [this] at F9;cases F9),if_pos bQ] at ag;rw [ag];rcases ck with rfl | rfl
   all_goals
    repeat (first | (refine K.load ?_;refine jq rfl rfl rfl ((Qt.iC rfl (by exact rfl)).eq (congrArg (fun b=>D.c (bI b)) bQ)) ?_) | refine aM (KN _) ?_ | refine aM (P _) ?_ | refine aJ (fG s g 9 hg hb) ?_ | refine au ?_ | intro _)
    exact az Tryz.func116
 | false =>
  rw [if_neg (by rw [bQ];simp),if_neg (by rw [bQ];simp)] at ag;rw [ag];rcases ck with rfl | rfl
  all_goals
   repeat (first | (refine K.load ?_;refine jq rfl rfl rfl ((Qt.iC rfl (by exact rfl)).eq (congrArg (fun b=>D.c (bI b)) bQ)) ?_) | refine aM (KN _) ?_ | refine aM (P _) ?_ | refine aJ (fG s g 6 hg hb) ?_ | refine au ?_ | intro _)
   exact az Tryz.func116
theorem Xx (s:Sx.St) (g:Nat) (h:mg s g) (hk:(Sx.op s g).kind=3∨(Sx.op s g).kind=5) (hc:(common s g).2=false) (hm:Sx.made s (Sx.op s g).ch=true) (e0:¬ ((Sx.gr s g).place=1∨(Sx.gr s g).place=2∨(Sx.gr s g).place=3∨(Sx.gr s g).place=5∨(Sx.gr s g).place=6∨(Sx.gr s g).place=7∨(Sx.gr s g).place=8∨(Sx.gr s g).place=9∨(Sx.gr s g).place=10∨(Sx.gr s g).place=11∨(Sx.gr s g).place=14)) :
  Pure Tryz.prog 116 [.agg (ay s),.c (nI g)] (.aV [.agg (ay (bE s g).1),.c (bI (bE s g).2)]):=by
 have hg:=h.co.lt;have hf:Few s:=h.fit.toAnd;have hb:=hf.1;have dz:=hf.2.1;have C0:=dj s g hg h.co.cY;have C1:=fy s g h.co;obtain ⟨k,ek,ck⟩:∃ k,(Sx.op s g).kind=k∧(k=3∨k=5):=⟨_,rfl,hk⟩
 have KN:∀ c,((Sx.op s g).kind != c)=(k != c):=fun c=>by rw [ek]
 have KE:∀ c,((Sx.op s g).kind == c)=(k == c):=fun c=>by rw [ek]
 have aS:¬ ((Sx.op s g).kind≠3∧(Sx.op s g).kind≠5):=by omega
 have cr:¬ (common s g).2=true:=by rw [hc];simp
 rw [hc] at C1;have CM:=eK s (Sx.op s g).ch;have cz:¬ Sx.made s (Sx.op s g).ch=false:=by rw [hm];simp
 have hl:=eD hm;rw [hm] at CM;have ag:bE s g=bE s g:=rfl
 conv at ag=>rhs;unfold bE;simp only;rw [if_neg aS,if_neg cr,if_neg cz]
 refine aq.intro Tryz.func116 rfl rfl rfl (fun ok e=>?_);rw [ax,ax,ax,ax,ax,ax,ax,ax,ax,ax,ax] at ag;have P1:((Sx.gr s g).place == 1)=false:=by simp;omega
 have P2:((Sx.gr s g).place == 2)=false:=by simp;omega
 have P3:((Sx.gr s g).place == 3)=false:=by simp;omega
 have P5:((Sx.gr s g).place == 5)=false:=by simp;omega
 have P6:((Sx.gr s g).place == 6)=false:=by simp;omega
 have P7:((Sx.gr s g).place == 7)=false:=by simp;omega
 have P8:((Sx.gr s g).place == 8)=false:=by simp;omega
 have P9:((Sx.gr s g).place == 9)=false:=by simp;omega
 have Xk:((Sx.gr s g).place == 10)=false:=by simp;omega
 have Xl:((Sx.gr s g).place == 11)=false:=by simp;omega
 have MJ:((Sx.gr s g).place == 14)=false:=by simp;omega
 rw [ag];rcases ck with rfl | rfl
 all_goals
  repeat (first | refine aM (KN _) ?_ | refine au ?_ | intro _)
  exact az Tryz.func116
end Fl
open Go.RowKit
namespace Fl
open Sx
set_option maxRecDepth 100000
theorem Fit.av {s:Sx.St} (h:Fit s) (c:Int) (x:Cn) (hr:x.recv.length≤50000) (hs:x.send.length≤50000) (hu:x.buf.length≤50000):Fit (Sx.av s c x):=by
 have hf:Few s:=h.toAnd;have uL:Few (Sx.av s c x):=hf.of rfl (WG _ _ _) rfl;have hc:∀ ch,(cn (Sx.av s c x) ch).recv.length≤50000∧(cn (Sx.av s c x) ch).send.length≤50000∧(cn (Sx.av s c x) ch).buf.length≤50000:=fun ch=>by
  rcases MG s c x ch with e | e
  ·rw [e];exact ⟨hr,hs,hu⟩
  ·rw [e];exact ⟨h.rv ch,h.sd ch,h.bf ch⟩
 exact ⟨uL,h.wk,fun ch=>(hc ch).1,fun ch=>(hc ch).2.1,fun ch=>(hc ch).2.2,h.od,h.sg,h.dn,h.ca,h.cl,h.md⟩
theorem Xy (l:List Int) (r v:Int):(gQ l r v).1.length=l.length:=by
 unfold gQ
 split
 ·rfl
 ·rename_i hn;have:l.length≠0:=fun e=>hn (.inr e)
  simp;omega
theorem Fit.hand {s:Sx.St} (h:Fit s) (ch i:Int):Fit (Sx.hand s ch i).1:=by
 unfold Sx.hand;simp only
 split
 ·exact h
 ·exact h.av _ _ (h.rv _) (h.sd _) (by rw [Xy];exact h.bf _)
theorem B1 (s:Sx.St) (ch i:Int):(Sx.hand s ch i).1.gs=s.gs:=by unfold Sx.hand;simp only;split <;> rfl
theorem ML (s:Sx.St) (ch i:Int):(Sx.hand s ch i).1.aB=s.aB:=by unfold Sx.hand;simp only;split <;> rfl
theorem MM (s:Sx.St) (i ch:Int):Sx.made (Sx.drop s i) ch=Sx.made s ch:=by unfold Sx.made;rw [F0]
theorem Xz (s:Sx.St) (g:Nat) (h:mg s g) (hk:(Sx.op s g).kind=3∨(Sx.op s g).kind=5) (hc:(common s g).2=false) (hm:Sx.made s (Sx.op s g).ch=true) (e0:(Sx.gr s g).place=8) :
  Pure Tryz.prog 116 [.agg (ay s),.c (nI g)] (.aV [.agg (ay (bE s g).1),.c (bI (bE s g).2)]):=by
 have hg:=h.co.lt;have hf:Few s:=h.fit.toAnd;have hb:=hf.1;have dz:=hf.2.1;have C0:=dj s g hg h.co.cY;have C1:=fy s g h.co;obtain ⟨k,ek,ck⟩:∃ k,(Sx.op s g).kind=k∧(k=3∨k=5):=⟨_,rfl,hk⟩
 have KN:∀ c,((Sx.op s g).kind != c)=(k != c):=fun c=>by rw [ek]
 have KE:∀ c,((Sx.op s g).kind == c)=(k == c):=fun c=>by rw [ek]
 have aS:¬ ((Sx.op s g).kind≠3∧(Sx.op s g).kind≠5):=by omega
 have cr:¬ (common s g).2=true:=by rw [hc];simp
 rw [hc] at C1;have CM:=eK s (Sx.op s g).ch;have cz:¬ Sx.made s (Sx.op s g).ch=false:=by rw [hm];simp
 have hl:=eD hm;rw [hm] at CM;have ag:bE s g=bE s g:=rfl
 conv at ag=>rhs;unfold bE;simp only;rw [if_neg aS,if_neg cr,if_neg cz]
 have P:∀ c,((Sx.gr s g).place == c)=((8:Int) == c):=fun c=>by rw [e0]
 refine aq.intro Tryz.func116 rfl rfl rfl (fun ok e=>?_);rw [ax,ax,ax,ax,ax,ax] at ag;rw [if_pos e0] at ag;have hi:=h.l8 e0;obtain ⟨fV,dI,dA,gP⟩:=id hi;have D1:=tr s (Sx.gr s g).hold fV dI (Nat.le_trans (h.fit.rv _) (by omega)) (Nat.le_trans (h.fit.sd _) (by omega)) dz;have k1:dm (Sx.drop s (Sx.gr s g).hold) (Sx.gr s g).hold:=hi.of (uK _ _) (by rw [fL]);have f1:=h.fit.drop (Sx.gr s g).hold;have g1:g < (Sx.drop s (Sx.gr s g).hold).gs.length:=by rw [fL];exact hg
 have m1:Sx.made (Sx.drop s (Sx.gr s g).hold) (Sx.op s g).ch=true:=by rw [MM];exact hm
 rw [ag];clear ag;generalize Sx.drop s (Sx.gr s g).hold=s1 at *;have D2:=MK s1 (Sx.op s g).ch (Sx.gr s g).hold m1 f1.1.2.1 k1.1 k1.2.1 (f1.bf _);have k2:dm (Sx.hand s1 (Sx.op s g).ch (Sx.gr s g).hold).1 (Sx.gr s g).hold:=k1.of (ML _ _ _) (by rw [B1]);have f2:=f1.hand (Sx.op s g).ch (Sx.gr s g).hold;have g2:g < (Sx.hand s1 (Sx.op s g).ch (Sx.gr s g).hold).1.gs.length:=by rw [B1];exact g1
 generalize Sx.hand s1 (Sx.op s g).ch (Sx.gr s g).hold=n at *;have D3:=wv n.1 g (Sx.gr s g).hold true g2 k2 f2;have g3:g < (Sx.serve n.1 g (Sx.gr s g).hold true).gs.length:=by rw [rP];exact g2
 have b3:(Sx.serve n.1 g (Sx.gr s g).hold true).gs.length≤100000:=by rw [rP];exact f2.1.1
 generalize Sx.serve n.1 g (Sx.gr s g).hold true=s3 at *;have D4:=cE s3 g { Sx.gr s3 g with res:=ee n.2 true,place:=16 } g3 b3;rcases ck with rfl | rfl
 all_goals
  repeat (first | refine aM (KN _) ?_ | refine aM (P _) ?_ | refine au ?_ | intro _)
  refine J.draw (by kernel_rfl) rfl ?_;refine JW.base (some 13) ?_;refine tk 0 ?_;refine tk 1 ?_;refine tk 2 ?_;refine tk 4 ?_;refine tk 5 ?_;refine tk 6 ?_;refine tk 7 ?_;refine JD.cB (i:=3) (j:=12) (by kernel_rfl) ?_ ?_;refine JS.bp rfl rfl rfl (qb rfl) (Ld.pure (D1) (qb rfl) rfl lq) .none (fun _=>?_);refine JD.cB (i:=8) (j:=12) (by kernel_rfl) ?_ ?_;refine JS.bp rfl rfl rfl (qb rfl) (Ld.pure (D2) (qb rfl) rfl lq) .none (fun _=>?_);refine JD.lP ?_;refine tk 9 ?_;refine tk 10 ?_;refine JD.cB (i:=11) (j:=12) (by kernel_rfl) ?_ ?_;refine JS.q rfl rfl rfl (qb rfl) (Qt.extract rfl rfl) ?_;refine jl 12 rfl rfl rfl rfl (Ld.alloc (qb rfl)) .none (fun _=>?_);refine jt 13 rfl rfl (Ld.aP rfl rfl rfl (by exact rfl) (by exact rfl)) (fun _=>?_);refine JW.base none ?_;refine jk 14 rfl rfl rfl rfl (Qt.assign rfl) ?_;refine bH ?_
  rotate_left
  refine JS.bp rfl rfl rfl (qb rfl) (Ld.alloc (qb rfl)) .none (fun _=>?_);refine JD.cB (i:=11) (j:=13) (by kernel_rfl) ?_ ?_;refine JS.q rfl rfl rfl (qb rfl) (Qt.extract rfl rfl) ?_;refine jt 13 rfl rfl (Ld.aP rfl rfl rfl (by exact rfl) (by exact rfl)) (fun _=>?_);refine JW.base none ?_;refine jk 14 rfl rfl rfl rfl (Qt.assign rfl) ?_;refine bH ?_
  rotate_left
  (refine JS.last rfl rfl (Ld.aP rfl rfl rfl (by exact rfl) (by exact rfl)) (fun _=>?_))
  refine JW.base none ?_;refine jk 11 rfl rfl rfl rfl (Qt.extract rfl rfl) ?_;refine jk 14 rfl rfl rfl rfl (Qt.assign rfl) ?_;refine bH ?_
  rotate_left
  refine JS.bp rfl rfl rfl (qb rfl) (Ld.alloc (qb rfl)) .none (fun _=>?_);refine cU 8 (D2) ?_;refine jk 9 rfl rfl rfl rfl (Qt.move rfl) ?_;refine JD.lP ?_;refine tk 10 ?_;refine JD.cB (i:=11) (j:=13) (by kernel_rfl) ?_ ?_;refine JS.q rfl rfl rfl (qb rfl) (Qt.extract rfl rfl) ?_;refine jt 13 rfl rfl (Ld.aP rfl rfl rfl (by exact rfl) (by exact rfl)) (fun _=>?_);refine JW.base none ?_;refine jk 14 rfl rfl rfl rfl (Qt.assign rfl) ?_;refine bH ?_
  rotate_left
  (refine JS.last rfl rfl (Ld.aP rfl rfl rfl (by exact rfl) (by exact rfl)) (fun _=>?_))
  refine JW.base none ?_;refine jk 11 rfl rfl rfl rfl (Qt.extract rfl rfl) ?_;refine jk 14 rfl rfl rfl rfl (Qt.assign rfl) ?_;refine bH ?_
  rotate_left
  refine JS.bp rfl rfl rfl (qb rfl) (Ld.alloc (qb rfl)) .none (fun _=>?_);refine cU 3 (D1) ?_;refine cU 8 (D2) ?_;refine jk 9 rfl rfl rfl rfl (Qt.move rfl) ?_;refine JD.lP ?_;refine tk 10 ?_;refine JD.cB (i:=11) (j:=13) (by kernel_rfl) ?_ ?_;refine JS.q rfl rfl rfl (qb rfl) (Qt.extract rfl rfl) ?_;refine jt 13 rfl rfl (Ld.aP rfl rfl rfl (by exact rfl) (by exact rfl)) (fun _=>?_);refine JW.base none ?_;refine jk 14 rfl rfl rfl rfl (Qt.assign rfl) ?_;refine bH ?_
  rotate_left
  (refine JS.last rfl rfl (Ld.aP rfl rfl rfl (by exact rfl) (by exact rfl)) (fun _=>?_))
  refine JW.base none ?_;refine jk 11 rfl rfl rfl rfl (Qt.extract rfl rfl) ?_;refine jk 14 rfl rfl rfl rfl (Qt.assign rfl) ?_;refine bH ?_
  rotate_left
  all_goals
   repeat (first | refine aJ (kQ n.2 true) ?_ | refine au ?_ | intro _)
   exact az Tryz.func116
theorem XA (s:Sx.St) (g:Nat) (h:mg s g) :
  Pure Tryz.prog 116 [.agg (ay s),.c (nI g)] (.aV [.agg (ay (bE s g).1),.c (bI (bE s g).2)]):=by
 have hg:=h.co.lt;have C0:=dj s g hg h.co.cY;have C1:=fy s g h.co
 by_cases hk:(Sx.op s g).kind=3∨(Sx.op s g).kind=5
 case neg =>
  refine aq.intro Tryz.func116 rfl rfl rfl (fun ok e=>?_);have K2:((Sx.op s g).kind != 3)=true:=by simp;omega
  have K4:((Sx.op s g).kind != 5)=true:=by simp;omega
  have er:bE s g=(s,false):=by unfold bE;simp only;rw [if_pos (by omega)]
  rw [er]
  repeat (first | refine au ?_ | intro _)
  exact az Tryz.func116
 case pos =>
 have aS:¬ ((Sx.op s g).kind≠3∧(Sx.op s g).kind≠5):=by omega
 cases hc:(common s g).2 with
 | true =>
  obtain ⟨k,ek,ck⟩:∃ k,(Sx.op s g).kind=k∧(k=3∨k=5):=⟨_,rfl,hk⟩
  have KN:∀ c,((Sx.op s g).kind != c)=(k != c):=fun c=>by rw [ek]
  refine aq.intro Tryz.func116 rfl rfl rfl (fun ok e=>?_);have er:bE s g=((common s g).1,true):=by unfold bE;simp only;rw [if_neg aS,if_pos hc]
  rw [er];rw [hc] at C1;rcases ck with rfl | rfl
  all_goals
   repeat (first | refine aM (KN _) ?_ | refine au ?_ | intro _)
   exact az Tryz.func116
 | false =>
 cases hm:Sx.made s (Sx.op s g).ch with
 | false =>
  have CM:=eK s (Sx.op s g).ch;have cr:¬ (common s g).2=true:=by rw [hc];simp
  obtain ⟨k,ek,ck⟩:∃ k,(Sx.op s g).kind=k∧(k=3∨k=5):=⟨_,rfl,hk⟩
  have KN:∀ c,((Sx.op s g).kind != c)=(k != c):=fun c=>by rw [ek]
  refine aq.intro Tryz.func116 rfl rfl rfl (fun ok e=>?_);have er:bE s g=(s,false):=by unfold bE;simp only;rw [if_neg aS,if_neg cr,if_pos hm]
  rw [er];rw [hc] at C1;rw [hm] at CM;rcases ck with rfl | rfl
  all_goals
   repeat (first | refine aM (KN _) ?_ | refine au ?_ | intro _)
   exact az Tryz.func116
 | true =>
  by_cases e1:(Sx.gr s g).place=1
  ·exact Xn s g h hk hc hm e1
  by_cases e2:(Sx.gr s g).place=2
  ·exact Xo s g h hk hc hm e2
  by_cases e3:(Sx.gr s g).place=3
  ·exact Xp s g h hk hc hm e3
  by_cases e5:(Sx.gr s g).place=5
  ·exact Xw s g h hk hc hm e5
  by_cases e6:(Sx.gr s g).place=6
  ·exact Xq s g h hk hc hm e6
  by_cases e7:(Sx.gr s g).place=7
  ·exact Xr s g h hk hc hm e7
  by_cases e8:(Sx.gr s g).place=8
  ·exact Xz s g h hk hc hm e8
  by_cases e9:(Sx.gr s g).place=9
  ·exact Xs s g h hk hc hm e9
  by_cases mV:(Sx.gr s g).place=10
  ·exact Xt s g h hk hc hm mV
  by_cases mW:(Sx.gr s g).place=11
  ·exact Xu s g h hk hc hm mW
  by_cases jz:(Sx.gr s g).place=14
  ·exact Xv s g h hk hc hm jz
  exact Xx s g h hk hc hm (by omega)
end Fl
open Go.RowKit
namespace Fl
open Sx
set_option maxRecDepth 100000
structure Ga (x:Gr):Prop where
 wk:x.ah.length≤50000
 od:x.order.length≤50000
 sg:x.ak.length≤50000
theorem B3 (s:Sx.St) (o:Nat) (x:Gr) (g:Nat):Sx.gr (Sx.aa s o x) g=x∨Sx.gr (Sx.aa s o x) g=Sx.gr s g:=by
 unfold Sx.gr Sx.aa;simp only [List.getD_eq_getElem?_getD,List.getElem?_set]
 split
 ·split
  ·exact .inl rfl
  ·rename_i h1 h2;rw [← h1,List.getElem?_eq_none (by omega)];exact .inr rfl
 ·exact .inr rfl
theorem Fit.gr {s:Sx.St} (h:Fit s) (g:Nat):Ga (Sx.gr s g):=⟨h.wk g,h.od g,h.sg g⟩
theorem Fit.aa {s:Sx.St} (h:Fit s) (o:Nat) (x:Gr) (hx:Ga x):Fit (Sx.aa s o x):=by
 have hf:Few s:=h.toAnd;have uL:Few (Sx.aa s o x):=hf.of (bV _ _ _) rfl rfl;have hg:∀ g,Ga (Sx.gr (Sx.aa s o x) g):=fun g=>by
  rcases B3 s o x g with e | e
  ·rw [e];exact hx
  ·rw [e];exact h.gr g
 exact ⟨uL,fun g=>(hg g).wk,h.rv,h.sd,h.bf,fun g=>(hg g).od,fun g=>(hg g).sg,h.dn,h.ca,h.cl,h.md⟩
theorem Gb (s:Sx.St) (g:Nat) (hg:g < s.gs.length) (hi:dm s (Sx.gr s g).hold) (hb:Fit s) :
  Pure Tryz.prog 142 [.agg (ay s),.c (nI g)] (.agg (ay (Sx.eU s g))):=by
 obtain ⟨fV,dI,dA,gP⟩:=id hi;have hf:Few s:=hb.toAnd;have D1:=cE s g { Sx.gr s g with t:=s.step } hg hf.1;have f1:=hb.aa g { Sx.gr s g with t:=s.step } ⟨hb.wk g,hb.od g,hb.sg g⟩;have k1:dm (Sx.aa s g { Sx.gr s g with t:=s.step }) (Sx.gr s g).hold:=hi.of rfl (bV _ _ _);have g1:g < (Sx.aa s g { Sx.gr s g with t:=s.step }).gs.length:=by rw [bV];exact hg
 have D2:=tr (Sx.aa s g { Sx.gr s g with t:=s.step }) (Sx.gr s g).hold k1.1 k1.2.1 (Nat.le_trans (f1.rv _) (by omega)) (Nat.le_trans (f1.sd _) (by omega)) f1.1.2.1;have k2:dm (Sx.drop (Sx.aa s g { Sx.gr s g with t:=s.step }) (Sx.gr s g).hold) (Sx.gr s g).hold:=k1.of (uK _ _) (by rw [fL]);have f2:=f1.drop (Sx.gr s g).hold;have g2:g < (Sx.drop (Sx.aa s g { Sx.gr s g with t:=s.step }) (Sx.gr s g).hold).gs.length:=by rw [fL];exact g1
 have er:Sx.eU s g=Sx.serve (Sx.aa (Sx.drop (Sx.aa s g { Sx.gr s g with t:=s.step }) (Sx.gr s g).hold) (su (Sx.drop (Sx.aa s g { Sx.gr s g with t:=s.step }) (Sx.gr s g).hold) (Sx.gr s g).hold).g.toNat { Sx.gr (Sx.drop (Sx.aa s g { Sx.gr s g with t:=s.step }) (Sx.gr s g).hold) (su (Sx.drop (Sx.aa s g { Sx.gr s g with t:=s.step }) (Sx.gr s g).hold) (Sx.gr s g).hold).g.toNat with bG:=(Sx.gr (Sx.drop (Sx.aa s g { Sx.gr s g with t:=s.step }) (Sx.gr s g).hold) g).t,dh:=(su (Sx.drop (Sx.aa s g { Sx.gr s g with t:=s.step }) (Sx.gr s g).hold) (Sx.gr s g).hold).cs }) g (Sx.gr s g).hold false:=rfl;rw [er];clear er;generalize Sx.aa s g { Sx.gr s g with t:=s.step }=s1 at *;generalize Sx.drop s1 (Sx.gr s g).hold=s2 at *;have D3:=zc s2 (su s2 (Sx.gr s g).hold).g { Sx.gr s2 (su s2 (Sx.gr s g).hold).g.toNat with bG:=(Sx.gr s2 g).t,dh:=(su s2 (Sx.gr s g).hold).cs } k2.2.2.1 k2.2.2.2 f2.1.1;have f3:=f2.aa (su s2 (Sx.gr s g).hold).g.toNat { Sx.gr s2 (su s2 (Sx.gr s g).hold).g.toNat with bG:=(Sx.gr s2 g).t,dh:=(su s2 (Sx.gr s g).hold).cs } ⟨f2.wk _,f2.od _,f2.sg _⟩;have k3:dm (Sx.aa s2 (su s2 (Sx.gr s g).hold).g.toNat { Sx.gr s2 (su s2 (Sx.gr s g).hold).g.toNat with bG:=(Sx.gr s2 g).t,dh:=(su s2 (Sx.gr s g).hold).cs }) (Sx.gr s g).hold:=k2.of rfl (bV _ _ _);have D4:=wv _ g (Sx.gr s g).hold false (by rw [bV];exact g2) k3 f3;have q0:=k2.2.2.1;have q1:=k2.gr;refine aq.intro Tryz.func142 rfl rfl rfl (fun ok e=>?_)
 repeat (first | (refine K.indexAddr ?_;first | refine jx rfl rfl rfl rfl (by omega) (iA hg) ?_ | refine jx rfl rfl rfl rfl (by omega) (iA g2) ?_ | refine jx rfl rfl rfl rfl (by omega) (ic k2.1 k2.2.1) ?_ | refine jx rfl rfl rfl rfl (by omega) (q1) ?_) | refine aJ (D1) ?_ | refine aJ (D2) ?_ | refine aJ (D3) ?_ | refine aJ (D4) ?_ | refine au ?_ | intro _)
 exact az Tryz.func142
end Fl
end Go.Proofs.YtofnbflkhgammaaGreat
