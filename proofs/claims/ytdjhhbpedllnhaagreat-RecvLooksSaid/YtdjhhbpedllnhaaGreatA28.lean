/-
  What the laws need, part A28.
  Conditions: none.
-/
import Derived.Test.YtdjhhbpedllnhaaGreatA27
set_option linter.unusedVariables false
set_option linter.unusedSimpArgs false
set_option linter.unnecessarySimpa false
set_option maxHeartbeats 2000000
namespace Go.Proofs.YtdjhhbpedllnhaaGreat
open Go.RowKit
namespace Fl
open Sx Go.Proofs.Tryz
set_option maxRecDepth 100000
theorem Nt (s:ah) (c:Int) (x:Cn) (ch:Int):cn (aA s c x) ch=x∨cn (aA s c x) ch=cn s ch:=by
 unfold cn aA;simp only [List.getD_eq_getElem?_getD,List.getElem?_set]
 split
 ·split
  ·exact .inl rfl
  ·rename_i h1 h2;rw [← h1,List.getElem?_eq_none (by omega)];exact .inr rfl
 ·exact .inr rfl
theorem Fit.drop {s:ah} (h:Fit s) (i:Int):Fit (aT s i):=by
 have hf:Few s:=h.toAnd;have vN:Few (aT s i):=hf.of (by rw [gf]) (GN _ _) (by rw [vL]);have hg:∀ g,aa (aT s i) g=aa s g:=fun g=>uh (gf s i) g
 have hc:∀ ch,(cn (aT s i) ch).recv.length≤50000∧(cn (aT s i) ch).send.length≤50000∧(cn (aT s i) ch).buf.length≤50000:=fun ch=>by
  unfold aT
  split
  ·rcases Nt s (su s i).ch { cn s (su s i).ch with recv:=eZ (cn s (su s i).ch).recv i,send:=eZ (cn s (su s i).ch).send i } ch with e | e
   ·rw [e];exact ⟨Nat.le_trans (List.length_filter_le _ _) (h.rv _),Nat.le_trans (List.length_filter_le _ _) (h.sd _),h.bf _⟩
   ·rw [e];exact ⟨h.rv ch,h.sd ch,h.bf ch⟩
  ·exact ⟨h.rv ch,h.sd ch,h.bf ch⟩
 have e1:(aT s i).done=s.done:=by unfold aT;split <;> rfl
 have e2:(aT s i).cache=s.cache:=by unfold aT;split <;> rfl
 have e3:(aT s i).middle=s.middle:=by unfold aT;split <;> rfl
 exact ⟨vN,fun g=>by rw [hg];exact h.wk g,fun ch=>(hc ch).1,fun ch=>(hc ch).2.1,fun ch=>(hc ch).2.2,fun g=>by rw [hg];exact h.od g,fun g=>by rw [hg];exact h.sg g,by rw [e1];exact h.dn,by rw [e2];exact h.ca,fun g=>by rw [e2];exact h.cl g,by rw [e3];exact h.md⟩
theorem Fit.hJ {s:ah} (h:Fit s) (i:Int) (x:Su):Fit (aN s i x):=by
 have hf:Few s:=h.toAnd;have vN:Few (aN s i x):=hf.of rfl rfl (Nb _ _ _);exact ⟨vN,h.wk,h.rv,h.sd,h.bf,h.od,h.sg,h.dn,h.ca,h.cl,h.md⟩
theorem Nu {s:ah} {i:Int} {x:Su} (hi:i.toNat < s.aB.length):su (aN s i x) i=x:=by
 unfold su aN;simp only [List.getD_eq_getElem?_getD,List.getElem?_set];rw [if_pos trivial,if_pos hi];rfl
theorem dL.hJ {s:ah} {i:Int} {x:Su} (h:dL s i) (e:x.g=(su s i).g):dL (aN s i x) i:=by
 obtain ⟨a,b,c,d⟩:=h;refine ⟨a,by rw [Nb];exact b,?_,?_⟩
 ·rw [Nu (by omega),e];exact c
 ·rw [Nu (by omega),e];exact d
theorem sS (s:ah) (g:Nat) (i:Int) (d:Bool):(Sx.serve s g i d).gs.length=s.gs.length:=by simp [Sx.serve,ai,aN]
theorem XC (s:ah) (g:Nat) (h:nW s g) (hk:(ag s g).kind=2∨(ag s g).kind=4) (hc:(common s g).2=false) (hm:aL s (ag s g).ch=true) (e0:(aa s g).place=8) :
  Pure prog 171 [.agg (aD s),.c (nI g)] (.aZ [.agg (aD (bV s g).1),.c (bI (bV s g).2)]):=by
 have hg:=h.co.lt;have hf:Few s:=h.fit.toAnd;have hb:=hf.1;have dM:=hf.2.1;have C0:=dH s g hg h.co.dm;have C1:=fV s g h.co;obtain ⟨k,ek,cL⟩:∃ k,(ag s g).kind=k∧(k=2∨k=4):=⟨_,rfl,hk⟩
 have KN:∀ c,((ag s g).kind != c)=(k != c):=fun c=>by rw [ek]
 have KE:∀ c,((ag s g).kind == c)=(k == c):=fun c=>by rw [ek]
 have bu:¬ ((ag s g).kind≠2∧(ag s g).kind≠4):=by omega
 have cP:¬ (common s g).2=true:=by rw [hc];simp
 rw [hc] at C1;have CM:=fD s (ag s g).ch;have cF:¬ aL s (ag s g).ch=false:=by rw [hm];simp
 have hl:=fh hm;rw [hm] at CM;have aj:bV s g=bV s g:=rfl
 conv at aj=>rhs;unfold bV;simp only;rw [if_neg bu,if_neg cP,if_neg cF]
 have P:∀ c,((aa s g).place == c)=((8:Int) == c):=fun c=>by rw [e0]
 refine av.intro func171 rfl rfl rfl (fun ok e=>?_);rw [az,az,az,az,az] at aj;rw [if_pos e0] at aj;have hi:=h.l8 e0;obtain ⟨gG,dY,fo,iD⟩:=id hi;have D1:=ue s (aa s g).hold gG dY (Nat.le_trans (h.fit.rv _) (by omega)) (Nat.le_trans (h.fit.sd _) (by omega)) dM;have k1:dL (aT s (aa s g).hold) (aa s g).hold:=hi.of (vL _ _) (by rw [gf]);have f1:=h.fit.drop (aa s g).hold;have g1:g < (aT s (aa s g).hold).gs.length:=by rw [gf];exact hg
 have Nv:nE s g (ag s g).v=Sx.serve (aN (aT s (aa s g).hold) (aa s g).hold { su (aT s (aa s g).hold) (aa s g).hold with v:=(ag s g).v }) g (aa s g).hold true:=rfl;rw [Nv] at aj;rw [aj];clear aj Nv;generalize aT s (aa s g).hold=s1 at *;have a1:=iB k1.1 k1.2.1;have D2:=wY s1 (aa s g).hold { su s1 (aa s g).hold with v:=(ag s g).v } k1.1 k1.2.1 f1.1.2.2;have k2:dL (aN s1 (aa s g).hold { su s1 (aa s g).hold with v:=(ag s g).v }) (aa s g).hold:=k1.hJ rfl;have f2:=f1.hJ (aa s g).hold { su s1 (aa s g).hold with v:=(ag s g).v };have g2:g < (aN s1 (aa s g).hold { su s1 (aa s g).hold with v:=(ag s g).v }).gs.length:=g1;generalize aN s1 (aa s g).hold { su s1 (aa s g).hold with v:=(ag s g).v }=s2 at *;have D3:=An s2 g (aa s g).hold true g2 k2 f2;have g3:g < (Sx.serve s2 g (aa s g).hold true).gs.length:=by rw [sS];exact g2
 have b3:(Sx.serve s2 g (aa s g).hold true).gs.length≤100000:=by rw [sS];exact f2.1.1
 generalize Sx.serve s2 g (aa s g).hold true=s3 at *;have D4:=cS s3 g { aa s3 g with res:=gj,place:=16 } g3 b3;rcases cL with rfl | rfl
 all_goals
  repeat (first | refine aK (KN _) ?_ | refine aK (P _) ?_ | refine ay ?_ | intro _)
  refine J.draw (by kernel_rfl) rfl ?_;refine JW.base (some 9) ?_;refine tk 0 ?_;refine tk 1 ?_;refine tk 2 ?_;refine tk 3 ?_;refine tk 5 ?_;refine tk 6 ?_;refine tk 7 ?_;refine c9 4 (D2) ?_;refine c9 8 (D3) ?_;refine jt 9 rfl rfl (Ld.bh rfl rfl rfl (by exact rfl) (by exact rfl)) (fun _=>?_);refine cu ?_
  repeat (first | refine mM (CV) ?_ | refine ay ?_ | intro _)
  exact aC func171
theorem XD (s:ah) (g:Nat) (h:nW s g) (hk:(ag s g).kind=2∨(ag s g).kind=4) (hc:(common s g).2=false) (hm:aL s (ag s g).ch=true) (e0:¬ ((aa s g).place=1∨(aa s g).place=2∨(aa s g).place=5∨(aa s g).place=6∨(aa s g).place=7∨(aa s g).place=8∨(aa s g).place=9∨(aa s g).place=10∨(aa s g).place=11∨(aa s g).place=14)) :
  Pure prog 171 [.agg (aD s),.c (nI g)] (.aZ [.agg (aD (bV s g).1),.c (bI (bV s g).2)]):=by
 have hg:=h.co.lt;have hf:Few s:=h.fit.toAnd;have hb:=hf.1;have dM:=hf.2.1;have C0:=dH s g hg h.co.dm;have C1:=fV s g h.co;obtain ⟨k,ek,cL⟩:∃ k,(ag s g).kind=k∧(k=2∨k=4):=⟨_,rfl,hk⟩
 have KN:∀ c,((ag s g).kind != c)=(k != c):=fun c=>by rw [ek]
 have KE:∀ c,((ag s g).kind == c)=(k == c):=fun c=>by rw [ek]
 have bu:¬ ((ag s g).kind≠2∧(ag s g).kind≠4):=by omega
 have cP:¬ (common s g).2=true:=by rw [hc];simp
 rw [hc] at C1;have CM:=fD s (ag s g).ch;have cF:¬ aL s (ag s g).ch=false:=by rw [hm];simp
 have hl:=fh hm;rw [hm] at CM;have aj:bV s g=bV s g:=rfl
 conv at aj=>rhs;unfold bV;simp only;rw [if_neg bu,if_neg cP,if_neg cF]
 refine av.intro func171 rfl rfl rfl (fun ok e=>?_);rw [az,az,az,az,az,az,az,az,az,az] at aj;have P1:((aa s g).place == 1)=false:=by simp;omega
 have P2:((aa s g).place == 2)=false:=by simp;omega
 have P5:((aa s g).place == 5)=false:=by simp;omega
 have P6:((aa s g).place == 6)=false:=by simp;omega
 have P7:((aa s g).place == 7)=false:=by simp;omega
 have P8:((aa s g).place == 8)=false:=by simp;omega
 have P9:((aa s g).place == 9)=false:=by simp;omega
 have XE:((aa s g).place == 10)=false:=by simp;omega
 have XF:((aa s g).place == 11)=false:=by simp;omega
 have Nw:((aa s g).place == 14)=false:=by simp;omega
 rw [aj];rcases cL with rfl | rfl
 all_goals
  repeat (first | refine aK (KN _) ?_ | refine ay ?_ | intro _)
  exact aC func171
theorem XG (s:ah) (g:Nat) (h:nW s g) :
  Pure prog 171 [.agg (aD s),.c (nI g)] (.aZ [.agg (aD (bV s g).1),.c (bI (bV s g).2)]):=by
 have hg:=h.co.lt;have C0:=dH s g hg h.co.dm;have C1:=fV s g h.co
 by_cases hk:(ag s g).kind=2∨(ag s g).kind=4
 case neg =>
  refine av.intro func171 rfl rfl rfl (fun ok e=>?_);have K2:((ag s g).kind != 2)=true:=by simp;omega
  have K4:((ag s g).kind != 4)=true:=by simp;omega
  have er:bV s g=(s,false):=by unfold bV;simp only;rw [if_pos (by omega)]
  rw [er]
  repeat (first | refine ay ?_ | intro _)
  exact aC func171
 case pos =>
 have bu:¬ ((ag s g).kind≠2∧(ag s g).kind≠4):=by omega
 cases hc:(common s g).2 with
 | true =>
  obtain ⟨k,ek,cL⟩:∃ k,(ag s g).kind=k∧(k=2∨k=4):=⟨_,rfl,hk⟩
  have KN:∀ c,((ag s g).kind != c)=(k != c):=fun c=>by rw [ek]
  refine av.intro func171 rfl rfl rfl (fun ok e=>?_);have er:bV s g=((common s g).1,true):=by unfold bV;simp only;rw [if_neg bu,if_pos hc]
  rw [er];rw [hc] at C1;rcases cL with rfl | rfl
  all_goals
   repeat (first | refine aK (KN _) ?_ | refine ay ?_ | intro _)
   exact aC func171
 | false =>
 cases hm:aL s (ag s g).ch with
 | false =>
  have CM:=fD s (ag s g).ch;have cP:¬ (common s g).2=true:=by rw [hc];simp
  obtain ⟨k,ek,cL⟩:∃ k,(ag s g).kind=k∧(k=2∨k=4):=⟨_,rfl,hk⟩
  have KN:∀ c,((ag s g).kind != c)=(k != c):=fun c=>by rw [ek]
  refine av.intro func171 rfl rfl rfl (fun ok e=>?_);have er:bV s g=(s,false):=by unfold bV;simp only;rw [if_neg bu,if_neg cP,if_pos hm]
  rw [er];rw [hc] at C1;rw [hm] at CM;rcases cL with rfl | rfl
  all_goals
   repeat (first | refine aK (KN _) ?_ | refine ay ?_ | intro _)
   exact aC func171
 | true =>
  by_cases e1:(aa s g).place=1
  ·exact Xt s g h hk hc hm e1
  by_cases e2:(aa s g).place=2
  ·exact Xu s g h hk hc hm e2
  by_cases e5:(aa s g).place=5
  ·exact Xv s g h hk hc hm e5
  by_cases e6:(aa s g).place=6
  ·exact Xw s g h hk hc hm e6
  by_cases e7:(aa s g).place=7
  ·exact Xx s g h hk hc hm e7
  by_cases e8:(aa s g).place=8
  ·exact XC s g h hk hc hm e8
  by_cases e9:(aa s g).place=9
  ·exact Xy s g h hk hc hm e9
  by_cases nU:(aa s g).place=10
  ·exact Xz s g h hk hc hm nU
  by_cases nV:(aa s g).place=11
  ·exact XA s g h hk hc hm nV
  by_cases jV:(aa s g).place=14
  ·exact XB s g h hk hc hm jV
  exact XD s g h hk hc hm (by omega)
end Fl
open Go.RowKit
namespace Fl
open Sx Go.Proofs.Tryz
set_option maxRecDepth 100000
theorem Nx (s:ah) (ch i:Int) (hm:aL s ch=true) (dM:s.au.length≤100000) (gG:0≤i) (dY:i < s.aB.length) (hl:(cn s ch).buf.length≤50000) :
  Pure prog 209 [.agg (aD s),.c (nI ch),.c (nI i)] (.aZ [.agg (aD (Sx.hand s ch i).1),.c (nI (Sx.hand s ch i).2)]):=by
 have gQ:=fh hm;refine av.intro func209 rfl rfl rfl (fun ok e=>?_)
 cases h1:((cn s ch).cap == 0) with
 | true =>
  have er:Sx.hand s ch i=(s,(su s i).v):=by unfold Sx.hand;simp only;rw [if_pos (by simpa using h1)]
  rw [er]
  repeat (first | refine ay ?_ | intro _)
  refine J.draw (by kernel_rfl) rfl ?_;refine JW.yE none (.tmp 6) rfl ?_;refine tk 0 ?_;refine tk 1 ?_;refine tk 2 ?_;refine tk 3 ?_;refine JD.take 4 rfl rfl (by kernel_rfl) rfl (qb rfl) (Qt.dc rfl rfl gG (iB gG dY)) rfl ?_;refine tk 5 ?_;refine tk 6 ?_;refine JD.gD (i:=7) (by kernel_rfl) ?_
  (refine JS.st rfl rfl rfl (Ld.bh rfl rfl rfl (by exact rfl) (by exact rfl)) (.nu rfl) (fun _=>?_))
  refine tk 8 ?_;refine bX ?_
  repeat (fail)
  exact aC func209
 | false =>
  have er:Sx.hand s ch i=(aA s ch { cn s ch with buf:=(eF (cn s ch).buf (cn s ch).cap (su s i).v).1 },(eF (cn s ch).buf (cn s ch).cap (su s i).v).2.1):=by unfold Sx.hand;simp only;rw [if_neg (by simpa using h1)]
  have CP:=Xr (cn s ch).buf (cn s ch).cap (su s i).v hl
  cases h2:(eF (cn s ch).buf (cn s ch).cap (su s i).v).2.2 with
  | true =>
   rw [h2] at CP;rw [er]
   repeat (first | refine ay ?_ | intro _)
   refine J.draw (by kernel_rfl) rfl ?_;refine JW.base none ?_;refine tk 0 ?_;refine tk 1 ?_;refine tk 2 ?_;refine tk 3 ?_;refine tk 4 ?_;refine tk 5 ?_;refine tk 6 ?_;refine JD.take 7 rfl rfl (by kernel_rfl) rfl (qb rfl) (Qt.dc rfl rfl gG (iB gG dY)) rfl ?_;refine tk 8 ?_;refine tk 9 ?_;refine c9 10 (CP) ?_;refine jk 11 rfl rfl rfl rfl (Qt.move rfl) ?_;refine JD.nA ?_;refine tk 12 ?_;refine tk 13 ?_;refine tk 14 ?_;refine jk 15 rfl rfl rfl rfl (Qt.assign rfl) ?_;refine jk 16 rfl rfl rfl rfl (Qt.assign rfl) ?_;refine jk 17 rfl rfl rfl rfl (Qt.assign rfl) ?_;refine bX ?_
   repeat (first | refine aR (nL s ch { cn s ch with buf:=(eF (cn s ch).buf (cn s ch).cap (su s i).v).1 } hm dM) ?_ | refine gn ?_)
   exact aC func209
  | false =>
   have e2:(eF (cn s ch).buf (cn s ch).cap (su s i).v).1=(cn s ch).buf:=by
    revert h2;unfold eF;split <;> simp
   have e3:({ cn s ch with buf:=(eF (cn s ch).buf (cn s ch).cap (su s i).v).1 }:Cn)=cn s ch:=by rw [e2]
   rw [e3] at er;rw [h2] at CP;rw [er]
   repeat (first | refine ay ?_ | intro _)
   refine J.draw (by kernel_rfl) rfl ?_;refine JW.base none ?_;refine tk 0 ?_;refine tk 1 ?_;refine tk 2 ?_;refine tk 3 ?_;refine tk 4 ?_;refine tk 5 ?_;refine tk 6 ?_;refine JD.take 7 rfl rfl (by kernel_rfl) rfl (qb rfl) (Qt.dc rfl rfl gG (iB gG dY)) rfl ?_;refine tk 8 ?_;refine tk 9 ?_;refine c9 10 (CP) ?_;refine jk 11 rfl rfl rfl rfl (Qt.move rfl) ?_;refine JD.nA ?_;refine tk 12 ?_;refine tk 13 ?_;refine tk 14 ?_;refine jk 15 rfl rfl rfl rfl (Qt.assign rfl) ?_;refine jk 16 rfl rfl rfl rfl (Qt.assign rfl) ?_;refine jk 17 rfl rfl rfl rfl (Qt.assign rfl) ?_;refine bX ?_
   repeat (first | refine aR (nL s ch (cn s ch) hm dM) ?_ | refine gn ?_)
   exact aC func209
end Fl
open Go.RowKit
namespace Fl
open Sx Go.Proofs.Tryz
set_option maxRecDepth 100000
structure nr (s:ah) (g:Nat):Prop where
 co:xE s g
 fit:Fit s
 l6:(aa s g).place=6→∀ i l,(cn s (ag s g).ch).send=i :: l→dL s i
 l7:(aa s g).place=7→dL s (aa s g).hold
 l8:(aa s g).place=8→dL s (aa s g).hold
 xH:(aa s g).place=10→oN s∧g < s.cache.length∧((aQ s g).2.2=true→0≤(aQ s g).2.1∧(aQ s g).2.1 < s.aB.length)
 uj:(aa s g).place=14→0≤(aa s g).param∧(aa s g).param < s.aB.length
theorem XH (s:ah) (g:Nat) (h:nr s g) (hk:(ag s g).kind=3∨(ag s g).kind=5) (hc:(common s g).2=false) (hm:aL s (ag s g).ch=true) (e0:(aa s g).place=1) :
  Pure prog 172 [.agg (aD s),.c (nI g)] (.aZ [.agg (aD (bz s g).1),.c (bI (bz s g).2)]):=by
 have hg:=h.co.lt;have hf:Few s:=h.fit.toAnd;have hb:=hf.1;have dM:=hf.2.1;have C0:=dH s g hg h.co.dm;have C1:=fV s g h.co;obtain ⟨k,ek,cL⟩:∃ k,(ag s g).kind=k∧(k=3∨k=5):=⟨_,rfl,hk⟩
 have KN:∀ c,((ag s g).kind != c)=(k != c):=fun c=>by rw [ek]
 have KE:∀ c,((ag s g).kind == c)=(k == c):=fun c=>by rw [ek]
 have bu:¬ ((ag s g).kind≠3∧(ag s g).kind≠5):=by omega
 have cP:¬ (common s g).2=true:=by rw [hc];simp
 rw [hc] at C1;have CM:=fD s (ag s g).ch;have cF:¬ aL s (ag s g).ch=false:=by rw [hm];simp
 have hl:=fh hm;rw [hm] at CM;have aj:bz s g=bz s g:=rfl
 conv at aj=>rhs;unfold bz;simp only;rw [if_neg bu,if_neg cP,if_neg cF]
 have P:∀ c,((aa s g).place == c)=((1:Int) == c):=fun c=>by rw [e0]
 refine av.intro func172 rfl rfl rfl (fun ok e=>?_);rw [if_pos e0] at aj;have CR:=M9 (cn s (ag s g).ch)
 cases hr:ke (cn s (ag s g).ch) with
 | true =>
  rw [if_pos hr] at aj;rw [hr] at CR;rw [aj];rcases cL with rfl | rfl
  all_goals
   repeat (first | refine aK (KN _) ?_ | refine aK (P _) ?_ | refine aR (fU s g 4 hg hb) ?_ | refine ay ?_ | intro _)
   exact aC func172
 | false =>
  rw [if_neg (by rw [hr];simp)] at aj;rw [hr] at CR;rw [aj];rcases cL with rfl | rfl
  all_goals
   repeat (first | refine aK (KN _) ?_ | refine aK (P _) ?_ | refine aR (jA s g (aa s g).res 2 hg hb) ?_ | refine ay ?_ | intro _)
   exact aC func172
theorem XI (s:ah) (g:Nat) (h:nr s g) (hk:(ag s g).kind=3∨(ag s g).kind=5) (hc:(common s g).2=false) (hm:aL s (ag s g).ch=true) (e0:(aa s g).place=2) :
  Pure prog 172 [.agg (aD s),.c (nI g)] (.aZ [.agg (aD (bz s g).1),.c (bI (bz s g).2)]):=by
 have hg:=h.co.lt;have hf:Few s:=h.fit.toAnd;have hb:=hf.1;have dM:=hf.2.1;have C0:=dH s g hg h.co.dm;have C1:=fV s g h.co;obtain ⟨k,ek,cL⟩:∃ k,(ag s g).kind=k∧(k=3∨k=5):=⟨_,rfl,hk⟩
 have KN:∀ c,((ag s g).kind != c)=(k != c):=fun c=>by rw [ek]
 have KE:∀ c,((ag s g).kind == c)=(k == c):=fun c=>by rw [ek]
 have bu:¬ ((ag s g).kind≠3∧(ag s g).kind≠5):=by omega
 have cP:¬ (common s g).2=true:=by rw [hc];simp
 rw [hc] at C1;have CM:=fD s (ag s g).ch;have cF:¬ aL s (ag s g).ch=false:=by rw [hm];simp
 have hl:=fh hm;rw [hm] at CM;have aj:bz s g=bz s g:=rfl
 conv at aj=>rhs;unfold bz;simp only;rw [if_neg bu,if_neg cP,if_neg cF]
 have P:∀ c,((aa s g).place == c)=((2:Int) == c):=fun c=>by rw [e0]
 refine av.intro func172 rfl rfl rfl (fun ok e=>?_);rw [az] at aj;rw [if_pos e0] at aj
 cases bY:(cn s (ag s g).ch).closed with
 | true =>
  rw [if_pos bY] at aj;rw [aj];rcases cL with rfl | rfl
  all_goals
   repeat (first | refine J.iy (congrArg (fun b=>some (D.c (bI b))) bY) ?_ | refine aK (KN _) ?_ | refine aK (P _) ?_ | refine aR (fU s g 3 hg hb) ?_ | refine ay ?_ | intro _)
   exact aC func172
 | false =>
  rw [if_neg (by rw [bY];simp)] at aj;rw [aj];rcases cL with rfl | rfl
  all_goals
   repeat (first | refine J.gK (congrArg (fun b=>some (D.c (bI b))) bY) ?_ | refine aK (KN _) ?_ | refine aK (P _) ?_ | refine aR (cS s g { aa s g with res:={ (aa s g).res with code:=2 },place:=18 } hg hb) ?_ | refine ay ?_ | intro _)
   exact aC func172
theorem XJ (s:ah) (g:Nat) (h:nr s g) (hk:(ag s g).kind=3∨(ag s g).kind=5) (hc:(common s g).2=false) (hm:aL s (ag s g).ch=true) (e0:(aa s g).place=3) :
  Pure prog 172 [.agg (aD s),.c (nI g)] (.aZ [.agg (aD (bz s g).1),.c (bI (bz s g).2)]):=by
 have hg:=h.co.lt;have hf:Few s:=h.fit.toAnd;have hb:=hf.1;have dM:=hf.2.1;have C0:=dH s g hg h.co.dm;have C1:=fV s g h.co;obtain ⟨k,ek,cL⟩:∃ k,(ag s g).kind=k∧(k=3∨k=5):=⟨_,rfl,hk⟩
 have KN:∀ c,((ag s g).kind != c)=(k != c):=fun c=>by rw [ek]
 have KE:∀ c,((ag s g).kind == c)=(k == c):=fun c=>by rw [ek]
 have bu:¬ ((ag s g).kind≠3∧(ag s g).kind≠5):=by omega
 have cP:¬ (common s g).2=true:=by rw [hc];simp
 rw [hc] at C1;have CM:=fD s (ag s g).ch;have cF:¬ aL s (ag s g).ch=false:=by rw [hm];simp
 have hl:=fh hm;rw [hm] at CM;have aj:bz s g=bz s g:=rfl
 conv at aj=>rhs;unfold bz;simp only;rw [if_neg bu,if_neg cP,if_neg cF]
 have P:∀ c,((aa s g).place == c)=((3:Int) == c):=fun c=>by rw [e0]
 refine av.intro func172 rfl rfl rfl (fun ok e=>?_);rw [az,az] at aj;rw [if_pos e0] at aj;have CR:=M9 (cn s (ag s g).ch)
 cases hr:ke (cn s (ag s g).ch) with
 | true =>
  rw [if_pos hr] at aj;rw [hr] at CR;rw [aj];rcases cL with rfl | rfl
  all_goals
   repeat (first | refine aK (KN _) ?_ | refine aK (P _) ?_ | refine aR (cS s g { aa s g with bE:=0,place:=4 } hg hb) ?_ | refine ay ?_ | intro _)
   exact aC func172
 | false =>
  rw [if_neg (by rw [hr];simp)] at aj;rw [hr] at CR;rw [aj];rcases cL with rfl | rfl
  all_goals
   repeat (first | refine aK (KN _) ?_ | refine aK (P _) ?_ | refine ay ?_ | intro _)
   refine J.draw (by kernel_rfl) rfl ?_;refine JW.base (some 4) ?_;refine tk 0 ?_;refine tk 1 ?_;refine c9 2 (lR 0 false) ?_;refine c9 3 (jA s g (cZ 0 false) 18 hg hb) ?_;refine jt 4 rfl rfl (Ld.bh rfl rfl rfl (by exact rfl) (by exact rfl)) (fun _=>?_);refine JW.base none ?_;refine jk 5 rfl rfl rfl rfl (Qt.assign rfl) ?_;refine bX ?_
   repeat (fail)
   exact aC func172
theorem XK (s:ah) (g:Nat) (h:nr s g) (hk:(ag s g).kind=3∨(ag s g).kind=5) (hc:(common s g).2=false) (hm:aL s (ag s g).ch=true) (e0:(aa s g).place=6) :
  Pure prog 172 [.agg (aD s),.c (nI g)] (.aZ [.agg (aD (bz s g).1),.c (bI (bz s g).2)]):=by
 have hg:=h.co.lt;have hf:Few s:=h.fit.toAnd;have hb:=hf.1;have dM:=hf.2.1;have C0:=dH s g hg h.co.dm;have C1:=fV s g h.co;obtain ⟨k,ek,cL⟩:∃ k,(ag s g).kind=k∧(k=3∨k=5):=⟨_,rfl,hk⟩
 have KN:∀ c,((ag s g).kind != c)=(k != c):=fun c=>by rw [ek]
 have KE:∀ c,((ag s g).kind == c)=(k == c):=fun c=>by rw [ek]
 have bu:¬ ((ag s g).kind≠3∧(ag s g).kind≠5):=by omega
 have cP:¬ (common s g).2=true:=by rw [hc];simp
 rw [hc] at C1;have CM:=fD s (ag s g).ch;have cF:¬ aL s (ag s g).ch=false:=by rw [hm];simp
 have hl:=fh hm;rw [hm] at CM;have aj:bz s g=bz s g:=rfl
 conv at aj=>rhs;unfold bz;simp only;rw [if_neg bu,if_neg cP,if_neg cF]
 have P:∀ c,((aa s g).place == c)=((6:Int) == c):=fun c=>by rw [e0]
 refine av.intro func172 rfl rfl rfl (fun ok e=>?_);rw [az,az,az,az] at aj;rw [if_pos e0] at aj
 cases jw:(cn s (ag s g).ch).send with
 | nil =>
  have hz:(((cn s (ag s g).ch).send.length:Int) == 0)=true:=by rw [jw];rfl
  rw [if_pos (by rw [jw];rfl)] at aj;rw [aj];rcases cL with rfl | rfl
  all_goals
   repeat (first | refine aK (KN _) ?_ | refine aK (P _) ?_ | refine aR (fU s g 9 hg hb) ?_ | refine ay ?_ | intro _)
   exact aC func172
 | cons a l =>
  have hz:(((cn s (ag s g).ch).send.length:Int) == 0)=false:=by rw [jw];simp;omega
  have w0:((cn s (ag s g).ch).send.map fun n=>[nI n])[(0:Int).toNat]?=some [nI a]:=by rw [jw];rfl
  rw [if_neg (by rw [jw];simp),jw] at aj;rw [aj];rcases cL with rfl | rfl
  all_goals
   repeat (first | refine aK (KN _) ?_ | refine aK (P _) ?_ | refine ay ?_ | intro _)
   refine J.draw (by kernel_rfl) rfl ?_;refine JW.base (some 7) ?_;refine tk 0 ?_;refine tk 1 ?_;refine tk 2 ?_;refine tk 3 ?_;refine JD.take 4 rfl rfl (by kernel_rfl) rfl (qb rfl) (Qt.dc rfl rfl (by omega) w0) rfl ?_;refine tk 5 ?_;refine c9 6 (C7 s g a 7 8 hg (h.l6 e0 a l jw) h.fit) ?_;refine jt 7 rfl rfl (Ld.bh rfl rfl rfl (by exact rfl) (by exact rfl)) (fun _=>?_);refine JW.base none ?_;refine jk 8 rfl rfl rfl rfl (Qt.assign rfl) ?_;refine bX ?_
   repeat (fail)
   exact aC func172
theorem XL (s:ah) (g:Nat) (h:nr s g) (hk:(ag s g).kind=3∨(ag s g).kind=5) (hc:(common s g).2=false) (hm:aL s (ag s g).ch=true) (e0:(aa s g).place=7) :
  Pure prog 172 [.agg (aD s),.c (nI g)] (.aZ [.agg (aD (bz s g).1),.c (bI (bz s g).2)]):=by
 have hg:=h.co.lt;have hf:Few s:=h.fit.toAnd;have hb:=hf.1;have dM:=hf.2.1;have C0:=dH s g hg h.co.dm;have C1:=fV s g h.co;obtain ⟨k,ek,cL⟩:∃ k,(ag s g).kind=k∧(k=3∨k=5):=⟨_,rfl,hk⟩
 have KN:∀ c,((ag s g).kind != c)=(k != c):=fun c=>by rw [ek]
 have KE:∀ c,((ag s g).kind == c)=(k == c):=fun c=>by rw [ek]
 have bu:¬ ((ag s g).kind≠3∧(ag s g).kind≠5):=by omega
 have cP:¬ (common s g).2=true:=by rw [hc];simp
 rw [hc] at C1;have CM:=fD s (ag s g).ch;have cF:¬ aL s (ag s g).ch=false:=by rw [hm];simp
 have hl:=fh hm;rw [hm] at CM;have aj:bz s g=bz s g:=rfl
 conv at aj=>rhs;unfold bz;simp only;rw [if_neg bu,if_neg cP,if_neg cF]
 have P:∀ c,((aa s g).place == c)=((7:Int) == c):=fun c=>by rw [e0]
 refine av.intro func172 rfl rfl rfl (fun ok e=>?_);rw [az,az,az,az,az] at aj;rw [if_pos e0] at aj;rw [aj];rcases cL with rfl | rfl
 all_goals
  repeat (first | refine aK (KN _) ?_ | refine aK (P _) ?_ | refine aR (GP s g 6 8 hg (h.l7 e0) h.fit) ?_ | refine ay ?_ | intro _)
  exact aC func172
theorem XM (s:ah) (g:Nat) (h:nr s g) (hk:(ag s g).kind=3∨(ag s g).kind=5) (hc:(common s g).2=false) (hm:aL s (ag s g).ch=true) (e0:(aa s g).place=9) :
  Pure prog 172 [.agg (aD s),.c (nI g)] (.aZ [.agg (aD (bz s g).1),.c (bI (bz s g).2)]):=by
 have hg:=h.co.lt;have hf:Few s:=h.fit.toAnd;have hb:=hf.1;have dM:=hf.2.1;have C0:=dH s g hg h.co.dm;have C1:=fV s g h.co;obtain ⟨k,ek,cL⟩:∃ k,(ag s g).kind=k∧(k=3∨k=5):=⟨_,rfl,hk⟩
 have KN:∀ c,((ag s g).kind != c)=(k != c):=fun c=>by rw [ek]
 have KE:∀ c,((ag s g).kind == c)=(k == c):=fun c=>by rw [ek]
 have bu:¬ ((ag s g).kind≠3∧(ag s g).kind≠5):=by omega
 have cP:¬ (common s g).2=true:=by rw [hc];simp
 rw [hc] at C1;have CM:=fD s (ag s g).ch;have cF:¬ aL s (ag s g).ch=false:=by rw [hm];simp
 have hl:=fh hm;rw [hm] at CM;have aj:bz s g=bz s g:=rfl
 conv at aj=>rhs;unfold bz;simp only;rw [if_neg bu,if_neg cP,if_neg cF]
 have P:∀ c,((aa s g).place == c)=((9:Int) == c):=fun c=>by rw [e0]
 refine av.intro func172 rfl rfl rfl (fun ok e=>?_);rw [az,az,az,az,az,az,az] at aj;rw [if_pos e0] at aj;have CP:=Nr (cn s (ag s g).ch).buf (h.fit.bf _)
 cases hr:(dX (cn s (ag s g).ch).buf).2.2 with
 | true =>
  rw [if_pos hr] at aj;rw [hr] at CP;rw [aj];rcases cL with rfl | rfl
  all_goals
   repeat (first | refine aK (KN _) ?_ | refine aK (P _) ?_ | refine aR (nL s (ag s g).ch { (cn s (ag s g).ch) with buf:=(dX (cn s (ag s g).ch).buf).1 } hm dM) ?_ | refine aR (lR (dX (cn s (ag s g).ch).buf).2.1 true) ?_ | refine aR (jA (aA s (ag s g).ch { (cn s (ag s g).ch) with buf:=(dX (cn s (ag s g).ch).buf).1 }) g (cZ (dX (cn s (ag s g).ch).buf).2.1 true) 16 hg hb) ?_ | refine ay ?_ | intro _)
   exact aC func172
 | false =>
  rw [if_neg (by rw [hr];simp)] at aj;rw [hr] at CP;rcases cL with rfl | rfl
  ·rw [az] at aj;rw [aj]
   repeat (first | refine aK (KN _) ?_ | refine aK (P _) ?_ | refine aK (KE _) ?_ | refine aR (fU s g 10 hg hb) ?_ | refine ay ?_ | intro _)
   exact aC func172
  ·rw [if_pos ek] at aj;rw [aj]
   repeat (first | refine aK (KN _) ?_ | refine aK (P _) ?_ | refine aK (KE _) ?_ | refine aR (jA s g (Sx.res 2) 16 hg hb) ?_ | refine ay ?_ | intro _)
   exact aC func172
theorem XN (s:ah) (g:Nat) (h:nr s g) (hk:(ag s g).kind=3∨(ag s g).kind=5) (hc:(common s g).2=false) (hm:aL s (ag s g).ch=true) (e0:(aa s g).place=10) :
  Pure prog 172 [.agg (aD s),.c (nI g)] (.aZ [.agg (aD (bz s g).1),.c (bI (bz s g).2)]):=by
 have hg:=h.co.lt;have hf:Few s:=h.fit.toAnd;have hb:=hf.1;have dM:=hf.2.1;have C0:=dH s g hg h.co.dm;have C1:=fV s g h.co;obtain ⟨k,ek,cL⟩:∃ k,(ag s g).kind=k∧(k=3∨k=5):=⟨_,rfl,hk⟩
 have KN:∀ c,((ag s g).kind != c)=(k != c):=fun c=>by rw [ek]
 have KE:∀ c,((ag s g).kind == c)=(k == c):=fun c=>by rw [ek]
 have bu:¬ ((ag s g).kind≠3∧(ag s g).kind≠5):=by omega
 have cP:¬ (common s g).2=true:=by rw [hc];simp
 rw [hc] at C1;have CM:=fD s (ag s g).ch;have cF:¬ aL s (ag s g).ch=false:=by rw [hm];simp
 have hl:=fh hm;rw [hm] at CM;have aj:bz s g=bz s g:=rfl
 conv at aj=>rhs;unfold bz;simp only;rw [if_neg bu,if_neg cP,if_neg cF]
 have P:∀ c,((aa s g).place == c)=((10:Int) == c):=fun c=>by rw [e0]
 refine av.intro func172 rfl rfl rfl (fun ok e=>?_);rw [az,az,az,az,az,az,az,az] at aj;rw [if_pos e0] at aj;obtain ⟨f1,f2,f3⟩:=h.xH e0;rw [aj];rcases cL with rfl | rfl
 all_goals
  repeat (first | refine aK (KN _) ?_ | refine aK (P _) ?_ | refine aR (Ns s g ⟨true,g,(ag s g).ch,-1,false,0,false⟩ hg hf f1 f2 f3) ?_ | refine ay ?_ | intro _)
  exact aC func172
theorem XO (s:ah) (g:Nat) (h:nr s g) (hk:(ag s g).kind=3∨(ag s g).kind=5) (hc:(common s g).2=false) (hm:aL s (ag s g).ch=true) (e0:(aa s g).place=11) :
  Pure prog 172 [.agg (aD s),.c (nI g)] (.aZ [.agg (aD (bz s g).1),.c (bI (bz s g).2)]):=by
 have hg:=h.co.lt;have hf:Few s:=h.fit.toAnd;have hb:=hf.1;have dM:=hf.2.1;have C0:=dH s g hg h.co.dm;have C1:=fV s g h.co;obtain ⟨k,ek,cL⟩:∃ k,(ag s g).kind=k∧(k=3∨k=5):=⟨_,rfl,hk⟩
 have KN:∀ c,((ag s g).kind != c)=(k != c):=fun c=>by rw [ek]
 have KE:∀ c,((ag s g).kind == c)=(k == c):=fun c=>by rw [ek]
 have bu:¬ ((ag s g).kind≠3∧(ag s g).kind≠5):=by omega
 have cP:¬ (common s g).2=true:=by rw [hc];simp
 rw [hc] at C1;have CM:=fD s (ag s g).ch;have cF:¬ aL s (ag s g).ch=false:=by rw [hm];simp
 have hl:=fh hm;rw [hm] at CM;have aj:bz s g=bz s g:=rfl
 conv at aj=>rhs;unfold bz;simp only;rw [if_neg bu,if_neg cP,if_neg cF]
 have P:∀ c,((aa s g).place == c)=((11:Int) == c):=fun c=>by rw [e0]
 refine av.intro func172 rfl rfl rfl (fun ok e=>?_);rw [az,az,az,az,az,az,az,az,az] at aj;rw [if_pos e0] at aj;rw [aj];have jU:=h.fit.rv (ag s g).ch;have C2:=nL s (ag s g).ch { (cn s (ag s g).ch) with recv:=(cn s (ag s g).ch).recv ++ [(aa s g).aI] } hm dM;have C3:=cS (aA s (ag s g).ch { (cn s (ag s g).ch) with recv:=(cn s (ag s g).ch).recv ++ [(aa s g).aI] }) g { aa s g with iJ:=s.step,place:=12 } hg hb;rcases cL with rfl | rfl
 all_goals
  repeat (first | refine aK (KN _) ?_ | refine aK (P _) ?_ | refine ay ?_ | intro _)
  refine J.draw (by kernel_rfl) rfl ?_;refine JW.base (some 9) ?_;refine tk 1 ?_;refine tk 2 ?_;refine tk 4 ?_;refine tk 5 ?_;refine JD.dA (i:=0) (j:=6) (by kernel_rfl) ?_ ?_;refine JS.cK rfl rfl rfl (qb rfl) (Ld.gR (qb rfl)) .none (fun _=>?_);refine JD.dA (i:=3) (j:=6) (by kernel_rfl) ?_ ?_;refine JS.cK rfl rfl rfl (qb rfl) (Ld.cB (qb rfl) rfl rfl .read (by (simp;omega))) (by (exact .row (by repeat ((exact .refl))))) (fun _=>?_);refine jl 6 rfl rfl rfl rfl (Ld.fO (qb rfl) rfl rfl rfl rfl rfl) .none (fun _=>?_);refine jl 7 rfl rfl rfl rfl (Ld.fP (qb rfl) rfl rfl .de (by (simp;omega))) (by (exact .row (by repeat (first | exact .refl | refine .cons ?_)))) (fun _=>?_);refine jk 8 rfl rfl rfl rfl (Qt.fieldAddr rfl rfl) ?_;refine jt 9 rfl rfl (Ld.di rfl rfl (by exact rfl)) (fun _=>?_);refine cu ?_
  rotate_left
  refine JS.cK rfl rfl rfl (qb rfl) (Ld.fO (qb rfl) rfl rfl rfl rfl rfl) .none (fun _=>?_);refine jl 3 rfl rfl rfl rfl (Ld.cB (qb rfl) rfl rfl .read (by (simp;omega))) (by (exact .row (by repeat (first | exact .refl | refine .cons ?_)))) (fun _=>?_);refine jl 7 rfl rfl rfl rfl (Ld.fP (qb rfl) rfl rfl .de (by (simp;omega))) (by (exact .row (by repeat (first | exact .refl | refine .cons ?_)))) (fun _=>?_);refine jk 8 rfl rfl rfl rfl (Qt.fieldAddr rfl rfl) ?_;refine jt 9 rfl rfl (Ld.di rfl rfl (by exact rfl)) (fun _=>?_);refine cu ?_
  rotate_left
  refine JS.cK rfl rfl rfl (qb rfl) (Ld.fO (qb rfl) rfl rfl rfl rfl rfl) .none (fun _=>?_);refine jl 0 rfl rfl rfl rfl (Ld.gR (qb rfl)) .none (fun _=>?_);refine jl 3 rfl rfl rfl rfl (Ld.cB (qb rfl) rfl rfl .read (by (simp;omega))) (by (exact .row (by repeat (first | exact .refl | refine .cons ?_)))) (fun _=>?_);refine jl 7 rfl rfl rfl rfl (Ld.fP (qb rfl) rfl rfl .de (by (simp;omega))) (by (exact .row (by repeat (first | exact .refl | refine .cons ?_)))) (fun _=>?_);refine jk 8 rfl rfl rfl rfl (Qt.fieldAddr rfl rfl) ?_;refine jt 9 rfl rfl (Ld.di rfl rfl (by exact rfl)) (fun _=>?_);refine cu ?_
  rotate_left
  all_goals
   repeat (refine gn ?_)
   refine J.draw (by kernel_rfl) rfl ?_;refine JW.base (some 8) ?_;refine tk 0 ?_;refine tk 1 ?_;refine tk 2 ?_;refine tk 3 ?_;refine tk 5 ?_;refine tk 6 ?_;refine jl 4 rfl rfl rfl rfl (Ld.pure (C2) (qb rfl) rfl (by repeat (first | exact aW.nil | refine aW.cons (eU.agg (by repeat (first | exact .nil | refine .cons .refl ?_ | refine .cons .snoc ?_))) ?_ | refine aW.cons eU.refl ?_))) .none (fun _=>?_);refine c9 7 (C3) ?_;refine jt 8 rfl rfl (Ld.bh rfl rfl rfl (by exact rfl) (by exact rfl)) (fun _=>?_);refine JW.base none ?_;refine jk 9 rfl rfl rfl rfl (Qt.assign rfl) ?_;refine bX ?_
   repeat (fail)
   exact aC func172
theorem XP (s:ah) (g:Nat) (h:nr s g) (hk:(ag s g).kind=3∨(ag s g).kind=5) (hc:(common s g).2=false) (hm:aL s (ag s g).ch=true) (e0:(aa s g).place=14) :
  Pure prog 172 [.agg (aD s),.c (nI g)] (.aZ [.agg (aD (bz s g).1),.c (bI (bz s g).2)]):=by
 have hg:=h.co.lt;have hf:Few s:=h.fit.toAnd;have hb:=hf.1;have dM:=hf.2.1;have C0:=dH s g hg h.co.dm;have C1:=fV s g h.co;obtain ⟨k,ek,cL⟩:∃ k,(ag s g).kind=k∧(k=3∨k=5):=⟨_,rfl,hk⟩
 have KN:∀ c,((ag s g).kind != c)=(k != c):=fun c=>by rw [ek]
 have KE:∀ c,((ag s g).kind == c)=(k == c):=fun c=>by rw [ek]
 have bu:¬ ((ag s g).kind≠3∧(ag s g).kind≠5):=by omega
 have cP:¬ (common s g).2=true:=by rw [hc];simp
 rw [hc] at C1;have CM:=fD s (ag s g).ch;have cF:¬ aL s (ag s g).ch=false:=by rw [hm];simp
 have hl:=fh hm;rw [hm] at CM;have aj:bz s g=bz s g:=rfl
 conv at aj=>rhs;unfold bz;simp only;rw [if_neg bu,if_neg cP,if_neg cF]
 have P:∀ c,((aa s g).place == c)=((14:Int) == c):=fun c=>by rw [e0]
 refine av.intro func172 rfl rfl rfl (fun ok e=>?_);rw [az,az,az,az,az,az,az,az,az,az] at aj;rw [if_pos e0] at aj;obtain ⟨f1,f2⟩:=h.uj e0;rw [aj]
 cases hd:(su s (aa s g).param).done with
 | true =>
  rw [if_pos rfl];rcases cL with rfl | rfl
  all_goals
   repeat (first | refine J.iy (congrArg (fun b=>some (D.c (bI b))) hd) ?_ | (refine K.indexAddr ?_;refine jx rfl rfl rfl rfl (by omega) (iB f1 f2) ?_) | refine aK (KN _) ?_ | refine aK (P _) ?_ | refine aR (lR 0 false) ?_ | refine aR (lR (su s (aa s g).param).v true) ?_ | refine aR (cS s g { aa s g with res:=cZ (su s (aa s g).param).v true,param:=-1,place:=15 } hg hb) ?_ | refine ay ?_ | intro _)
   exact aC func172
 | false =>
  rw [if_neg (by simp)];rcases cL with rfl | rfl
  all_goals
   repeat (first | refine J.gK (congrArg (fun b=>some (D.c (bI b))) hd) ?_ | (refine K.indexAddr ?_;refine jx rfl rfl rfl rfl (by omega) (iB f1 f2) ?_) | refine aK (KN _) ?_ | refine aK (P _) ?_ | refine aR (lR 0 false) ?_ | refine aR (cS s g { aa s g with res:=cZ 0 false,param:=-1,place:=15 } hg hb) ?_ | refine ay ?_ | intro _)
   exact aC func172
end Fl
end Go.Proofs.YtdjhhbpedllnhaaGreat
