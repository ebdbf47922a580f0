/-
  What the laws need, part A27.
  Conditions: none.
-/
import Derived.Test.YtdjhhbpedllnhaaGreatA26
set_option linter.unusedVariables false
set_option linter.unusedSimpArgs false
set_option linter.unnecessarySimpa false
set_option maxHeartbeats 2000000
namespace Go.Proofs.YtdjhhbpedllnhaaGreat
open Go.RowKit
namespace Fl
open Sx Go.Proofs.Tryz
set_option maxRecDepth 100000
theorem Np (l:List Int) (r v:Int) (hb:l.length≤50000) :
  Pure prog 229 [.c (ints l),.c (nI r),.c (nI v)] (.aZ [.c (ints (iW l r v).1),.c (bI (iW l r v).2)]):=by
 refine av.intro func229 rfl rfl rfl (fun ok e=>?_)
 cases h1:decide ((l.length:Int) ≥ r) with
 | true =>
  have e1:iW l r v=(l,false):=by unfold iW;rw [if_pos (by simpa using h1)]
  rw [e1]
  repeat (refine gn ?_)
  exact aC func229
 | false =>
  have e1:iW l r v=(l ++ [v],true):=by unfold iW;rw [if_neg (by simpa using h1)]
  rw [e1]
  repeat (first | (refine K.bi ?_;first | refine JO.ld (Ld.cB (qb rfl) rfl rfl .read (by first | (simp;omega) | simp)) rfl (fun _=>?_) | refine JO.ld (Ld.cB (qb rfl) rfl rfl .de (by (simp;omega))) rfl (fun _=>?_)) | refine ay ?_ | intro _)
  refine J.j9 6 rfl ?_;exact J.ret func229 rfl (.cons (.tmp rfl) (.cons (.tmp rfl) .nil)) () (by (exact .aZ (by repeat (first | exact .nil | refine .cons .refl ?_ | refine .cons (.c .snoc) ?_)))) [] .nil rfl rfl
theorem Nq {a:Int} {l:List Int}:((((a :: l).map fun n=>[nI n]).take ((((a :: l).map fun n=>[nI n]).length:Int)).toNat).drop (1:Int).toNat)=l.map fun n=>[nI n]:=by
 simp;exact List.take_of_length_le (by simp)
theorem Nr (l:List Int) (hb:l.length≤50000) :
  Pure prog 232 [.c (ints l)] (.aZ [.c (ints (dX l).1),.c (nI (dX l).2.1),.c (bI (dX l).2.2)]):=by
 refine av.intro func232 rfl rfl rfl (fun ok e=>?_)
 cases l with
 | nil =>
  repeat (refine gn ?_)
  exact aC func232
 | cons a l =>
  have h1:(((a :: l).length:Int) == 0)=false:=by simp;omega
  have e1:dX (a :: l)=(l,a,true):=by unfold dX;rw [if_neg (by simp)];rfl
  have hl:l.length≤50000:=by simp at hb;omega
  have w2:(1:Int)≤(((a :: l).map fun n=>[nI n]).length:Int):=by simp;omega
  rw [e1]
  repeat (refine gn ?_)
  refine J.draw (by kernel_rfl) rfl ?_;refine JW.base none ?_;refine tk 1 ?_;refine JD.take 2 rfl rfl (by kernel_rfl) rfl (qb rfl) ((Qt.qp rfl rfl rfl (by omega) (by omega) (by omega)).eq (congrArg (fun z=>D.c (A.r 1 z)) Nq)) rfl ?_;refine tk 4 ?_;refine JD.take 5 rfl rfl (by kernel_rfl) rfl (qb rfl) (Qt.dc rfl rfl (by omega) (show ((a :: l).map fun n=>[nI n])[(0:Int).toNat]?=some [nI a] from rfl)) rfl ?_;refine tk 6 ?_;refine jl 0 rfl rfl rfl rfl (Ld.gR (qb rfl)) .none (fun _=>?_);refine jl 3 rfl rfl rfl rfl (Ld.fP (qb rfl) rfl rfl .read (by (simp;omega))) (by (exact .row (by repeat ((exact .refl))))) (fun _=>?_);refine jk 7 rfl rfl rfl rfl (Qt.assign rfl) ?_;refine jk 8 rfl rfl rfl rfl (Qt.assign rfl) ?_;refine jk 9 rfl rfl rfl rfl (Qt.assign rfl) ?_;refine bX ?_
  repeat (fail)
  exact aC func232
theorem Xr (l:List Int) (r v:Int) (hb:l.length≤50000) :
  Pure prog 246 [.c (ints l),.c (nI r),.c (nI v)] (.aZ [.c (ints (eF l r v).1),.c (nI (eF l r v).2.1),.c (bI (eF l r v).2.2)]):=by
 refine av.intro func246 rfl rfl rfl (fun ok e=>?_)
 cases h1:decide ((l.length:Int) < r) with
 | true =>
  have e1:eF l r v=(l,0,false):=by unfold eF;rw [if_pos (.inl (by simpa using h1))]
  rw [e1]
  repeat (refine gn ?_)
  exact aC func246
 | false =>
  cases l with
  | nil =>
   have e1:eF [] r v=([],0,false):=by unfold eF;rw [if_pos (.inr rfl)]
   rw [e1]
   repeat (refine gn ?_)
   exact aC func246
  | cons a l =>
   have h2:(((a :: l).length:Int) == 0)=false:=by simp;omega
   have e1:eF (a :: l) r v=(l ++ [v],a,true):=by unfold eF;rw [if_neg (by simp at h1 ⊢;omega)];rfl
   have hl:l.length≤50000:=by simp at hb;omega
   have w2:(1:Int)≤(((a :: l).map fun n=>[nI n]).length:Int):=by simp;omega
   rw [e1]
   repeat (refine gn ?_)
   refine J.draw (by kernel_rfl) rfl ?_;refine JW.base none ?_;refine tk 1 ?_;refine JD.take 2 rfl rfl (by kernel_rfl) rfl (qb rfl) ((Qt.qp rfl rfl rfl (by omega) (by omega) (by omega)).eq (congrArg (fun z=>D.c (A.r 1 z)) Nq)) rfl ?_;refine tk 4 ?_;refine tk 7 ?_;refine JD.take 8 rfl rfl (by kernel_rfl) rfl (qb rfl) (Qt.dc rfl rfl (by omega) (show ((a :: l).map fun n=>[nI n])[(0:Int).toNat]?=some [nI a] from rfl)) rfl ?_;refine tk 9 ?_;refine JD.dA (i:=0) (j:=5) (by kernel_rfl) ?_ ?_;refine JS.cK rfl rfl rfl (qb rfl) (Ld.gR (qb rfl)) .none (fun _=>?_);refine JD.dA (i:=3) (j:=5) (by kernel_rfl) ?_ ?_;refine JS.cK rfl rfl rfl (qb rfl) (Ld.cB (qb rfl) rfl rfl .read (by (simp;omega))) (by (exact .row (by repeat ((exact .refl))))) (fun _=>?_);refine jl 5 rfl rfl rfl rfl (Ld.fO (qb rfl) rfl rfl rfl rfl rfl) .none (fun _=>?_);refine jl 6 rfl rfl rfl rfl (Ld.fP (qb rfl) rfl rfl .de (by (simp;omega))) (by (exact .row (by repeat (first | exact .refl | refine .cons ?_)))) (fun _=>?_);refine jk 10 rfl rfl rfl rfl (Qt.assign rfl) ?_;refine jk 11 rfl rfl rfl rfl (Qt.assign rfl) ?_;refine jk 12 rfl rfl rfl rfl (Qt.assign rfl) ?_;refine bX ?_
   rotate_left
   refine JS.cK rfl rfl rfl (qb rfl) (Ld.fO (qb rfl) rfl rfl rfl rfl rfl) .none (fun _=>?_);refine jl 3 rfl rfl rfl rfl (Ld.cB (qb rfl) rfl rfl .read (by (simp;omega))) (by (exact .row (by repeat (first | exact .refl | refine .cons ?_)))) (fun _=>?_);refine jl 6 rfl rfl rfl rfl (Ld.fP (qb rfl) rfl rfl .de (by (simp;omega))) (by (exact .row (by repeat (first | exact .refl | refine .cons ?_)))) (fun _=>?_);refine jk 10 rfl rfl rfl rfl (Qt.assign rfl) ?_;refine jk 11 rfl rfl rfl rfl (Qt.assign rfl) ?_;refine jk 12 rfl rfl rfl rfl (Qt.assign rfl) ?_;refine bX ?_
   rotate_left
   refine JS.cK rfl rfl rfl (qb rfl) (Ld.fO (qb rfl) rfl rfl rfl rfl rfl) .none (fun _=>?_);refine jl 0 rfl rfl rfl rfl (Ld.gR (qb rfl)) .none (fun _=>?_);refine jl 3 rfl rfl rfl rfl (Ld.cB (qb rfl) rfl rfl .read (by (simp;omega))) (by (exact .row (by repeat (first | exact .refl | refine .cons ?_)))) (fun _=>?_);refine jl 6 rfl rfl rfl rfl (Ld.fP (qb rfl) rfl rfl .de (by (simp;omega))) (by (exact .row (by repeat (first | exact .refl | refine .cons ?_)))) (fun _=>?_);refine jk 10 rfl rfl rfl rfl (Qt.assign rfl) ?_;refine jk 11 rfl rfl rfl rfl (Qt.assign rfl) ?_;refine jk 12 rfl rfl rfl rfl (Qt.assign rfl) ?_;refine bX ?_
   rotate_left
   all_goals
    repeat (fail)
    exact J.ret func246 rfl (.cons (.tmp rfl) (.cons (.tmp rfl) (.cons (.tmp rfl) .nil))) () (by (exact .aZ (by repeat (first | exact .nil | refine .cons .refl ?_ | refine .cons (.c .snoc) ?_)))) [] .nil rfl rfl
theorem dL.of {s s':ah} {i:Int} (h:dL s i) (e1:s'.aB=s.aB) (e2:s'.gs.length=s.gs.length):dL s' i:=by
 obtain ⟨a,b,c,d⟩:=h;have e3:su s' i=su s i:=by unfold su;rw [e1]
 exact ⟨a,by rw [e1];exact b,by rw [e3];exact c,by rw [e3,e2];exact d⟩
theorem Few.of {s s':ah} (h:Few s) (e1:s'.gs.length=s.gs.length) (e2:s'.au.length=s.au.length) (e3:s'.aB.length=s.aB.length):Few s':=⟨by rw [e1];exact h.1,by rw [e2];exact h.2.1,by rw [e3];exact h.2.2⟩
theorem gf (s:ah) (i:Int):(aT s i).gs=s.gs:=by unfold aT;split <;> rfl
theorem vL (s:ah) (i:Int):(aT s i).aB=s.aB:=by unfold aT;split <;> rfl
theorem GN (s:ah) (i:Int):(aT s i).au.length=s.au.length:=by unfold aT;split <;> simp [aA]
theorem xG (s:ah) (g:Nat) (i:Int):(Sx.pair s g i).gs.length=s.gs.length:=by simp [Sx.pair,ai]
theorem C7 (s:ah) (g:Nat) (i wi ha:Int) (hg:g < s.gs.length) (hi:dL s i) (hb:Fit s) :
  Pure prog 227 [.agg (aD s),.c (nI g),.c (nI i),.c (nI wi),.c (nI ha)] (.agg (aD (taken s g i wi ha))):=by
 obtain ⟨gG,dY,fo,iD⟩:=id hi;have hf:Few s:=hb.toAnd;refine av.intro func227 rfl rfl rfl (fun ok e=>?_)
 cases h1:decide ((su s i).cs ≥ 0) with
 | true =>
  have er:taken s g i wi ha=Sx.aG (ai s g { aa s g with hold:=i }) g wi:=by unfold taken;rw [if_pos (by simpa using h1)]
  rw [er]
  repeat (first | (refine K.indexAddr ?_;refine jx rfl rfl rfl rfl (by omega) (iB gG dY) ?_) | refine aR (cS s g { aa s g with hold:=i } hg hf.1) ?_ | refine aR (fU (ai s g { aa s g with hold:=i }) g wi (by rw [cz];exact hg) (by rw [cz];exact hf.1)) ?_ | refine ay ?_ | intro _)
  exact aC func227
 | false =>
  have er:taken s g i wi ha=Sx.aG (Sx.pair (aT (ai s g { aa s g with hold:=i,t:=s.step }) i) g i) g ha:=by unfold taken;rw [if_neg (by simpa using h1)]
  have f1:Few (ai s g { aa s g with hold:=i,t:=s.step }):=hf.of (cz _ _ _) rfl rfl;have k1:dL (ai s g { aa s g with hold:=i,t:=s.step }) i:=hi.of rfl (cz _ _ _);have g1:g < (ai s g { aa s g with hold:=i,t:=s.step }).gs.length:=by rw [cz];exact hg
  have C1:=cS s g { aa s g with hold:=i,t:=s.step } hg hf.1;have C2:=ue (ai s g { aa s g with hold:=i,t:=s.step }) i gG dY (Nat.le_trans (hb.rv (su s i).ch) (by omega)) (Nat.le_trans (hb.sd (su s i).ch) (by omega)) hf.2.1;rw [er];generalize ai s g { aa s g with hold:=i,t:=s.step }=s1 at *;have g2:g < (aT s1 i).gs.length:=by rw [gf];exact g1
  have C3:=M8 (aT s1 i) g i g2 (k1.of (vL _ _) (by rw [gf])) (f1.of (by rw [gf]) (GN _ _) (by rw [vL]));have C4:=fU (Sx.pair (aT s1 i) g i) g ha (by rw [xG];exact g2) (by rw [xG,gf];exact f1.1)
  repeat (first | (refine K.indexAddr ?_;refine jx rfl rfl rfl rfl (by omega) (iB gG dY) ?_) | refine ay ?_ | intro _)
  exact aC func227
end Fl
open Go.RowKit
namespace Fl
open Sx Go.Proofs.Tryz
set_option maxRecDepth 100000
theorem GP (s:ah) (g:Nat) (back on:Int) (hg:g < s.gs.length) (hi:dL s (aa s g).hold) (hb:Fit s) :
  Pure prog 157 [.agg (aD s),.c (nI g),.c (nI back),.c (nI on)] (.agg (aD (cU s g back on))):=by
 obtain ⟨gG,dY,fo,iD⟩:=id hi;have hf:Few s:=hb.toAnd;have Xs:=hi.gr;refine av.intro func157 rfl rfl rfl (fun ok e=>?_)
 cases h1:(aa s (su s (aa s g).hold).g.toNat).aU with
 | true =>
  have er:cU s g back on=ai (aT s (aa s g).hold) g { aa s g with hold:=-1,place:=back }:=by unfold cU;simp only;rw [if_pos h1]
  have C1:=ue s (aa s g).hold gG dY (Nat.le_trans (hb.rv _) (by omega)) (Nat.le_trans (hb.sd _) (by omega)) hf.2.1;have C2:=cS (aT s (aa s g).hold) g { aa s g with hold:=-1,place:=back } (by rw [gf];exact hg) (by rw [gf];exact hf.1);rw [er]
  repeat (first | refine J.iy (congrArg (fun b=>some (D.c (bI b))) h1) ?_ | (refine K.indexAddr ?_;refine jx rfl rfl rfl rfl (by omega) (iB gG dY) ?_) | refine ay ?_ | intro _)
  exact aC func157
 | false =>
  have er:cU s g back on=Sx.aG (Sx.pair (ai (ai s g { aa s g with t:=s.step }) (su s (aa s g).hold).g.toNat { aa s (su s (aa s g).hold).g.toNat with aU:=true }) g (aa s g).hold) g on:=by unfold cU;simp only;rw [if_neg (by rw [h1];simp)]
  have C1:=cS s g { aa s g with t:=s.step } hg hf.1;have f1:Few (ai s g { aa s g with t:=s.step }):=hf.of (cz _ _ _) rfl rfl;have k1:dL (ai s g { aa s g with t:=s.step }) (aa s g).hold:=hi.of rfl (cz _ _ _);have g1:g < (ai s g { aa s g with t:=s.step }).gs.length:=by rw [cz];exact hg
  have q1:(su s (aa s g).hold).g < (ai s g { aa s g with t:=s.step }).gs.length:=by rw [cz];exact iD
  rw [er];generalize ai s g { aa s g with t:=s.step }=s1 at *;have C2:=Al s1 (su s (aa s g).hold).g { aa s (su s (aa s g).hold).g.toNat with aU:=true } fo q1 f1.1;have f2:Few (ai s1 (su s (aa s g).hold).g.toNat { aa s (su s (aa s g).hold).g.toNat with aU:=true }):=f1.of (cz _ _ _) rfl rfl;have k2:dL (ai s1 (su s (aa s g).hold).g.toNat { aa s (su s (aa s g).hold).g.toNat with aU:=true }) (aa s g).hold:=k1.of rfl (cz _ _ _);have g2:g < (ai s1 (su s (aa s g).hold).g.toNat { aa s (su s (aa s g).hold).g.toNat with aU:=true }).gs.length:=by rw [cz];exact g1
  generalize ai s1 (su s (aa s g).hold).g.toNat { aa s (su s (aa s g).hold).g.toNat with aU:=true }=s2 at *;have C3:=M8 s2 g (aa s g).hold g2 k2 f2;have C4:=fU (Sx.pair s2 g (aa s g).hold) g on (by rw [xG];exact g2) (by rw [xG];exact f2.1)
  repeat (first | refine J.gK (congrArg (fun b=>some (D.c (bI b))) h1) ?_ | (refine K.indexAddr ?_;refine jx rfl rfl rfl rfl (by omega) (iB gG dY) ?_) | refine ay ?_ | intro _)
  refine J.draw (by kernel_rfl) rfl ?_;refine JW.base (some 7) ?_;refine tk 0 ?_;refine tk 1 ?_;refine tk 2 ?_;refine tk 4 ?_;refine tk 5 ?_;refine c9 3 (C1) ?_;refine c9 6 (C2) ?_;refine jt 7 rfl rfl (Ld.bh rfl rfl rfl (by exact rfl) (by exact rfl)) (fun _=>?_);refine cu ?_
  repeat (refine gn ?_)
  exact aC func157
theorem pX (s:ah) (g:Nat):(aQ s g).1.gs=s.gs:=by unfold aQ;split;split <;> rfl;rfl
theorem GQ (s:ah) (g:Nat):(aQ s g).1.aB=s.aB:=by unfold aQ;split;split <;> rfl;rfl
theorem Ns (s:ah) (g:Nat) (d:Su) (hg:g < s.gs.length) (hb:Few s) (hp:oN s) (hc:g < s.cache.length) (hd:(aQ s g).2.2=true→0≤(aQ s g).2.1∧(aQ s g).2.1 < s.aB.length) :
  Pure prog 230 [.agg (aD s),.c (nI g),.agg (eS d)] (.agg (aD (Sx.aI s g d))):=by
 have C1:=Nn s g hc hp;refine av.intro func230 rfl rfl rfl (fun ok e=>?_);have g1:g < (aQ s g).1.gs.length:=by rw [pX];exact hg
 have b1:(aQ s g).1.gs.length≤100000:=by rw [pX];exact hb.1
 cases h1:(aQ s g).2.2 with
 | true =>
  obtain ⟨d1,d2⟩:=hd h1;have er:Sx.aI s g d=ai (aN (aQ s g).1 (aQ s g).2.1 d) g { aa s g with aI:=(aQ s g).2.1,place:=11 }:=by unfold Sx.aI;rw [if_pos h1]
  rw [er];rw [h1] at C1;have C2:=wY (aQ s g).1 (aQ s g).2.1 d d1 (by rw [GQ];exact d2) (by rw [GQ];exact hb.2.2);have C3:=cS (aN (aQ s g).1 (aQ s g).2.1 d) g { aa s g with aI:=(aQ s g).2.1,place:=11 } g1 b1
  repeat (first | refine ay ?_ | intro _)
  refine J.draw (by kernel_rfl) rfl ?_;refine JW.base (some 7) ?_;refine tk 0 ?_;refine tk 1 ?_;refine tk 2 ?_;refine tk 4 ?_;refine tk 5 ?_;refine c9 3 (C2) ?_;refine c9 6 (C3) ?_;refine jt 7 rfl rfl (Ld.bh rfl rfl rfl (by exact rfl) (by exact rfl)) (fun _=>?_);refine cu ?_
  repeat (fail)
  exact aC func230
 | false =>
  have er:Sx.aI s g d=ai (aQ s g).1 g { aa s g with res:={ (aa s g).res with code:=6 },place:=16 }:=by unfold Sx.aI;rw [if_neg (by rw [h1];simp)]
  rw [er];rw [h1] at C1
  repeat (first | refine aR (cS (aQ s g).1 g { aa s g with res:={ (aa s g).res with code:=6 },place:=16 } g1 b1) ?_ | refine ay ?_ | intro _)
  exact aC func230
end Fl
open Go.RowKit
namespace Fl
open Sx Go.Proofs.Tryz
set_option maxRecDepth 100000
structure nW (s:ah) (g:Nat):Prop where
 co:xE s g
 fit:Fit s
 l6:(aa s g).place=6→∀ i l,(cn s (ag s g).ch).recv=i :: l→dL s i
 l7:(aa s g).place=7→dL s (aa s g).hold
 l8:(aa s g).place=8→dL s (aa s g).hold
 xH:(aa s g).place=10→oN s∧g < s.cache.length∧((aQ s g).2.2=true→0≤(aQ s g).2.1∧(aQ s g).2.1 < s.aB.length)
 uj:(aa s g).place=14→0≤(aa s g).param∧(aa s g).param < s.aB.length
theorem Xt (s:ah) (g:Nat) (h:nW s g) (hk:(ag s g).kind=2∨(ag s g).kind=4) (hc:(common s g).2=false) (hm:aL s (ag s g).ch=true) (e0:(aa s g).place=1) :
  Pure prog 171 [.agg (aD s),.c (nI g)] (.aZ [.agg (aD (bV s g).1),.c (bI (bV s g).2)]):=by
 have hg:=h.co.lt;have hf:Few s:=h.fit.toAnd;have hb:=hf.1;have dM:=hf.2.1;have C0:=dH s g hg h.co.dm;have C1:=fV s g h.co;obtain ⟨k,ek,cL⟩:∃ k,(ag s g).kind=k∧(k=2∨k=4):=⟨_,rfl,hk⟩
 have KN:∀ c,((ag s g).kind != c)=(k != c):=fun c=>by rw [ek]
 have KE:∀ c,((ag s g).kind == c)=(k == c):=fun c=>by rw [ek]
 have bu:¬ ((ag s g).kind≠2∧(ag s g).kind≠4):=by omega
 have cP:¬ (common s g).2=true:=by rw [hc];simp
 rw [hc] at C1;have CM:=fD s (ag s g).ch;have cF:¬ aL s (ag s g).ch=false:=by rw [hm];simp
 have hl:=fh hm;rw [hm] at CM;have aj:bV s g=bV s g:=rfl
 conv at aj=>rhs;unfold bV;simp only;rw [if_neg bu,if_neg cP,if_neg cF]
 have P:∀ c,((aa s g).place == c)=((1:Int) == c):=fun c=>by rw [e0]
 refine av.intro func171 rfl rfl rfl (fun ok e=>?_);rw [if_pos e0] at aj;have CR:=W3 (cn s (ag s g).ch)
 cases hr:Sx.room (cn s (ag s g).ch) with
 | true =>
  rw [if_pos hr] at aj;rw [hr] at CR;rw [aj];rcases cL with rfl | rfl
  all_goals
   repeat (first | refine aK (KN _) ?_ | refine aK (P _) ?_ | refine aR (fU s g 4 hg hb) ?_ | refine ay ?_ | intro _)
   exact aC func171
 | false =>
  rw [if_neg (by rw [hr];simp)] at aj;rw [hr] at CR;rw [aj];rcases cL with rfl | rfl
  all_goals
   repeat (first | refine aK (KN _) ?_ | refine aK (P _) ?_ | refine aR (jA s g (aa s g).res 2 hg hb) ?_ | refine ay ?_ | intro _)
   exact aC func171
theorem Xu (s:ah) (g:Nat) (h:nW s g) (hk:(ag s g).kind=2∨(ag s g).kind=4) (hc:(common s g).2=false) (hm:aL s (ag s g).ch=true) (e0:(aa s g).place=2) :
  Pure prog 171 [.agg (aD s),.c (nI g)] (.aZ [.agg (aD (bV s g).1),.c (bI (bV s g).2)]):=by
 have hg:=h.co.lt;have hf:Few s:=h.fit.toAnd;have hb:=hf.1;have dM:=hf.2.1;have C0:=dH s g hg h.co.dm;have C1:=fV s g h.co;obtain ⟨k,ek,cL⟩:∃ k,(ag s g).kind=k∧(k=2∨k=4):=⟨_,rfl,hk⟩
 have KN:∀ c,((ag s g).kind != c)=(k != c):=fun c=>by rw [ek]
 have KE:∀ c,((ag s g).kind == c)=(k == c):=fun c=>by rw [ek]
 have bu:¬ ((ag s g).kind≠2∧(ag s g).kind≠4):=by omega
 have cP:¬ (common s g).2=true:=by rw [hc];simp
 rw [hc] at C1;have CM:=fD s (ag s g).ch;have cF:¬ aL s (ag s g).ch=false:=by rw [hm];simp
 have hl:=fh hm;rw [hm] at CM;have aj:bV s g=bV s g:=rfl
 conv at aj=>rhs;unfold bV;simp only;rw [if_neg bu,if_neg cP,if_neg cF]
 have P:∀ c,((aa s g).place == c)=((2:Int) == c):=fun c=>by rw [e0]
 refine av.intro func171 rfl rfl rfl (fun ok e=>?_);rw [az] at aj;rw [if_pos e0] at aj
 cases bY:(cn s (ag s g).ch).closed with
 | true =>
  rw [if_pos bY] at aj;rw [aj];rcases cL with rfl | rfl
  all_goals
   repeat (first | refine J.iy (congrArg (fun b=>some (D.c (bI b))) bY) ?_ | refine aK (KN _) ?_ | refine aK (P _) ?_ | refine aR (cS s g { aa s g with bE:=0,place:=4 } hg hb) ?_ | refine ay ?_ | intro _)
   exact aC func171
 | false =>
  rw [if_neg (by rw [bY];simp)] at aj;rw [aj];rcases cL with rfl | rfl
  all_goals
   repeat (first | refine J.gK (congrArg (fun b=>some (D.c (bI b))) bY) ?_ | refine aK (KN _) ?_ | refine aK (P _) ?_ | refine aR (cS s g { aa s g with res:={ (aa s g).res with code:=2 },place:=18 } hg hb) ?_ | refine ay ?_ | intro _)
   exact aC func171
theorem Xv (s:ah) (g:Nat) (h:nW s g) (hk:(ag s g).kind=2∨(ag s g).kind=4) (hc:(common s g).2=false) (hm:aL s (ag s g).ch=true) (e0:(aa s g).place=5) :
  Pure prog 171 [.agg (aD s),.c (nI g)] (.aZ [.agg (aD (bV s g).1),.c (bI (bV s g).2)]):=by
 have hg:=h.co.lt;have hf:Few s:=h.fit.toAnd;have hb:=hf.1;have dM:=hf.2.1;have C0:=dH s g hg h.co.dm;have C1:=fV s g h.co;obtain ⟨k,ek,cL⟩:∃ k,(ag s g).kind=k∧(k=2∨k=4):=⟨_,rfl,hk⟩
 have KN:∀ c,((ag s g).kind != c)=(k != c):=fun c=>by rw [ek]
 have KE:∀ c,((ag s g).kind == c)=(k == c):=fun c=>by rw [ek]
 have bu:¬ ((ag s g).kind≠2∧(ag s g).kind≠4):=by omega
 have cP:¬ (common s g).2=true:=by rw [hc];simp
 rw [hc] at C1;have CM:=fD s (ag s g).ch;have cF:¬ aL s (ag s g).ch=false:=by rw [hm];simp
 have hl:=fh hm;rw [hm] at CM;have aj:bV s g=bV s g:=rfl
 conv at aj=>rhs;unfold bV;simp only;rw [if_neg bu,if_neg cP,if_neg cF]
 have P:∀ c,((aa s g).place == c)=((5:Int) == c):=fun c=>by rw [e0]
 refine av.intro func171 rfl rfl rfl (fun ok e=>?_);rw [az,az] at aj;rw [if_pos e0] at aj
 cases bY:(cn s (ag s g).ch).closed with
 | true =>
  rw [if_pos bY] at aj;rw [aj];rcases cL with rfl | rfl
  all_goals
   repeat (first | refine J.iy (congrArg (fun b=>some (D.c (bI b))) bY) ?_ | refine aK (KN _) ?_ | refine aK (P _) ?_ | refine aR (jA s g (Sx.res 3) 16 hg hb) ?_ | refine ay ?_ | intro _)
   exact aC func171
 | false =>
  rw [if_neg (by rw [bY];simp)] at aj;rw [aj];rcases cL with rfl | rfl
  all_goals
   repeat (first | refine J.gK (congrArg (fun b=>some (D.c (bI b))) bY) ?_ | refine aK (KN _) ?_ | refine aK (P _) ?_ | refine aR (fU s g 6 hg hb) ?_ | refine ay ?_ | intro _)
   exact aC func171
theorem Xw (s:ah) (g:Nat) (h:nW s g) (hk:(ag s g).kind=2∨(ag s g).kind=4) (hc:(common s g).2=false) (hm:aL s (ag s g).ch=true) (e0:(aa s g).place=6) :
  Pure prog 171 [.agg (aD s),.c (nI g)] (.aZ [.agg (aD (bV s g).1),.c (bI (bV s g).2)]):=by
 have hg:=h.co.lt;have hf:Few s:=h.fit.toAnd;have hb:=hf.1;have dM:=hf.2.1;have C0:=dH s g hg h.co.dm;have C1:=fV s g h.co;obtain ⟨k,ek,cL⟩:∃ k,(ag s g).kind=k∧(k=2∨k=4):=⟨_,rfl,hk⟩
 have KN:∀ c,((ag s g).kind != c)=(k != c):=fun c=>by rw [ek]
 have KE:∀ c,((ag s g).kind == c)=(k == c):=fun c=>by rw [ek]
 have bu:¬ ((ag s g).kind≠2∧(ag s g).kind≠4):=by omega
 have cP:¬ (common s g).2=true:=by rw [hc];simp
 rw [hc] at C1;have CM:=fD s (ag s g).ch;have cF:¬ aL s (ag s g).ch=false:=by rw [hm];simp
 have hl:=fh hm;rw [hm] at CM;have aj:bV s g=bV s g:=rfl
 conv at aj=>rhs;unfold bV;simp only;rw [if_neg bu,if_neg cP,if_neg cF]
 have P:∀ c,((aa s g).place == c)=((6:Int) == c):=fun c=>by rw [e0]
 refine av.intro func171 rfl rfl rfl (fun ok e=>?_);rw [az,az,az] at aj;rw [if_pos e0] at aj
 cases jw:(cn s (ag s g).ch).recv with
 | nil =>
  have hz:(((cn s (ag s g).ch).recv.length:Int) == 0)=true:=by rw [jw];rfl
  rw [if_pos (by rw [jw];rfl)] at aj;rw [aj];rcases cL with rfl | rfl
  all_goals
   repeat (first | refine aK (KN _) ?_ | refine aK (P _) ?_ | refine aR (fU s g 9 hg hb) ?_ | refine ay ?_ | intro _)
   exact aC func171
 | cons a l =>
  have hz:(((cn s (ag s g).ch).recv.length:Int) == 0)=false:=by rw [jw];simp;omega
  have w0:((cn s (ag s g).ch).recv.map fun n=>[nI n])[(0:Int).toNat]?=some [nI a]:=by rw [jw];rfl
  rw [if_neg (by rw [jw];simp),jw] at aj;rw [aj];rcases cL with rfl | rfl
  all_goals
   repeat (first | refine aK (KN _) ?_ | refine aK (P _) ?_ | refine ay ?_ | intro _)
   refine J.draw (by kernel_rfl) rfl ?_;refine JW.base (some 7) ?_;refine tk 0 ?_;refine tk 1 ?_;refine tk 2 ?_;refine tk 3 ?_;refine JD.take 4 rfl rfl (by kernel_rfl) rfl (qb rfl) (Qt.dc rfl rfl (by omega) w0) rfl ?_;refine tk 5 ?_;refine c9 6 (C7 s g a 7 8 hg (h.l6 e0 a l jw) h.fit) ?_;refine jt 7 rfl rfl (Ld.bh rfl rfl rfl (by exact rfl) (by exact rfl)) (fun _=>?_);refine JW.base none ?_;refine jk 8 rfl rfl rfl rfl (Qt.assign rfl) ?_;refine bX ?_
   repeat (fail)
   exact aC func171
theorem Xx (s:ah) (g:Nat) (h:nW s g) (hk:(ag s g).kind=2∨(ag s g).kind=4) (hc:(common s g).2=false) (hm:aL s (ag s g).ch=true) (e0:(aa s g).place=7) :
  Pure prog 171 [.agg (aD s),.c (nI g)] (.aZ [.agg (aD (bV s g).1),.c (bI (bV s g).2)]):=by
 have hg:=h.co.lt;have hf:Few s:=h.fit.toAnd;have hb:=hf.1;have dM:=hf.2.1;have C0:=dH s g hg h.co.dm;have C1:=fV s g h.co;obtain ⟨k,ek,cL⟩:∃ k,(ag s g).kind=k∧(k=2∨k=4):=⟨_,rfl,hk⟩
 have KN:∀ c,((ag s g).kind != c)=(k != c):=fun c=>by rw [ek]
 have KE:∀ c,((ag s g).kind == c)=(k == c):=fun c=>by rw [ek]
 have bu:¬ ((ag s g).kind≠2∧(ag s g).kind≠4):=by omega
 have cP:¬ (common s g).2=true:=by rw [hc];simp
 rw [hc] at C1;have CM:=fD s (ag s g).ch;have cF:¬ aL s (ag s g).ch=false:=by rw [hm];simp
 have hl:=fh hm;rw [hm] at CM;have aj:bV s g=bV s g:=rfl
 conv at aj=>rhs;unfold bV;simp only;rw [if_neg bu,if_neg cP,if_neg cF]
 have P:∀ c,((aa s g).place == c)=((7:Int) == c):=fun c=>by rw [e0]
 refine av.intro func171 rfl rfl rfl (fun ok e=>?_);rw [az,az,az,az] at aj;rw [if_pos e0] at aj;rw [aj];rcases cL with rfl | rfl
 all_goals
  repeat (first | refine aK (KN _) ?_ | refine aK (P _) ?_ | refine aR (GP s g 6 8 hg (h.l7 e0) h.fit) ?_ | refine ay ?_ | intro _)
  exact aC func171
theorem Xy (s:ah) (g:Nat) (h:nW s g) (hk:(ag s g).kind=2∨(ag s g).kind=4) (hc:(common s g).2=false) (hm:aL s (ag s g).ch=true) (e0:(aa s g).place=9) :
  Pure prog 171 [.agg (aD s),.c (nI g)] (.aZ [.agg (aD (bV s g).1),.c (bI (bV s g).2)]):=by
 have hg:=h.co.lt;have hf:Few s:=h.fit.toAnd;have hb:=hf.1;have dM:=hf.2.1;have C0:=dH s g hg h.co.dm;have C1:=fV s g h.co;obtain ⟨k,ek,cL⟩:∃ k,(ag s g).kind=k∧(k=2∨k=4):=⟨_,rfl,hk⟩
 have KN:∀ c,((ag s g).kind != c)=(k != c):=fun c=>by rw [ek]
 have KE:∀ c,((ag s g).kind == c)=(k == c):=fun c=>by rw [ek]
 have bu:¬ ((ag s g).kind≠2∧(ag s g).kind≠4):=by omega
 have cP:¬ (common s g).2=true:=by rw [hc];simp
 rw [hc] at C1;have CM:=fD s (ag s g).ch;have cF:¬ aL s (ag s g).ch=false:=by rw [hm];simp
 have hl:=fh hm;rw [hm] at CM;have aj:bV s g=bV s g:=rfl
 conv at aj=>rhs;unfold bV;simp only;rw [if_neg bu,if_neg cP,if_neg cF]
 have P:∀ c,((aa s g).place == c)=((9:Int) == c):=fun c=>by rw [e0]
 refine av.intro func171 rfl rfl rfl (fun ok e=>?_);rw [az,az,az,az,az,az] at aj;rw [if_pos e0] at aj;have CP:=Np (cn s (ag s g).ch).buf (cn s (ag s g).ch).cap (ag s g).v (h.fit.bf _)
 cases hr:(iW (cn s (ag s g).ch).buf (cn s (ag s g).ch).cap (ag s g).v).2 with
 | true =>
  rw [if_pos hr] at aj;rw [hr] at CP;rw [aj];rcases cL with rfl | rfl
  all_goals
   repeat (first | refine aK (KN _) ?_ | refine aK (P _) ?_ | refine aR (nL s (ag s g).ch { (cn s (ag s g).ch) with buf:=(iW (cn s (ag s g).ch).buf (cn s (ag s g).ch).cap (ag s g).v).1 } hm dM) ?_ | refine mM (CV) ?_ | refine aR (jA (aA s (ag s g).ch { (cn s (ag s g).ch) with buf:=(iW (cn s (ag s g).ch).buf (cn s (ag s g).ch).cap (ag s g).v).1 }) g gj 16 hg hb) ?_ | refine ay ?_ | intro _)
   exact aC func171
 | false =>
  rw [if_neg (by rw [hr];simp)] at aj;rw [hr] at CP;rcases cL with rfl | rfl
  ·rw [az] at aj;rw [aj]
   repeat (first | refine aK (KN _) ?_ | refine aK (P _) ?_ | refine aK (KE _) ?_ | refine aR (fU s g 10 hg hb) ?_ | refine ay ?_ | intro _)
   exact aC func171
  ·rw [if_pos ek] at aj;rw [aj]
   repeat (first | refine aK (KN _) ?_ | refine aK (P _) ?_ | refine aK (KE _) ?_ | refine aR (jA s g (Sx.res 2) 16 hg hb) ?_ | refine ay ?_ | intro _)
   exact aC func171
theorem Xz (s:ah) (g:Nat) (h:nW s g) (hk:(ag s g).kind=2∨(ag s g).kind=4) (hc:(common s g).2=false) (hm:aL s (ag s g).ch=true) (e0:(aa s g).place=10) :
  Pure prog 171 [.agg (aD s),.c (nI g)] (.aZ [.agg (aD (bV s g).1),.c (bI (bV s g).2)]):=by
 have hg:=h.co.lt;have hf:Few s:=h.fit.toAnd;have hb:=hf.1;have dM:=hf.2.1;have C0:=dH s g hg h.co.dm;have C1:=fV s g h.co;obtain ⟨k,ek,cL⟩:∃ k,(ag s g).kind=k∧(k=2∨k=4):=⟨_,rfl,hk⟩
 have KN:∀ c,((ag s g).kind != c)=(k != c):=fun c=>by rw [ek]
 have KE:∀ c,((ag s g).kind == c)=(k == c):=fun c=>by rw [ek]
 have bu:¬ ((ag s g).kind≠2∧(ag s g).kind≠4):=by omega
 have cP:¬ (common s g).2=true:=by rw [hc];simp
 rw [hc] at C1;have CM:=fD s (ag s g).ch;have cF:¬ aL s (ag s g).ch=false:=by rw [hm];simp
 have hl:=fh hm;rw [hm] at CM;have aj:bV s g=bV s g:=rfl
 conv at aj=>rhs;unfold bV;simp only;rw [if_neg bu,if_neg cP,if_neg cF]
 have P:∀ c,((aa s g).place == c)=((10:Int) == c):=fun c=>by rw [e0]
 refine av.intro func171 rfl rfl rfl (fun ok e=>?_);rw [az,az,az,az,az,az,az] at aj;rw [if_pos e0] at aj;obtain ⟨f1,f2,f3⟩:=h.xH e0;rw [aj];rcases cL with rfl | rfl
 all_goals
  repeat (first | refine aK (KN _) ?_ | refine aK (P _) ?_ | refine aR (Ns s g ⟨true,g,(ag s g).ch,-1,true,(ag s g).v,false⟩ hg hf f1 f2 f3) ?_ | refine ay ?_ | intro _)
  exact aC func171
theorem XA (s:ah) (g:Nat) (h:nW s g) (hk:(ag s g).kind=2∨(ag s g).kind=4) (hc:(common s g).2=false) (hm:aL s (ag s g).ch=true) (e0:(aa s g).place=11) :
  Pure prog 171 [.agg (aD s),.c (nI g)] (.aZ [.agg (aD (bV s g).1),.c (bI (bV s g).2)]):=by
 have hg:=h.co.lt;have hf:Few s:=h.fit.toAnd;have hb:=hf.1;have dM:=hf.2.1;have C0:=dH s g hg h.co.dm;have C1:=fV s g h.co;obtain ⟨k,ek,cL⟩:∃ k,(ag s g).kind=k∧(k=2∨k=4):=⟨_,rfl,hk⟩
 have KN:∀ c,((ag s g).kind != c)=(k != c):=fun c=>by rw [ek]
 have KE:∀ c,((ag s g).kind == c)=(k == c):=fun c=>by rw [ek]
 have bu:¬ ((ag s g).kind≠2∧(ag s g).kind≠4):=by omega
 have cP:¬ (common s g).2=true:=by rw [hc];simp
 rw [hc] at C1;have CM:=fD s (ag s g).ch;have cF:¬ aL s (ag s g).ch=false:=by rw [hm];simp
 have hl:=fh hm;rw [hm] at CM;have aj:bV s g=bV s g:=rfl
 conv at aj=>rhs;unfold bV;simp only;rw [if_neg bu,if_neg cP,if_neg cF]
 have P:∀ c,((aa s g).place == c)=((11:Int) == c):=fun c=>by rw [e0]
 refine av.intro func171 rfl rfl rfl (fun ok e=>?_);rw [az,az,az,az,az,az,az,az] at aj;rw [if_pos e0] at aj;rw [aj];have jU:=h.fit.sd (ag s g).ch;have C2:=nL s (ag s g).ch { (cn s (ag s g).ch) with send:=(cn s (ag s g).ch).send ++ [(aa s g).aI] } hm dM;have C3:=cS (aA s (ag s g).ch { (cn s (ag s g).ch) with send:=(cn s (ag s g).ch).send ++ [(aa s g).aI] }) g { aa s g with iJ:=s.step,place:=12 } hg hb;rcases cL with rfl | rfl
 all_goals
  repeat (first | refine aK (KN _) ?_ | refine aK (P _) ?_ | refine ay ?_ | intro _)
  refine J.draw (by kernel_rfl) rfl ?_;refine JW.base (some 9) ?_;refine tk 1 ?_;refine tk 2 ?_;refine tk 4 ?_;refine tk 5 ?_;refine JD.dA (i:=0) (j:=6) (by kernel_rfl) ?_ ?_;refine JS.cK rfl rfl rfl (qb rfl) (Ld.gR (qb rfl)) .none (fun _=>?_);refine JD.dA (i:=3) (j:=6) (by kernel_rfl) ?_ ?_;refine JS.cK rfl rfl rfl (qb rfl) (Ld.cB (qb rfl) rfl rfl .read (by (simp;omega))) (by (exact .row (by repeat ((exact .refl))))) (fun _=>?_);refine jl 6 rfl rfl rfl rfl (Ld.fO (qb rfl) rfl rfl rfl rfl rfl) .none (fun _=>?_);refine jl 7 rfl rfl rfl rfl (Ld.fP (qb rfl) rfl rfl .de (by (simp;omega))) (by (exact .row (by repeat (first | exact .refl | refine .cons ?_)))) (fun _=>?_);refine jk 8 rfl rfl rfl rfl (Qt.fieldAddr rfl rfl) ?_;refine jt 9 rfl rfl (Ld.di rfl rfl (by exact rfl)) (fun _=>?_);refine cu ?_
  rotate_left
  refine JS.cK rfl rfl rfl (qb rfl) (Ld.fO (qb rfl) rfl rfl rfl rfl rfl) .none (fun _=>?_);refine jl 3 rfl rfl rfl rfl (Ld.cB (qb rfl) rfl rfl .read (by (simp;omega))) (by (exact .row (by repeat (first | exact .refl | refine .cons ?_)))) (fun _=>?_);refine jl 7 rfl rfl rfl rfl (Ld.fP (qb rfl) rfl rfl .de (by (simp;omega))) (by (exact .row (by repeat (first | exact .refl | refine .cons ?_)))) (fun _=>?_);refine jk 8 rfl rfl rfl rfl (Qt.fieldAddr rfl rfl) ?_;refine jt 9 rfl rfl (Ld.di rfl rfl (by exact rfl)) (fun _=>?_);refine cu ?_
  rotate_left
  refine JS.cK rfl rfl rfl (qb rfl) (Ld.fO (qb rfl) rfl rfl rfl rfl rfl) .none (fun _=>?_);refine jl 0 rfl rfl rfl rfl (Ld.gR (qb rfl)) .none (fun _=>?_);refine jl 3 rfl rfl rfl rfl (Ld.cB (qb rfl) rfl rfl .read (by (simp;omega))) (by (exact .row (by repeat (first | exact .refl | refine .cons ?_)))) (fun _=>?_);refine jl 7 rfl rfl rfl rfl (Ld.fP (qb rfl) rfl rfl .de (by (simp;omega))) (by (exact .row (by repeat (first | exact .refl | refine .cons ?_)))) (fun _=>?_);refine jk 8 rfl rfl rfl rfl (Qt.fieldAddr rfl rfl) ?_;refine jt 9 rfl rfl (Ld.di rfl rfl (by exact rfl)) (fun _=>?_);refine cu ?_
  rotate_left
  all_goals
   repeat (refine gn ?_)
   refine J.draw (by kernel_rfl) rfl ?_;refine JW.base (some 8) ?_;refine tk 0 ?_;refine tk 1 ?_;refine tk 2 ?_;refine tk 3 ?_;refine tk 5 ?_;refine tk 6 ?_;refine jl 4 rfl rfl rfl rfl (Ld.pure (C2) (qb rfl) rfl (by repeat (first | exact aW.nil | refine aW.cons (eU.agg (by repeat (first | exact .nil | refine .cons .refl ?_ | refine .cons .snoc ?_))) ?_ | refine aW.cons eU.refl ?_))) .none (fun _=>?_);refine c9 7 (C3) ?_;refine jt 8 rfl rfl (Ld.bh rfl rfl rfl (by exact rfl) (by exact rfl)) (fun _=>?_);refine JW.base none ?_;refine jk 9 rfl rfl rfl rfl (Qt.assign rfl) ?_;refine bX ?_
   repeat (fail)
   exact aC func171
theorem XB (s:ah) (g:Nat) (h:nW s g) (hk:(ag s g).kind=2∨(ag s g).kind=4) (hc:(common s g).2=false) (hm:aL s (ag s g).ch=true) (e0:(aa s g).place=14) :
  Pure prog 171 [.agg (aD s),.c (nI g)] (.aZ [.agg (aD (bV s g).1),.c (bI (bV s g).2)]):=by
 have hg:=h.co.lt;have hf:Few s:=h.fit.toAnd;have hb:=hf.1;have dM:=hf.2.1;have C0:=dH s g hg h.co.dm;have C1:=fV s g h.co;obtain ⟨k,ek,cL⟩:∃ k,(ag s g).kind=k∧(k=2∨k=4):=⟨_,rfl,hk⟩
 have KN:∀ c,((ag s g).kind != c)=(k != c):=fun c=>by rw [ek]
 have KE:∀ c,((ag s g).kind == c)=(k == c):=fun c=>by rw [ek]
 have bu:¬ ((ag s g).kind≠2∧(ag s g).kind≠4):=by omega
 have cP:¬ (common s g).2=true:=by rw [hc];simp
 rw [hc] at C1;have CM:=fD s (ag s g).ch;have cF:¬ aL s (ag s g).ch=false:=by rw [hm];simp
 have hl:=fh hm;rw [hm] at CM;have aj:bV s g=bV s g:=rfl
 conv at aj=>rhs;unfold bV;simp only;rw [if_neg bu,if_neg cP,if_neg cF]
 have P:∀ c,((aa s g).place == c)=((14:Int) == c):=fun c=>by rw [e0]
 refine av.intro func171 rfl rfl rfl (fun ok e=>?_);rw [az,az,az,az,az,az,az,az,az] at aj;rw [if_pos e0] at aj;obtain ⟨f1,f2⟩:=h.uj e0;rw [aj]
 cases hd:(su s (aa s g).param).done with
 | true =>
  rw [if_pos rfl];rcases cL with rfl | rfl
  all_goals
   repeat (first | refine J.gK (congrArg (fun b=>some (D.c (bI (!b)))) hd) ?_ | (refine K.indexAddr ?_;refine jx rfl rfl rfl rfl (by omega) (iB f1 f2) ?_) | refine aK (KN _) ?_ | refine aK (P _) ?_ | refine mM (CV) ?_ | refine aR (cS s g { aa s g with res:=gj,param:=-1,place:=15 } hg hb) ?_ | refine ay ?_ | intro _)
   exact aC func171
 | false =>
  rw [if_neg (by simp)];rcases cL with rfl | rfl
  all_goals
   repeat (first | refine J.iy (congrArg (fun b=>some (D.c (bI (!b)))) hd) ?_ | (refine K.indexAddr ?_;refine jx rfl rfl rfl rfl (by omega) (iB f1 f2) ?_) | refine aK (KN _) ?_ | refine aK (P _) ?_ | refine mM (CV) ?_ | refine aR (cS s g { aa s g with res:=Sx.res 3,param:=-1,place:=15 } hg hb) ?_ | refine ay ?_ | intro _)
   exact aC func171
end Fl
end Go.Proofs.YtdjhhbpedllnhaaGreat
