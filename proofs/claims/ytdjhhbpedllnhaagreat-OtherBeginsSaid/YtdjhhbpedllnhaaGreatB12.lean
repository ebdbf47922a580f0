/-
  What the laws need, part B12.
  Conditions: none.
-/
import Derived.Test.YtdjhhbpedllnhaaGreatB11
set_option linter.unusedVariables false
set_option linter.unusedSimpArgs false
set_option linter.unnecessarySimpa false
set_option maxHeartbeats 2000000
namespace Go.Proofs.YtdjhhbpedllnhaaGreat
open Go.RowKit
namespace Fl
open Sx Go.Proofs.Tryz
set_option maxRecDepth 100000
theorem Kq (l:List Int) (r v:Int) (hb:l.length≤50000) :
  Pure prog 229 [.c (ints l),.c (nI r),.c (nI v)] (.bp [.c (ints (fo l r v).1),.c (bI (fo l r v).2)]):=by
 refine an.intro func229 rfl rfl rfl (fun ok e=>?_)
 cases h1:decide ((l.length:Int) ≥ r) with
 | true =>
  have e1:fo l r v=(l,false):=by unfold fo;rw [if_pos (by simpa using h1)]
  rw [e1]
  repeat (refine gn ?_)
  exact aD func229
 | false =>
  have e1:fo l r v=(l ++ [v],true):=by unfold fo;rw [if_neg (by simpa using h1)]
  rw [e1]
  repeat (first | (refine K.bi ?_;first | refine JO.ld (Ld.cy (qb rfl) rfl rfl .read (by first | (simp;omega) | simp)) rfl (fun _=>?_) | refine JO.ld (Ld.cy (qb rfl) rfl rfl .dj (by (simp;omega))) rfl (fun _=>?_)) | refine ay ?_ | intro _)
  refine J.ji 6 rfl ?_;exact J.ret func229 rfl (.cons (.tmp rfl) (.cons (.tmp rfl) .nil)) () (by (exact .bp (by repeat (first | exact .nil | refine .cons .refl ?_ | refine .cons (.c .snoc) ?_)))) [] .nil rfl rfl
theorem Kr {a:Int} {l:List Int}:((((a :: l).map fun n=>[nI n]).take ((((a :: l).map fun n=>[nI n]).length:Int)).toNat).drop (1:Int).toNat)=l.map fun n=>[nI n]:=by
 simp;exact List.take_of_length_le (by simp)
theorem Ks (l:List Int) (hb:l.length≤50000) :
  Pure prog 232 [.c (ints l)] (.bp [.c (ints (dF l).1),.c (nI (dF l).2.1),.c (bI (dF l).2.2)]):=by
 refine an.intro func232 rfl rfl rfl (fun ok e=>?_)
 cases l with
 | nil =>
  repeat (refine gn ?_)
  exact aD func232
 | cons a l =>
  have h1:(((a :: l).length:Int) == 0)=false:=by simp;omega
  have e1:dF (a :: l)=(l,a,true):=by unfold dF;rw [if_neg (by simp)];rfl
  have hl:l.length≤50000:=by simp at hb;omega
  have w2:(1:Int)≤(((a :: l).map fun n=>[nI n]).length:Int):=by simp;omega
  rw [e1]
  repeat (refine gn ?_)
  refine J.draw (by kernel_rfl) rfl ?_;refine JW.base none ?_;refine tk 1 ?_;refine JD.take 2 rfl rfl (by kernel_rfl) rfl (qb rfl) ((Qt.pX rfl rfl rfl (by omega) (by omega) (by omega)).eq (congrArg (fun z=>D.c (A.r 1 z)) Kr)) rfl ?_;refine tk 4 ?_;refine JD.take 5 rfl rfl (by kernel_rfl) rfl (qb rfl) (Qt.cI rfl rfl (by omega) (show ((a :: l).map fun n=>[nI n])[(0:Int).toNat]?=some [nI a] from rfl)) rfl ?_;refine tk 6 ?_;refine jl 0 rfl rfl rfl rfl (Ld.gJ (qb rfl)) .none (fun _=>?_);refine jl 3 rfl rfl rfl rfl (Ld.fO (qb rfl) rfl rfl .read (by (simp;omega))) (by (exact .row (by repeat ((exact .refl))))) (fun _=>?_);refine jk 7 rfl rfl rfl rfl (Qt.assign rfl) ?_;refine jk 8 rfl rfl rfl rfl (Qt.assign rfl) ?_;refine jk 9 rfl rfl rfl rfl (Qt.assign rfl) ?_;refine bE ?_
  repeat (fail)
  exact aD func232
theorem SY (l:List Int) (r v:Int) (hb:l.length≤50000) :
  Pure prog 246 [.c (ints l),.c (nI r),.c (nI v)] (.bp [.c (ints (fh l r v).1),.c (nI (fh l r v).2.1),.c (bI (fh l r v).2.2)]):=by
 refine an.intro func246 rfl rfl rfl (fun ok e=>?_)
 cases h1:decide ((l.length:Int) < r) with
 | true =>
  have e1:fh l r v=(l,0,false):=by unfold fh;rw [if_pos (.inl (by simpa using h1))]
  rw [e1]
  repeat (refine gn ?_)
  exact aD func246
 | false =>
  cases l with
  | nil =>
   have e1:fh [] r v=([],0,false):=by unfold fh;rw [if_pos (.inr rfl)]
   rw [e1]
   repeat (refine gn ?_)
   exact aD func246
  | cons a l =>
   have h2:(((a :: l).length:Int) == 0)=false:=by simp;omega
   have e1:fh (a :: l) r v=(l ++ [v],a,true):=by unfold fh;rw [if_neg (by simp at h1 ⊢;omega)];rfl
   have hl:l.length≤50000:=by simp at hb;omega
   have w2:(1:Int)≤(((a :: l).map fun n=>[nI n]).length:Int):=by simp;omega
   rw [e1]
   repeat (refine gn ?_)
   refine J.draw (by kernel_rfl) rfl ?_;refine JW.base none ?_;refine tk 1 ?_;refine JD.take 2 rfl rfl (by kernel_rfl) rfl (qb rfl) ((Qt.pX rfl rfl rfl (by omega) (by omega) (by omega)).eq (congrArg (fun z=>D.c (A.r 1 z)) Kr)) rfl ?_;refine tk 4 ?_;refine tk 7 ?_;refine JD.take 8 rfl rfl (by kernel_rfl) rfl (qb rfl) (Qt.cI rfl rfl (by omega) (show ((a :: l).map fun n=>[nI n])[(0:Int).toNat]?=some [nI a] from rfl)) rfl ?_;refine tk 9 ?_;refine JD.cU (i:=0) (j:=5) (by kernel_rfl) ?_ ?_;refine JS.bZ rfl rfl rfl (qb rfl) (Ld.gJ (qb rfl)) .none (fun _=>?_);refine JD.cU (i:=3) (j:=5) (by kernel_rfl) ?_ ?_;refine JS.bZ rfl rfl rfl (qb rfl) (Ld.cy (qb rfl) rfl rfl .read (by (simp;omega))) (by (exact .row (by repeat ((exact .refl))))) (fun _=>?_);refine jl 5 rfl rfl rfl rfl (Ld.fM (qb rfl) rfl rfl rfl rfl rfl) .none (fun _=>?_);refine jl 6 rfl rfl rfl rfl (Ld.fO (qb rfl) rfl rfl .dj (by (simp;omega))) (by (exact .row (by repeat (first | exact .refl | refine .cons ?_)))) (fun _=>?_);refine jk 10 rfl rfl rfl rfl (Qt.assign rfl) ?_;refine jk 11 rfl rfl rfl rfl (Qt.assign rfl) ?_;refine jk 12 rfl rfl rfl rfl (Qt.assign rfl) ?_;refine bE ?_
   rotate_left
   refine JS.bZ rfl rfl rfl (qb rfl) (Ld.fM (qb rfl) rfl rfl rfl rfl rfl) .none (fun _=>?_);refine jl 3 rfl rfl rfl rfl (Ld.cy (qb rfl) rfl rfl .read (by (simp;omega))) (by (exact .row (by repeat (first | exact .refl | refine .cons ?_)))) (fun _=>?_);refine jl 6 rfl rfl rfl rfl (Ld.fO (qb rfl) rfl rfl .dj (by (simp;omega))) (by (exact .row (by repeat (first | exact .refl | refine .cons ?_)))) (fun _=>?_);refine jk 10 rfl rfl rfl rfl (Qt.assign rfl) ?_;refine jk 11 rfl rfl rfl rfl (Qt.assign rfl) ?_;refine jk 12 rfl rfl rfl rfl (Qt.assign rfl) ?_;refine bE ?_
   rotate_left
   refine JS.bZ rfl rfl rfl (qb rfl) (Ld.fM (qb rfl) rfl rfl rfl rfl rfl) .none (fun _=>?_);refine jl 0 rfl rfl rfl rfl (Ld.gJ (qb rfl)) .none (fun _=>?_);refine jl 3 rfl rfl rfl rfl (Ld.cy (qb rfl) rfl rfl .read (by (simp;omega))) (by (exact .row (by repeat (first | exact .refl | refine .cons ?_)))) (fun _=>?_);refine jl 6 rfl rfl rfl rfl (Ld.fO (qb rfl) rfl rfl .dj (by (simp;omega))) (by (exact .row (by repeat (first | exact .refl | refine .cons ?_)))) (fun _=>?_);refine jk 10 rfl rfl rfl rfl (Qt.assign rfl) ?_;refine jk 11 rfl rfl rfl rfl (Qt.assign rfl) ?_;refine jk 12 rfl rfl rfl rfl (Qt.assign rfl) ?_;refine bE ?_
   rotate_left
   all_goals
    repeat (fail)
    exact J.ret func246 rfl (.cons (.tmp rfl) (.cons (.tmp rfl) (.cons (.tmp rfl) .nil))) () (by (exact .bp (by repeat (first | exact .nil | refine .cons .refl ?_ | refine .cons (.c .snoc) ?_)))) [] .nil rfl rfl
theorem dK.of {s s':ah} {i:Int} (h:dK s i) (e1:s'.aA=s.aA) (e2:s'.gs.length=s.gs.length):dK s' i:=by
 obtain ⟨a,b,c,d⟩:=h;have e3:su s' i=su s i:=by unfold su;rw [e1]
 exact ⟨a,by rw [e1];exact b,by rw [e3];exact c,by rw [e3,e2];exact d⟩
theorem Few.of {s s':ah} (h:Few s) (e1:s'.gs.length=s.gs.length) (e2:s'.av.length=s.av.length) (e3:s'.aA.length=s.aA.length):Few s':=⟨by rw [e1];exact h.1,by rw [e2];exact h.2.1,by rw [e3];exact h.2.2⟩
theorem fR (s:ah) (i:Int):(aZ s i).gs=s.gs:=by unfold aZ;split <;> rfl
theorem uK (s:ah) (i:Int):(aZ s i).aA=s.aA:=by unfold aZ;split <;> rfl
theorem Fh (s:ah) (i:Int):(aZ s i).av.length=s.av.length:=by unfold aZ;split <;> simp [aE]
theorem wL (s:ah) (g:Nat) (i:Int):(Sx.pair s g i).gs.length=s.gs.length:=by simp [Sx.pair,ai]
theorem BM (s:ah) (g:Nat) (i wi ha:Int) (hg:g < s.gs.length) (hi:dK s i) (hb:Fit s) :
  Pure prog 227 [.agg (aC s),.c (nI g),.c (nI i),.c (nI wi),.c (nI ha)] (.agg (aC (taken s g i wi ha))):=by
 obtain ⟨gz,eJ,dM,iY⟩:=id hi;have hf:Few s:=hb.toAnd;refine an.intro func227 rfl rfl rfl (fun ok e=>?_)
 cases h1:decide ((su s i).cs ≥ 0) with
 | true =>
  have er:taken s g i wi ha=Sx.aS (ai s g { aa s g with hold:=i }) g wi:=by unfold taken;rw [if_pos (by simpa using h1)]
  rw [er]
  repeat (first | (refine K.indexAddr ?_;refine jx rfl rfl rfl rfl (by omega) (iC gz eJ) ?_) | refine aX (cV s g { aa s g with hold:=i } hg hf.1) ?_ | refine aX (fQ (ai s g { aa s g with hold:=i }) g wi (by rw [cD];exact hg) (by rw [cD];exact hf.1)) ?_ | refine ay ?_ | intro _)
  exact aD func227
 | false =>
  have er:taken s g i wi ha=Sx.aS (Sx.pair (aZ (ai s g { aa s g with hold:=i,t:=s.step }) i) g i) g ha:=by unfold taken;rw [if_neg (by simpa using h1)]
  have f1:Few (ai s g { aa s g with hold:=i,t:=s.step }):=hf.of (cD _ _ _) rfl rfl;have k1:dK (ai s g { aa s g with hold:=i,t:=s.step }) i:=hi.of rfl (cD _ _ _);have g1:g < (ai s g { aa s g with hold:=i,t:=s.step }).gs.length:=by rw [cD];exact hg
  have C1:=cV s g { aa s g with hold:=i,t:=s.step } hg hf.1;have C2:=sW (ai s g { aa s g with hold:=i,t:=s.step }) i gz eJ (Nat.le_trans (hb.rv (su s i).ch) (by omega)) (Nat.le_trans (hb.sd (su s i).ch) (by omega)) hf.2.1;rw [er];generalize ai s g { aa s g with hold:=i,t:=s.step }=s1 at *;have g2:g < (aZ s1 i).gs.length:=by rw [fR];exact g1
  have C3:=J7 (aZ s1 i) g i g2 (k1.of (uK _ _) (by rw [fR])) (f1.of (by rw [fR]) (Fh _ _) (by rw [uK]));have C4:=fQ (Sx.pair (aZ s1 i) g i) g ha (by rw [wL];exact g2) (by rw [wL,fR];exact f1.1)
  repeat (first | (refine K.indexAddr ?_;refine jx rfl rfl rfl rfl (by omega) (iC gz eJ) ?_) | refine ay ?_ | intro _)
  exact aD func227
end Fl
open Go.RowKit
namespace Fl
open Sx Go.Proofs.Tryz
set_option maxRecDepth 100000
theorem Fi (s:ah) (g:Nat) (back on:Int) (hg:g < s.gs.length) (hi:dK s (aa s g).hold) (hb:Fit s) :
  Pure prog 157 [.agg (aC s),.c (nI g),.c (nI back),.c (nI on)] (.agg (aC (cT s g back on))):=by
 obtain ⟨gz,eJ,dM,iY⟩:=id hi;have hf:Few s:=hb.toAnd;have SZ:=hi.gr;refine an.intro func157 rfl rfl rfl (fun ok e=>?_)
 cases h1:(aa s (su s (aa s g).hold).g.toNat).bG with
 | true =>
  have er:cT s g back on=ai (aZ s (aa s g).hold) g { aa s g with hold:=-1,place:=back }:=by unfold cT;simp only;rw [if_pos h1]
  have C1:=sW s (aa s g).hold gz eJ (Nat.le_trans (hb.rv _) (by omega)) (Nat.le_trans (hb.sd _) (by omega)) hf.2.1;have C2:=cV (aZ s (aa s g).hold) g { aa s g with hold:=-1,place:=back } (by rw [fR];exact hg) (by rw [fR];exact hf.1);rw [er]
  repeat (first | refine J.gK (congrArg (fun b=>some (D.c (bI b))) h1) ?_ | (refine K.indexAddr ?_;refine jx rfl rfl rfl rfl (by omega) (iC gz eJ) ?_) | refine ay ?_ | intro _)
  exact aD func157
 | false =>
  have er:cT s g back on=Sx.aS (Sx.pair (ai (ai s g { aa s g with t:=s.step }) (su s (aa s g).hold).g.toNat { aa s (su s (aa s g).hold).g.toNat with bG:=true }) g (aa s g).hold) g on:=by unfold cT;simp only;rw [if_neg (by rw [h1];simp)]
  have C1:=cV s g { aa s g with t:=s.step } hg hf.1;have f1:Few (ai s g { aa s g with t:=s.step }):=hf.of (cD _ _ _) rfl rfl;have k1:dK (ai s g { aa s g with t:=s.step }) (aa s g).hold:=hi.of rfl (cD _ _ _);have g1:g < (ai s g { aa s g with t:=s.step }).gs.length:=by rw [cD];exact hg
  have q1:(su s (aa s g).hold).g < (ai s g { aa s g with t:=s.step }).gs.length:=by rw [cD];exact iY
  rw [er];generalize ai s g { aa s g with t:=s.step }=s1 at *;have C2:=y9 s1 (su s (aa s g).hold).g { aa s (su s (aa s g).hold).g.toNat with bG:=true } dM q1 f1.1;have f2:Few (ai s1 (su s (aa s g).hold).g.toNat { aa s (su s (aa s g).hold).g.toNat with bG:=true }):=f1.of (cD _ _ _) rfl rfl;have k2:dK (ai s1 (su s (aa s g).hold).g.toNat { aa s (su s (aa s g).hold).g.toNat with bG:=true }) (aa s g).hold:=k1.of rfl (cD _ _ _);have g2:g < (ai s1 (su s (aa s g).hold).g.toNat { aa s (su s (aa s g).hold).g.toNat with bG:=true }).gs.length:=by rw [cD];exact g1
  generalize ai s1 (su s (aa s g).hold).g.toNat { aa s (su s (aa s g).hold).g.toNat with bG:=true }=s2 at *;have C3:=J7 s2 g (aa s g).hold g2 k2 f2;have C4:=fQ (Sx.pair s2 g (aa s g).hold) g on (by rw [wL];exact g2) (by rw [wL];exact f2.1)
  repeat (first | refine J.fT (congrArg (fun b=>some (D.c (bI b))) h1) ?_ | (refine K.indexAddr ?_;refine jx rfl rfl rfl rfl (by omega) (iC gz eJ) ?_) | refine ay ?_ | intro _)
  refine J.draw (by kernel_rfl) rfl ?_;refine JW.base (some 7) ?_;refine tk 0 ?_;refine tk 1 ?_;refine tk 2 ?_;refine tk 4 ?_;refine tk 5 ?_;refine dA 3 (C1) ?_;refine dA 6 (C2) ?_;refine jt 7 rfl rfl (Ld.bq rfl rfl rfl (by exact rfl) (by exact rfl)) (fun _=>?_);refine bR ?_
  repeat (refine gn ?_)
  exact aD func157
theorem qp (s:ah) (g:Nat):(bn s g).1.gs=s.gs:=by unfold bn;split;split <;> rfl;rfl
theorem Fj (s:ah) (g:Nat):(bn s g).1.aA=s.aA:=by unfold bn;split;split <;> rfl;rfl
theorem Kt (s:ah) (g:Nat) (d:Su) (hg:g < s.gs.length) (hb:Few s) (hp:ou s) (hc:g < s.cache.length) (hd:(bn s g).2.2=true→0≤(bn s g).2.1∧(bn s g).2.1 < s.aA.length) :
  Pure prog 230 [.agg (aC s),.c (nI g),.agg (eS d)] (.agg (aC (Sx.bh s g d))):=by
 have C1:=Ko s g hc hp;refine an.intro func230 rfl rfl rfl (fun ok e=>?_);have g1:g < (bn s g).1.gs.length:=by rw [qp];exact hg
 have b1:(bn s g).1.gs.length≤100000:=by rw [qp];exact hb.1
 cases h1:(bn s g).2.2 with
 | true =>
  obtain ⟨d1,d2⟩:=hd h1;have er:Sx.bh s g d=ai (aV (bn s g).1 (bn s g).2.1 d) g { aa s g with bh:=(bn s g).2.1,place:=11 }:=by unfold Sx.bh;rw [if_pos h1]
  rw [er];rw [h1] at C1;have C2:=vY (bn s g).1 (bn s g).2.1 d d1 (by rw [Fj];exact d2) (by rw [Fj];exact hb.2.2);have C3:=cV (aV (bn s g).1 (bn s g).2.1 d) g { aa s g with bh:=(bn s g).2.1,place:=11 } g1 b1
  repeat (first | refine ay ?_ | intro _)
  refine J.draw (by kernel_rfl) rfl ?_;refine JW.base (some 7) ?_;refine tk 0 ?_;refine tk 1 ?_;refine tk 2 ?_;refine tk 4 ?_;refine tk 5 ?_;refine dA 3 (C2) ?_;refine dA 6 (C3) ?_;refine jt 7 rfl rfl (Ld.bq rfl rfl rfl (by exact rfl) (by exact rfl)) (fun _=>?_);refine bR ?_
  repeat (fail)
  exact aD func230
 | false =>
  have er:Sx.bh s g d=ai (bn s g).1 g { aa s g with res:={ (aa s g).res with code:=6 },place:=16 }:=by unfold Sx.bh;rw [if_neg (by rw [h1];simp)]
  rw [er];rw [h1] at C1
  repeat (first | refine aX (cV (bn s g).1 g { aa s g with res:={ (aa s g).res with code:=6 },place:=16 } g1 b1) ?_ | refine ay ?_ | intro _)
  exact aD func230
end Fl
open Go.RowKit
namespace Fl
open Sx Go.Proofs.Tryz
set_option maxRecDepth 100000
structure nD (s:ah) (g:Nat):Prop where
 co:wJ s g
 fit:Fit s
 l6:(aa s g).place=6→∀ i l,(cn s (ag s g).ch).recv=i :: l→dK s i
 l7:(aa s g).place=7→dK s (aa s g).hold
 l8:(aa s g).place=8→dK s (aa s g).hold
 zn:(aa s g).place=10→ou s∧g < s.cache.length∧((bn s g).2.2=true→0≤(bn s g).2.1∧(bn s g).2.1 < s.aA.length)
 pE:(aa s g).place=14→0≤(aa s g).param∧(aa s g).param < s.aA.length
theorem S0 (s:ah) (g:Nat) (h:nD s g) (hk:(ag s g).kind=2∨(ag s g).kind=4) (hc:(common s g).2=false) (hm:aT s (ag s g).ch=true) (e0:(aa s g).place=1) :
  Pure prog 171 [.agg (aC s),.c (nI g)] (.bp [.agg (aC (cu s g).1),.c (bI (cu s g).2)]):=by
 have hg:=h.co.lt;have hf:Few s:=h.fit.toAnd;have hb:=hf.1;have dL:=hf.2.1;have C0:=dI s g hg h.co.dD;have C1:=fS s g h.co;obtain ⟨k,ek,cP⟩:∃ k,(ag s g).kind=k∧(k=2∨k=4):=⟨_,rfl,hk⟩
 have KN:∀ c,((ag s g).kind != c)=(k != c):=fun c=>by rw [ek]
 have KE:∀ c,((ag s g).kind == c)=(k == c):=fun c=>by rw [ek]
 have bQ:¬ ((ag s g).kind≠2∧(ag s g).kind≠4):=by omega
 have cQ:¬ (common s g).2=true:=by rw [hc];simp
 rw [hc] at C1;have CM:=fH s (ag s g).ch;have cG:¬ aT s (ag s g).ch=false:=by rw [hm];simp
 have hl:=fD hm;rw [hm] at CM;have ak:cu s g=cu s g:=rfl
 conv at ak=>rhs;unfold cu;simp only;rw [if_neg bQ,if_neg cQ,if_neg cG]
 have P:∀ c,((aa s g).place == c)=((1:Int) == c):=fun c=>by rw [e0]
 refine an.intro func171 rfl rfl rfl (fun ok e=>?_);rw [if_pos e0] at ak;have CR:=So (cn s (ag s g).ch)
 cases hr:Sx.room (cn s (ag s g).ch) with
 | true =>
  rw [if_pos hr] at ak;rw [hr] at CR;rw [ak];rcases cP with rfl | rfl
  all_goals
   repeat (first | refine aQ (KN _) ?_ | refine aQ (P _) ?_ | refine aX (fQ s g 4 hg hb) ?_ | refine ay ?_ | intro _)
   exact aD func171
 | false =>
  rw [if_neg (by rw [hr];simp)] at ak;rw [hr] at CR;rw [ak];rcases cP with rfl | rfl
  all_goals
   repeat (first | refine aQ (KN _) ?_ | refine aQ (P _) ?_ | refine aX (jo s g (aa s g).res 2 hg hb) ?_ | refine ay ?_ | intro _)
   exact aD func171
theorem S3 (s:ah) (g:Nat) (h:nD s g) (hk:(ag s g).kind=2∨(ag s g).kind=4) (hc:(common s g).2=false) (hm:aT s (ag s g).ch=true) (e0:(aa s g).place=2) :
  Pure prog 171 [.agg (aC s),.c (nI g)] (.bp [.agg (aC (cu s g).1),.c (bI (cu s g).2)]):=by
 have hg:=h.co.lt;have hf:Few s:=h.fit.toAnd;have hb:=hf.1;have dL:=hf.2.1;have C0:=dI s g hg h.co.dD;have C1:=fS s g h.co;obtain ⟨k,ek,cP⟩:∃ k,(ag s g).kind=k∧(k=2∨k=4):=⟨_,rfl,hk⟩
 have KN:∀ c,((ag s g).kind != c)=(k != c):=fun c=>by rw [ek]
 have KE:∀ c,((ag s g).kind == c)=(k == c):=fun c=>by rw [ek]
 have bQ:¬ ((ag s g).kind≠2∧(ag s g).kind≠4):=by omega
 have cQ:¬ (common s g).2=true:=by rw [hc];simp
 rw [hc] at C1;have CM:=fH s (ag s g).ch;have cG:¬ aT s (ag s g).ch=false:=by rw [hm];simp
 have hl:=fD hm;rw [hm] at CM;have ak:cu s g=cu s g:=rfl
 conv at ak=>rhs;unfold cu;simp only;rw [if_neg bQ,if_neg cQ,if_neg cG]
 have P:∀ c,((aa s g).place == c)=((2:Int) == c):=fun c=>by rw [e0]
 refine an.intro func171 rfl rfl rfl (fun ok e=>?_);rw [az] at ak;rw [if_pos e0] at ak
 cases cF:(cn s (ag s g).ch).closed with
 | true =>
  rw [if_pos cF] at ak;rw [ak];rcases cP with rfl | rfl
  all_goals
   repeat (first | refine J.gK (congrArg (fun b=>some (D.c (bI b))) cF) ?_ | refine aQ (KN _) ?_ | refine aQ (P _) ?_ | refine aX (cV s g { aa s g with bT:=0,place:=4 } hg hb) ?_ | refine ay ?_ | intro _)
   exact aD func171
 | false =>
  rw [if_neg (by rw [cF];simp)] at ak;rw [ak];rcases cP with rfl | rfl
  all_goals
   repeat (first | refine J.fT (congrArg (fun b=>some (D.c (bI b))) cF) ?_ | refine aQ (KN _) ?_ | refine aQ (P _) ?_ | refine aX (cV s g { aa s g with res:={ (aa s g).res with code:=2 },place:=18 } hg hb) ?_ | refine ay ?_ | intro _)
   exact aD func171
theorem S4 (s:ah) (g:Nat) (h:nD s g) (hk:(ag s g).kind=2∨(ag s g).kind=4) (hc:(common s g).2=false) (hm:aT s (ag s g).ch=true) (e0:(aa s g).place=5) :
  Pure prog 171 [.agg (aC s),.c (nI g)] (.bp [.agg (aC (cu s g).1),.c (bI (cu s g).2)]):=by
 have hg:=h.co.lt;have hf:Few s:=h.fit.toAnd;have hb:=hf.1;have dL:=hf.2.1;have C0:=dI s g hg h.co.dD;have C1:=fS s g h.co;obtain ⟨k,ek,cP⟩:∃ k,(ag s g).kind=k∧(k=2∨k=4):=⟨_,rfl,hk⟩
 have KN:∀ c,((ag s g).kind != c)=(k != c):=fun c=>by rw [ek]
 have KE:∀ c,((ag s g).kind == c)=(k == c):=fun c=>by rw [ek]
 have bQ:¬ ((ag s g).kind≠2∧(ag s g).kind≠4):=by omega
 have cQ:¬ (common s g).2=true:=by rw [hc];simp
 rw [hc] at C1;have CM:=fH s (ag s g).ch;have cG:¬ aT s (ag s g).ch=false:=by rw [hm];simp
 have hl:=fD hm;rw [hm] at CM;have ak:cu s g=cu s g:=rfl
 conv at ak=>rhs;unfold cu;simp only;rw [if_neg bQ,if_neg cQ,if_neg cG]
 have P:∀ c,((aa s g).place == c)=((5:Int) == c):=fun c=>by rw [e0]
 refine an.intro func171 rfl rfl rfl (fun ok e=>?_);rw [az,az] at ak;rw [if_pos e0] at ak
 cases cF:(cn s (ag s g).ch).closed with
 | true =>
  rw [if_pos cF] at ak;rw [ak];rcases cP with rfl | rfl
  all_goals
   repeat (first | refine J.gK (congrArg (fun b=>some (D.c (bI b))) cF) ?_ | refine aQ (KN _) ?_ | refine aQ (P _) ?_ | refine aX (jo s g (Sx.res 3) 16 hg hb) ?_ | refine ay ?_ | intro _)
   exact aD func171
 | false =>
  rw [if_neg (by rw [cF];simp)] at ak;rw [ak];rcases cP with rfl | rfl
  all_goals
   repeat (first | refine J.fT (congrArg (fun b=>some (D.c (bI b))) cF) ?_ | refine aQ (KN _) ?_ | refine aQ (P _) ?_ | refine aX (fQ s g 6 hg hb) ?_ | refine ay ?_ | intro _)
   exact aD func171
theorem S5 (s:ah) (g:Nat) (h:nD s g) (hk:(ag s g).kind=2∨(ag s g).kind=4) (hc:(common s g).2=false) (hm:aT s (ag s g).ch=true) (e0:(aa s g).place=6) :
  Pure prog 171 [.agg (aC s),.c (nI g)] (.bp [.agg (aC (cu s g).1),.c (bI (cu s g).2)]):=by
 have hg:=h.co.lt;have hf:Few s:=h.fit.toAnd;have hb:=hf.1;have dL:=hf.2.1;have C0:=dI s g hg h.co.dD;have C1:=fS s g h.co;obtain ⟨k,ek,cP⟩:∃ k,(ag s g).kind=k∧(k=2∨k=4):=⟨_,rfl,hk⟩
 have KN:∀ c,((ag s g).kind != c)=(k != c):=fun c=>by rw [ek]
 have KE:∀ c,((ag s g).kind == c)=(k == c):=fun c=>by rw [ek]
 have bQ:¬ ((ag s g).kind≠2∧(ag s g).kind≠4):=by omega
 have cQ:¬ (common s g).2=true:=by rw [hc];simp
 rw [hc] at C1;have CM:=fH s (ag s g).ch;have cG:¬ aT s (ag s g).ch=false:=by rw [hm];simp
 have hl:=fD hm;rw [hm] at CM;have ak:cu s g=cu s g:=rfl
 conv at ak=>rhs;unfold cu;simp only;rw [if_neg bQ,if_neg cQ,if_neg cG]
 have P:∀ c,((aa s g).place == c)=((6:Int) == c):=fun c=>by rw [e0]
 refine an.intro func171 rfl rfl rfl (fun ok e=>?_);rw [az,az,az] at ak;rw [if_pos e0] at ak
 cases jY:(cn s (ag s g).ch).recv with
 | nil =>
  have hz:(((cn s (ag s g).ch).recv.length:Int) == 0)=true:=by rw [jY];rfl
  rw [if_pos (by rw [jY];rfl)] at ak;rw [ak];rcases cP with rfl | rfl
  all_goals
   repeat (first | refine aQ (KN _) ?_ | refine aQ (P _) ?_ | refine aX (fQ s g 9 hg hb) ?_ | refine ay ?_ | intro _)
   exact aD func171
 | cons a l =>
  have hz:(((cn s (ag s g).ch).recv.length:Int) == 0)=false:=by rw [jY];simp;omega
  have w0:((cn s (ag s g).ch).recv.map fun n=>[nI n])[(0:Int).toNat]?=some [nI a]:=by rw [jY];rfl
  rw [if_neg (by rw [jY];simp),jY] at ak;rw [ak];rcases cP with rfl | rfl
  all_goals
   repeat (first | refine aQ (KN _) ?_ | refine aQ (P _) ?_ | refine ay ?_ | intro _)
   refine J.draw (by kernel_rfl) rfl ?_;refine JW.base (some 7) ?_;refine tk 0 ?_;refine tk 1 ?_;refine tk 2 ?_;refine tk 3 ?_;refine JD.take 4 rfl rfl (by kernel_rfl) rfl (qb rfl) (Qt.cI rfl rfl (by omega) w0) rfl ?_;refine tk 5 ?_;refine dA 6 (BM s g a 7 8 hg (h.l6 e0 a l jY) h.fit) ?_;refine jt 7 rfl rfl (Ld.bq rfl rfl rfl (by exact rfl) (by exact rfl)) (fun _=>?_);refine JW.base none ?_;refine jk 8 rfl rfl rfl rfl (Qt.assign rfl) ?_;refine bE ?_
   repeat (fail)
   exact aD func171
theorem S6 (s:ah) (g:Nat) (h:nD s g) (hk:(ag s g).kind=2∨(ag s g).kind=4) (hc:(common s g).2=false) (hm:aT s (ag s g).ch=true) (e0:(aa s g).place=7) :
  Pure prog 171 [.agg (aC s),.c (nI g)] (.bp [.agg (aC (cu s g).1),.c (bI (cu s g).2)]):=by
 have hg:=h.co.lt;have hf:Few s:=h.fit.toAnd;have hb:=hf.1;have dL:=hf.2.1;have C0:=dI s g hg h.co.dD;have C1:=fS s g h.co;obtain ⟨k,ek,cP⟩:∃ k,(ag s g).kind=k∧(k=2∨k=4):=⟨_,rfl,hk⟩
 have KN:∀ c,((ag s g).kind != c)=(k != c):=fun c=>by rw [ek]
 have KE:∀ c,((ag s g).kind == c)=(k == c):=fun c=>by rw [ek]
 have bQ:¬ ((ag s g).kind≠2∧(ag s g).kind≠4):=by omega
 have cQ:¬ (common s g).2=true:=by rw [hc];simp
 rw [hc] at C1;have CM:=fH s (ag s g).ch;have cG:¬ aT s (ag s g).ch=false:=by rw [hm];simp
 have hl:=fD hm;rw [hm] at CM;have ak:cu s g=cu s g:=rfl
 conv at ak=>rhs;unfold cu;simp only;rw [if_neg bQ,if_neg cQ,if_neg cG]
 have P:∀ c,((aa s g).place == c)=((7:Int) == c):=fun c=>by rw [e0]
 refine an.intro func171 rfl rfl rfl (fun ok e=>?_);rw [az,az,az,az] at ak;rw [if_pos e0] at ak;rw [ak];rcases cP with rfl | rfl
 all_goals
  repeat (first | refine aQ (KN _) ?_ | refine aQ (P _) ?_ | refine aX (Fi s g 6 8 hg (h.l7 e0) h.fit) ?_ | refine ay ?_ | intro _)
  exact aD func171
theorem S7 (s:ah) (g:Nat) (h:nD s g) (hk:(ag s g).kind=2∨(ag s g).kind=4) (hc:(common s g).2=false) (hm:aT s (ag s g).ch=true) (e0:(aa s g).place=9) :
  Pure prog 171 [.agg (aC s),.c (nI g)] (.bp [.agg (aC (cu s g).1),.c (bI (cu s g).2)]):=by
 have hg:=h.co.lt;have hf:Few s:=h.fit.toAnd;have hb:=hf.1;have dL:=hf.2.1;have C0:=dI s g hg h.co.dD;have C1:=fS s g h.co;obtain ⟨k,ek,cP⟩:∃ k,(ag s g).kind=k∧(k=2∨k=4):=⟨_,rfl,hk⟩
 have KN:∀ c,((ag s g).kind != c)=(k != c):=fun c=>by rw [ek]
 have KE:∀ c,((ag s g).kind == c)=(k == c):=fun c=>by rw [ek]
 have bQ:¬ ((ag s g).kind≠2∧(ag s g).kind≠4):=by omega
 have cQ:¬ (common s g).2=true:=by rw [hc];simp
 rw [hc] at C1;have CM:=fH s (ag s g).ch;have cG:¬ aT s (ag s g).ch=false:=by rw [hm];simp
 have hl:=fD hm;rw [hm] at CM;have ak:cu s g=cu s g:=rfl
 conv at ak=>rhs;unfold cu;simp only;rw [if_neg bQ,if_neg cQ,if_neg cG]
 have P:∀ c,((aa s g).place == c)=((9:Int) == c):=fun c=>by rw [e0]
 refine an.intro func171 rfl rfl rfl (fun ok e=>?_);rw [az,az,az,az,az,az] at ak;rw [if_pos e0] at ak;have CP:=Kq (cn s (ag s g).ch).buf (cn s (ag s g).ch).cap (ag s g).v (h.fit.bf _)
 cases hr:(fo (cn s (ag s g).ch).buf (cn s (ag s g).ch).cap (ag s g).v).2 with
 | true =>
  rw [if_pos hr] at ak;rw [hr] at CP;rw [ak];rcases cP with rfl | rfl
  all_goals
   repeat (first | refine aQ (KN _) ?_ | refine aQ (P _) ?_ | refine aX (m9 s (ag s g).ch { (cn s (ag s g).ch) with buf:=(fo (cn s (ag s g).ch).buf (cn s (ag s g).ch).cap (ag s g).v).1 } hm dL) ?_ | refine kN (BD) ?_ | refine aX (jo (aE s (ag s g).ch { (cn s (ag s g).ch) with buf:=(fo (cn s (ag s g).ch).buf (cn s (ag s g).ch).cap (ag s g).v).1 }) g oH 16 hg hb) ?_ | refine ay ?_ | intro _)
   exact aD func171
 | false =>
  rw [if_neg (by rw [hr];simp)] at ak;rw [hr] at CP;rcases cP with rfl | rfl
  ·rw [az] at ak;rw [ak]
   repeat (first | refine aQ (KN _) ?_ | refine aQ (P _) ?_ | refine aQ (KE _) ?_ | refine aX (fQ s g 10 hg hb) ?_ | refine ay ?_ | intro _)
   exact aD func171
  ·rw [if_pos ek] at ak;rw [ak]
   repeat (first | refine aQ (KN _) ?_ | refine aQ (P _) ?_ | refine aQ (KE _) ?_ | refine aX (jo s g (Sx.res 2) 16 hg hb) ?_ | refine ay ?_ | intro _)
   exact aD func171
theorem S8 (s:ah) (g:Nat) (h:nD s g) (hk:(ag s g).kind=2∨(ag s g).kind=4) (hc:(common s g).2=false) (hm:aT s (ag s g).ch=true) (e0:(aa s g).place=10) :
  Pure prog 171 [.agg (aC s),.c (nI g)] (.bp [.agg (aC (cu s g).1),.c (bI (cu s g).2)]):=by
 have hg:=h.co.lt;have hf:Few s:=h.fit.toAnd;have hb:=hf.1;have dL:=hf.2.1;have C0:=dI s g hg h.co.dD;have C1:=fS s g h.co;obtain ⟨k,ek,cP⟩:∃ k,(ag s g).kind=k∧(k=2∨k=4):=⟨_,rfl,hk⟩
 have KN:∀ c,((ag s g).kind != c)=(k != c):=fun c=>by rw [ek]
 have KE:∀ c,((ag s g).kind == c)=(k == c):=fun c=>by rw [ek]
 have bQ:¬ ((ag s g).kind≠2∧(ag s g).kind≠4):=by omega
 have cQ:¬ (common s g).2=true:=by rw [hc];simp
 rw [hc] at C1;have CM:=fH s (ag s g).ch;have cG:¬ aT s (ag s g).ch=false:=by rw [hm];simp
 have hl:=fD hm;rw [hm] at CM;have ak:cu s g=cu s g:=rfl
 conv at ak=>rhs;unfold cu;simp only;rw [if_neg bQ,if_neg cQ,if_neg cG]
 have P:∀ c,((aa s g).place == c)=((10:Int) == c):=fun c=>by rw [e0]
 refine an.intro func171 rfl rfl rfl (fun ok e=>?_);rw [az,az,az,az,az,az,az] at ak;rw [if_pos e0] at ak;obtain ⟨f1,f2,f3⟩:=h.zn e0;rw [ak];rcases cP with rfl | rfl
 all_goals
  repeat (first | refine aQ (KN _) ?_ | refine aQ (P _) ?_ | refine aX (Kt s g ⟨true,g,(ag s g).ch,-1,true,(ag s g).v,false⟩ hg hf f1 f2 f3) ?_ | refine ay ?_ | intro _)
  exact aD func171
theorem S9 (s:ah) (g:Nat) (h:nD s g) (hk:(ag s g).kind=2∨(ag s g).kind=4) (hc:(common s g).2=false) (hm:aT s (ag s g).ch=true) (e0:(aa s g).place=11) :
  Pure prog 171 [.agg (aC s),.c (nI g)] (.bp [.agg (aC (cu s g).1),.c (bI (cu s g).2)]):=by
 have hg:=h.co.lt;have hf:Few s:=h.fit.toAnd;have hb:=hf.1;have dL:=hf.2.1;have C0:=dI s g hg h.co.dD;have C1:=fS s g h.co;obtain ⟨k,ek,cP⟩:∃ k,(ag s g).kind=k∧(k=2∨k=4):=⟨_,rfl,hk⟩
 have KN:∀ c,((ag s g).kind != c)=(k != c):=fun c=>by rw [ek]
 have KE:∀ c,((ag s g).kind == c)=(k == c):=fun c=>by rw [ek]
 have bQ:¬ ((ag s g).kind≠2∧(ag s g).kind≠4):=by omega
 have cQ:¬ (common s g).2=true:=by rw [hc];simp
 rw [hc] at C1;have CM:=fH s (ag s g).ch;have cG:¬ aT s (ag s g).ch=false:=by rw [hm];simp
 have hl:=fD hm;rw [hm] at CM;have ak:cu s g=cu s g:=rfl
 conv at ak=>rhs;unfold cu;simp only;rw [if_neg bQ,if_neg cQ,if_neg cG]
 have P:∀ c,((aa s g).place == c)=((11:Int) == c):=fun c=>by rw [e0]
 refine an.intro func171 rfl rfl rfl (fun ok e=>?_);rw [az,az,az,az,az,az,az,az] at ak;rw [if_pos e0] at ak;rw [ak];have jW:=h.fit.sd (ag s g).ch;have C2:=m9 s (ag s g).ch { (cn s (ag s g).ch) with send:=(cn s (ag s g).ch).send ++ [(aa s g).bh] } hm dL;have C3:=cV (aE s (ag s g).ch { (cn s (ag s g).ch) with send:=(cn s (ag s g).ch).send ++ [(aa s g).bh] }) g { aa s g with iy:=s.step,place:=12 } hg hb;rcases cP with rfl | rfl
 all_goals
  repeat (first | refine aQ (KN _) ?_ | refine aQ (P _) ?_ | refine ay ?_ | intro _)
  refine J.draw (by kernel_rfl) rfl ?_;refine JW.base (some 9) ?_;refine tk 1 ?_;refine tk 2 ?_;refine tk 4 ?_;refine tk 5 ?_;refine JD.cU (i:=0) (j:=6) (by kernel_rfl) ?_ ?_;refine JS.bZ rfl rfl rfl (qb rfl) (Ld.gJ (qb rfl)) .none (fun _=>?_);refine JD.cU (i:=3) (j:=6) (by kernel_rfl) ?_ ?_;refine JS.bZ rfl rfl rfl (qb rfl) (Ld.cy (qb rfl) rfl rfl .read (by (simp;omega))) (by (exact .row (by repeat ((exact .refl))))) (fun _=>?_);refine jl 6 rfl rfl rfl rfl (Ld.fM (qb rfl) rfl rfl rfl rfl rfl) .none (fun _=>?_);refine jl 7 rfl rfl rfl rfl (Ld.fO (qb rfl) rfl rfl .dj (by (simp;omega))) (by (exact .row (by repeat (first | exact .refl | refine .cons ?_)))) (fun _=>?_);refine jk 8 rfl rfl rfl rfl (Qt.fieldAddr rfl rfl) ?_;refine jt 9 rfl rfl (Ld.cY rfl rfl (by exact rfl)) (fun _=>?_);refine bR ?_
  rotate_left
  refine JS.bZ rfl rfl rfl (qb rfl) (Ld.fM (qb rfl) rfl rfl rfl rfl rfl) .none (fun _=>?_);refine jl 3 rfl rfl rfl rfl (Ld.cy (qb rfl) rfl rfl .read (by (simp;omega))) (by (exact .row (by repeat (first | exact .refl | refine .cons ?_)))) (fun _=>?_);refine jl 7 rfl rfl rfl rfl (Ld.fO (qb rfl) rfl rfl .dj (by (simp;omega))) (by (exact .row (by repeat (first | exact .refl | refine .cons ?_)))) (fun _=>?_);refine jk 8 rfl rfl rfl rfl (Qt.fieldAddr rfl rfl) ?_;refine jt 9 rfl rfl (Ld.cY rfl rfl (by exact rfl)) (fun _=>?_);refine bR ?_
  rotate_left
  refine JS.bZ rfl rfl rfl (qb rfl) (Ld.fM (qb rfl) rfl rfl rfl rfl rfl) .none (fun _=>?_);refine jl 0 rfl rfl rfl rfl (Ld.gJ (qb rfl)) .none (fun _=>?_);refine jl 3 rfl rfl rfl rfl (Ld.cy (qb rfl) rfl rfl .read (by (simp;omega))) (by (exact .row (by repeat (first | exact .refl | refine .cons ?_)))) (fun _=>?_);refine jl 7 rfl rfl rfl rfl (Ld.fO (qb rfl) rfl rfl .dj (by (simp;omega))) (by (exact .row (by repeat (first | exact .refl | refine .cons ?_)))) (fun _=>?_);refine jk 8 rfl rfl rfl rfl (Qt.fieldAddr rfl rfl) ?_;refine jt 9 rfl rfl (Ld.cY rfl rfl (by exact rfl)) (fun _=>?_);refine bR ?_
  rotate_left
  all_goals
   repeat (refine gn ?_)
   refine J.draw (by kernel_rfl) rfl ?_;refine JW.base (some 8) ?_;refine tk 0 ?_;refine tk 1 ?_;refine tk 2 ?_;refine tk 3 ?_;refine tk 5 ?_;refine tk 6 ?_;refine jl 4 rfl rfl rfl rfl (Ld.pure (C2) (qb rfl) rfl (by repeat (first | exact aJ.nil | refine aJ.cons (dU.agg (by repeat (first | exact .nil | refine .cons .refl ?_ | refine .cons .snoc ?_))) ?_ | refine aJ.cons dU.refl ?_))) .none (fun _=>?_);refine dA 7 (C3) ?_;refine jt 8 rfl rfl (Ld.bq rfl rfl rfl (by exact rfl) (by exact rfl)) (fun _=>?_);refine JW.base none ?_;refine jk 9 rfl rfl rfl rfl (Qt.assign rfl) ?_;refine bE ?_
   repeat (fail)
   exact aD func171
theorem Ta (s:ah) (g:Nat) (h:nD s g) (hk:(ag s g).kind=2∨(ag s g).kind=4) (hc:(common s g).2=false) (hm:aT s (ag s g).ch=true) (e0:(aa s g).place=14) :
  Pure prog 171 [.agg (aC s),.c (nI g)] (.bp [.agg (aC (cu s g).1),.c (bI (cu s g).2)]):=by
 have hg:=h.co.lt;have hf:Few s:=h.fit.toAnd;have hb:=hf.1;have dL:=hf.2.1;have C0:=dI s g hg h.co.dD;have C1:=fS s g h.co;obtain ⟨k,ek,cP⟩:∃ k,(ag s g).kind=k∧(k=2∨k=4):=⟨_,rfl,hk⟩
 have KN:∀ c,((ag s g).kind != c)=(k != c):=fun c=>by rw [ek]
 have KE:∀ c,((ag s g).kind == c)=(k == c):=fun c=>by rw [ek]
 have bQ:¬ ((ag s g).kind≠2∧(ag s g).kind≠4):=by omega
 have cQ:¬ (common s g).2=true:=by rw [hc];simp
 rw [hc] at C1;have CM:=fH s (ag s g).ch;have cG:¬ aT s (ag s g).ch=false:=by rw [hm];simp
 have hl:=fD hm;rw [hm] at CM;have ak:cu s g=cu s g:=rfl
 conv at ak=>rhs;unfold cu;simp only;rw [if_neg bQ,if_neg cQ,if_neg cG]
 have P:∀ c,((aa s g).place == c)=((14:Int) == c):=fun c=>by rw [e0]
 refine an.intro func171 rfl rfl rfl (fun ok e=>?_);rw [az,az,az,az,az,az,az,az,az] at ak;rw [if_pos e0] at ak;obtain ⟨f1,f2⟩:=h.pE e0;rw [ak]
 cases hd:(su s (aa s g).param).done with
 | true =>
  rw [if_pos rfl];rcases cP with rfl | rfl
  all_goals
   repeat (first | refine J.fT (congrArg (fun b=>some (D.c (bI (!b)))) hd) ?_ | (refine K.indexAddr ?_;refine jx rfl rfl rfl rfl (by omega) (iC f1 f2) ?_) | refine aQ (KN _) ?_ | refine aQ (P _) ?_ | refine kN (BD) ?_ | refine aX (cV s g { aa s g with res:=oH,param:=-1,place:=15 } hg hb) ?_ | refine ay ?_ | intro _)
   exact aD func171
 | false =>
  rw [if_neg (by simp)];rcases cP with rfl | rfl
  all_goals
   repeat (first | refine J.gK (congrArg (fun b=>some (D.c (bI (!b)))) hd) ?_ | (refine K.indexAddr ?_;refine jx rfl rfl rfl rfl (by omega) (iC f1 f2) ?_) | refine aQ (KN _) ?_ | refine aQ (P _) ?_ | refine kN (BD) ?_ | refine aX (cV s g { aa s g with res:=Sx.res 3,param:=-1,place:=15 } hg hb) ?_ | refine ay ?_ | intro _)
   exact aD func171
end Fl
end Go.Proofs.YtdjhhbpedllnhaaGreat
