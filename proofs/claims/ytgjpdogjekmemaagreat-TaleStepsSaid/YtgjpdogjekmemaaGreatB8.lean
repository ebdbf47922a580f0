/-
  What the laws need, part B8.
  Conditions: none.
-/
import Derived.Test.YtgjpdogjekmemaaGreatB7
set_option linter.unusedVariables false
set_option linter.unusedSimpArgs false
set_option linter.unnecessarySimpa false
set_option maxHeartbeats 2000000
namespace Go.Proofs.YtgjpdogjekmemaaGreat
open Go.RowKit
namespace Fl
open Sx Go.Proofs.Tryz
set_option maxRecDepth 100000
theorem A4 (l:List Int) (r v:Int) (hb:l.length≤50000) :
  Pure prog 114 [.c (ints l),.c (nI r),.c (nI v)] (.aU [.c (ints (fX l r v).1),.c (bI (fX l r v).2)]):=by
 refine aA.intro func114 rfl rfl rfl (fun ok e=>?_)
 cases h1:decide ((l.length:Int) ≥ r) with
 | true =>
  have e1:fX l r v=(l,false):=by unfold fX;rw [if_pos (by simpa using h1)]
  rw [e1]
  repeat (refine gn ?_)
  exact az func114
 | false =>
  have e1:fX l r v=(l ++ [v],true):=by unfold fX;rw [if_neg (by simpa using h1)]
  rw [e1]
  repeat (first | (refine K.bi ?_;first | refine JO.ld (Ld.bO (qb rfl) rfl rfl .read (by first | (simp;omega) | simp)) rfl (fun _=>?_) | refine JO.ld (Ld.bO (qb rfl) rfl rfl .cX (by (simp;omega))) rfl (fun _=>?_)) | refine au ?_ | intro _)
  refine J.gy 6 rfl ?_;exact J.ret func114 rfl (.cons (.tmp rfl) (.cons (.tmp rfl) .nil)) () (by (exact .aU (by repeat (first | exact .nil | refine .cons .refl ?_ | refine .cons (.c .snoc) ?_)))) [] .nil rfl rfl
theorem A5 {a:Int} {l:List Int}:((((a :: l).map fun n=>[nI n]).take ((((a :: l).map fun n=>[nI n]).length:Int)).toNat).drop (1:Int).toNat)=l.map fun n=>[nI n]:=by
 simp;exact List.take_of_length_le (by simp)
theorem A6 (l:List Int) (hb:l.length≤50000) :
  Pure prog 120 [.c (ints l)] (.aU [.c (ints (eW l).1),.c (nI (eW l).2.1),.c (bI (eW l).2.2)]):=by
 refine aA.intro func120 rfl rfl rfl (fun ok e=>?_)
 cases l with
 | nil =>
  repeat (refine gn ?_)
  exact az func120
 | cons a l =>
  have h1:(((a :: l).length:Int) == 0)=false:=by simp;omega
  have e1:eW (a :: l)=(l,a,true):=by unfold eW;rw [if_neg (by simp)];rfl
  have hl:l.length≤50000:=by simp at hb;omega
  have w2:(1:Int)≤(((a :: l).map fun n=>[nI n]).length:Int):=by simp;omega
  rw [e1]
  repeat (refine gn ?_)
  refine J.draw (by kernel_rfl) rfl ?_;refine JW.base none ?_;refine tk 1 ?_;refine JD.take 2 rfl rfl (by kernel_rfl) rfl (qb rfl) ((Qt.j7 rfl rfl rfl (by omega) (by omega) (by omega)).eq (congrArg (fun z=>D.c (A.r 1 z)) A5)) rfl ?_;refine tk 4 ?_;refine JD.take 5 rfl rfl (by kernel_rfl) rfl (qb rfl) (Qt.dj rfl rfl (by omega) (show ((a :: l).map fun n=>[nI n])[(0:Int).toNat]?=some [nI a] from rfl)) rfl ?_;refine tk 6 ?_;refine jl 0 rfl rfl rfl rfl (Ld.eJ (qb rfl)) .none (fun _=>?_);refine jl 3 rfl rfl rfl rfl (Ld.dU (qb rfl) rfl rfl .read (by (simp;omega))) (by (exact .row (by repeat ((exact .refl))))) (fun _=>?_);refine jk 7 rfl rfl rfl rfl (Qt.assign rfl) ?_;refine jk 8 rfl rfl rfl rfl (Qt.assign rfl) ?_;refine jk 9 rfl rfl rfl rfl (Qt.assign rfl) ?_;refine aX ?_
  repeat (fail)
  exact az func120
theorem Gl (l:List Int) (r v:Int) (hb:l.length≤50000) :
  Pure prog 153 [.c (ints l),.c (nI r),.c (nI v)] (.aU [.c (ints (fj l r v).1),.c (nI (fj l r v).2.1),.c (bI (fj l r v).2.2)]):=by
 refine aA.intro func153 rfl rfl rfl (fun ok e=>?_)
 cases h1:decide ((l.length:Int) < r) with
 | true =>
  have e1:fj l r v=(l,0,false):=by unfold fj;rw [if_pos (.inl (by simpa using h1))]
  rw [e1]
  repeat (refine gn ?_)
  exact az func153
 | false =>
  cases l with
  | nil =>
   have e1:fj [] r v=([],0,false):=by unfold fj;rw [if_pos (.inr rfl)]
   rw [e1]
   repeat (refine gn ?_)
   exact az func153
  | cons a l =>
   have h2:(((a :: l).length:Int) == 0)=false:=by simp;omega
   have e1:fj (a :: l) r v=(l ++ [v],a,true):=by unfold fj;rw [if_neg (by simp at h1 ⊢;omega)];rfl
   have hl:l.length≤50000:=by simp at hb;omega
   have w2:(1:Int)≤(((a :: l).map fun n=>[nI n]).length:Int):=by simp;omega
   rw [e1]
   repeat (refine gn ?_)
   refine J.draw (by kernel_rfl) rfl ?_;refine JW.base none ?_;refine tk 1 ?_;refine JD.take 2 rfl rfl (by kernel_rfl) rfl (qb rfl) ((Qt.j7 rfl rfl rfl (by omega) (by omega) (by omega)).eq (congrArg (fun z=>D.c (A.r 1 z)) A5)) rfl ?_;refine tk 4 ?_;refine tk 7 ?_;refine JD.take 8 rfl rfl (by kernel_rfl) rfl (qb rfl) (Qt.dj rfl rfl (by omega) (show ((a :: l).map fun n=>[nI n])[(0:Int).toNat]?=some [nI a] from rfl)) rfl ?_;refine tk 9 ?_;refine JD.cF (i:=0) (j:=5) (by kernel_rfl) ?_ ?_;refine JS.cC rfl rfl rfl (qb rfl) (Ld.eJ (qb rfl)) .none (fun _=>?_);refine JD.cF (i:=3) (j:=5) (by kernel_rfl) ?_ ?_;refine JS.cC rfl rfl rfl (qb rfl) (Ld.bO (qb rfl) rfl rfl .read (by (simp;omega))) (by (exact .row (by repeat ((exact .refl))))) (fun _=>?_);refine jl 5 rfl rfl rfl rfl (Ld.dK (qb rfl) rfl rfl rfl rfl rfl) .none (fun _=>?_);refine jl 6 rfl rfl rfl rfl (Ld.dU (qb rfl) rfl rfl .cX (by (simp;omega))) (by (exact .row (by repeat (first | exact .refl | refine .cons ?_)))) (fun _=>?_);refine jk 10 rfl rfl rfl rfl (Qt.assign rfl) ?_;refine jk 11 rfl rfl rfl rfl (Qt.assign rfl) ?_;refine jk 12 rfl rfl rfl rfl (Qt.assign rfl) ?_;refine aX ?_
   rotate_left
   refine JS.cC rfl rfl rfl (qb rfl) (Ld.dK (qb rfl) rfl rfl rfl rfl rfl) .none (fun _=>?_);refine jl 3 rfl rfl rfl rfl (Ld.bO (qb rfl) rfl rfl .read (by (simp;omega))) (by (exact .row (by repeat (first | exact .refl | refine .cons ?_)))) (fun _=>?_);refine jl 6 rfl rfl rfl rfl (Ld.dU (qb rfl) rfl rfl .cX (by (simp;omega))) (by (exact .row (by repeat (first | exact .refl | refine .cons ?_)))) (fun _=>?_);refine jk 10 rfl rfl rfl rfl (Qt.assign rfl) ?_;refine jk 11 rfl rfl rfl rfl (Qt.assign rfl) ?_;refine jk 12 rfl rfl rfl rfl (Qt.assign rfl) ?_;refine aX ?_
   rotate_left
   refine JS.cC rfl rfl rfl (qb rfl) (Ld.dK (qb rfl) rfl rfl rfl rfl rfl) .none (fun _=>?_);refine jl 0 rfl rfl rfl rfl (Ld.eJ (qb rfl)) .none (fun _=>?_);refine jl 3 rfl rfl rfl rfl (Ld.bO (qb rfl) rfl rfl .read (by (simp;omega))) (by (exact .row (by repeat (first | exact .refl | refine .cons ?_)))) (fun _=>?_);refine jl 6 rfl rfl rfl rfl (Ld.dU (qb rfl) rfl rfl .cX (by (simp;omega))) (by (exact .row (by repeat (first | exact .refl | refine .cons ?_)))) (fun _=>?_);refine jk 10 rfl rfl rfl rfl (Qt.assign rfl) ?_;refine jk 11 rfl rfl rfl rfl (Qt.assign rfl) ?_;refine jk 12 rfl rfl rfl rfl (Qt.assign rfl) ?_;refine aX ?_
   rotate_left
   all_goals
    repeat (fail)
    exact J.ret func153 rfl (.cons (.tmp rfl) (.cons (.tmp rfl) (.cons (.tmp rfl) .nil))) () (by (exact .aU (by repeat (first | exact .nil | refine .cons .refl ?_ | refine .cons (.c .snoc) ?_)))) [] .nil rfl rfl
theorem cP.of {s s':ai} {i:Int} (h:cP s i) (e1:s'.aL=s.aL) (e2:s'.gs.length=s.gs.length):cP s' i:=by
 obtain ⟨a,b,c,d⟩:=h;have e3:su s' i=su s i:=by unfold su;rw [e1]
 exact ⟨a,by rw [e1];exact b,by rw [e3];exact c,by rw [e3,e2];exact d⟩
theorem Few.of {s s':ai} (h:Few s) (e1:s'.gs.length=s.gs.length) (e2:s'.aK.length=s.aK.length) (e3:s'.aL.length=s.aL.length):Few s':=⟨by rw [e1];exact h.1,by rw [e2];exact h.2.1,by rw [e3];exact h.2.2⟩
theorem eU (s:ai) (i:Int):(bE s i).gs=s.gs:=by unfold bE;split <;> rfl
theorem oR (s:ai) (i:Int):(bE s i).aL=s.aL:=by unfold bE;split <;> rfl
theorem xV (s:ai) (i:Int):(bE s i).aK.length=s.aK.length:=by unfold bE;split <;> simp [aH]
theorem qD (s:ai) (g:Nat) (i:Int):(Sx.pair s g i).gs.length=s.gs.length:=by simp [Sx.pair,ah]
theorem uT (s:ai) (g:Nat) (i wi ha:Int) (hg:g < s.gs.length) (hi:cP s i) (hb:Fit s) :
  Pure prog 108 [.agg (aC s),.c (nI g),.c (nI i),.c (nI wi),.c (nI ha)] (.agg (aC (taken s g i wi ha))):=by
 obtain ⟨eH,ee,gi,ji⟩:=id hi;have hf:Few s:=hb.toAnd;refine aA.intro func108 rfl rfl rfl (fun ok e=>?_)
 cases h1:decide ((su s i).cs ≥ 0) with
 | true =>
  have er:taken s g i wi ha=aT (ah s g { aa s g with hold:=i }) g wi:=by unfold taken;rw [if_pos (by simpa using h1)]
  rw [er]
  repeat (first | (refine K.indexAddr ?_;refine jx rfl rfl rfl rfl (by omega) (fO eH ee) ?_) | refine aO (cj s g { aa s g with hold:=i } hg hf.1) ?_ | refine aO (dX (ah s g { aa s g with hold:=i }) g wi (by rw [bP];exact hg) (by rw [bP];exact hf.1)) ?_ | refine au ?_ | intro _)
  exact az func108
 | false =>
  have er:taken s g i wi ha=aT (Sx.pair (bE (ah s g { aa s g with hold:=i,t:=s.step }) i) g i) g ha:=by unfold taken;rw [if_neg (by simpa using h1)]
  have f1:Few (ah s g { aa s g with hold:=i,t:=s.step }):=hf.of (bP _ _ _) rfl rfl;have k1:cP (ah s g { aa s g with hold:=i,t:=s.step }) i:=hi.of rfl (bP _ _ _);have g1:g < (ah s g { aa s g with hold:=i,t:=s.step }).gs.length:=by rw [bP];exact hg
  have C1:=cj s g { aa s g with hold:=i,t:=s.step } hg hf.1;have C2:=nY (ah s g { aa s g with hold:=i,t:=s.step }) i eH ee (Nat.le_trans (hb.rv (su s i).ch) (by omega)) (Nat.le_trans (hb.sd (su s i).ch) (by omega)) hf.2.1;rw [er];generalize ah s g { aa s g with hold:=i,t:=s.step }=s1 at *;have g2:g < (bE s1 i).gs.length:=by rw [eU];exact g1
  have C3:=AE (bE s1 i) g i g2 (k1.of (oR _ _) (by rw [eU])) (f1.of (by rw [eU]) (xV _ _) (by rw [oR]));have C4:=dX (Sx.pair (bE s1 i) g i) g ha (by rw [qD];exact g2) (by rw [qD,eU];exact f1.1)
  repeat (first | (refine K.indexAddr ?_;refine jx rfl rfl rfl rfl (by omega) (fO eH ee) ?_) | refine au ?_ | intro _)
  exact az func108
end Fl
open Go.RowKit
namespace Fl
open Sx Go.Proofs.Tryz
set_option maxRecDepth 100000
theorem xW (s:ai) (g:Nat) (back on:Int) (hg:g < s.gs.length) (hi:cP s (aa s g).hold) (hb:Fit s) :
  Pure prog 109 [.agg (aC s),.c (nI g),.c (nI back),.c (nI on)] (.agg (aC (cR s g back on))):=by
 obtain ⟨eH,ee,gi,ji⟩:=id hi;have hf:Few s:=hb.toAnd;have Gm:=hi.gr;refine aA.intro func109 rfl rfl rfl (fun ok e=>?_)
 cases h1:(aa s (su s (aa s g).hold).g.toNat).br with
 | true =>
  have er:cR s g back on=ah (bE s (aa s g).hold) g { aa s g with hold:=-1,place:=back }:=by unfold cR;simp only;rw [if_pos h1]
  have C1:=nY s (aa s g).hold eH ee (Nat.le_trans (hb.rv _) (by omega)) (Nat.le_trans (hb.sd _) (by omega)) hf.2.1;have C2:=cj (bE s (aa s g).hold) g { aa s g with hold:=-1,place:=back } (by rw [eU];exact hg) (by rw [eU];exact hf.1);rw [er]
  repeat (first | refine J.eZ (congrArg (fun b=>some (D.c (bI b))) h1) ?_ | (refine K.indexAddr ?_;refine jx rfl rfl rfl rfl (by omega) (fO eH ee) ?_) | refine au ?_ | intro _)
  exact az func109
 | false =>
  have er:cR s g back on=aT (Sx.pair (ah (ah s g { aa s g with t:=s.step }) (su s (aa s g).hold).g.toNat { aa s (su s (aa s g).hold).g.toNat with br:=true }) g (aa s g).hold) g on:=by unfold cR;simp only;rw [if_neg (by rw [h1];simp)]
  have C1:=cj s g { aa s g with t:=s.step } hg hf.1;have f1:Few (ah s g { aa s g with t:=s.step }):=hf.of (bP _ _ _) rfl rfl;have k1:cP (ah s g { aa s g with t:=s.step }) (aa s g).hold:=hi.of rfl (bP _ _ _);have g1:g < (ah s g { aa s g with t:=s.step }).gs.length:=by rw [bP];exact hg
  have q1:(su s (aa s g).hold).g < (ah s g { aa s g with t:=s.step }).gs.length:=by rw [bP];exact ji
  rw [er];generalize ah s g { aa s g with t:=s.step }=s1 at *;have C2:=sH s1 (su s (aa s g).hold).g { aa s (su s (aa s g).hold).g.toNat with br:=true } gi q1 f1.1;have f2:Few (ah s1 (su s (aa s g).hold).g.toNat { aa s (su s (aa s g).hold).g.toNat with br:=true }):=f1.of (bP _ _ _) rfl rfl;have k2:cP (ah s1 (su s (aa s g).hold).g.toNat { aa s (su s (aa s g).hold).g.toNat with br:=true }) (aa s g).hold:=k1.of rfl (bP _ _ _);have g2:g < (ah s1 (su s (aa s g).hold).g.toNat { aa s (su s (aa s g).hold).g.toNat with br:=true }).gs.length:=by rw [bP];exact g1
  generalize ah s1 (su s (aa s g).hold).g.toNat { aa s (su s (aa s g).hold).g.toNat with br:=true }=s2 at *;have C3:=AE s2 g (aa s g).hold g2 k2 f2;have C4:=dX (Sx.pair s2 g (aa s g).hold) g on (by rw [qD];exact g2) (by rw [qD];exact f2.1)
  repeat (first | refine J.eK (congrArg (fun b=>some (D.c (bI b))) h1) ?_ | (refine K.indexAddr ?_;refine jx rfl rfl rfl rfl (by omega) (fO eH ee) ?_) | refine au ?_ | intro _)
  refine J.draw (by kernel_rfl) rfl ?_;refine JW.base (some 7) ?_;refine tk 0 ?_;refine tk 1 ?_;refine tk 2 ?_;refine tk 4 ?_;refine tk 5 ?_;refine cz 3 (C1) ?_;refine cz 6 (C2) ?_;refine jt 7 rfl rfl (Ld.bu rfl rfl rfl (by exact rfl) (by exact rfl)) (fun _=>?_);refine cH ?_
  repeat (refine gn ?_)
  exact az func109
theorem uU (s:ai) (g:Nat):(bw s g).1.gs=s.gs:=by unfold bw;split;split <;> rfl;rfl
theorem xX (s:ai) (g:Nat):(bw s g).1.aL=s.aL:=by unfold bw;split;split <;> rfl;rfl
theorem A7 (s:ai) (g:Nat) (d:Su) (hg:g < s.gs.length) (hb:Few s) (hp:kr s) (hc:g < s.cache.length) (hd:(bw s g).2.2=true→0≤(bw s g).2.1∧(bw s g).2.1 < s.aL.length) :
  Pure prog 116 [.agg (aC s),.c (nI g),.agg (eS d)] (.agg (aC (Sx.bt s g d))):=by
 have C1:=AP s g hc hp;refine aA.intro func116 rfl rfl rfl (fun ok e=>?_);have g1:g < (bw s g).1.gs.length:=by rw [uU];exact hg
 have b1:(bw s g).1.gs.length≤100000:=by rw [uU];exact hb.1
 cases h1:(bw s g).2.2 with
 | true =>
  obtain ⟨d1,d2⟩:=hd h1;have er:Sx.bt s g d=ah (bh (bw s g).1 (bw s g).2.1 d) g { aa s g with bt:=(bw s g).2.1,place:=11 }:=by unfold Sx.bt;rw [if_pos h1]
  rw [er];rw [h1] at C1;have C2:=qv (bw s g).1 (bw s g).2.1 d d1 (by rw [xX];exact d2) (by rw [xX];exact hb.2.2);have C3:=cj (bh (bw s g).1 (bw s g).2.1 d) g { aa s g with bt:=(bw s g).2.1,place:=11 } g1 b1
  repeat (first | refine au ?_ | intro _)
  refine J.draw (by kernel_rfl) rfl ?_;refine JW.base (some 7) ?_;refine tk 0 ?_;refine tk 1 ?_;refine tk 2 ?_;refine tk 4 ?_;refine tk 5 ?_;refine cz 3 (C2) ?_;refine cz 6 (C3) ?_;refine jt 7 rfl rfl (Ld.bu rfl rfl rfl (by exact rfl) (by exact rfl)) (fun _=>?_);refine cH ?_
  repeat (fail)
  exact az func116
 | false =>
  have er:Sx.bt s g d=ah (bw s g).1 g { aa s g with res:={ (aa s g).res with code:=6 },place:=16 }:=by unfold Sx.bt;rw [if_neg (by rw [h1];simp)]
  rw [er];rw [h1] at C1
  repeat (first | refine aO (cj (bw s g).1 g { aa s g with res:={ (aa s g).res with code:=6 },place:=16 } g1 b1) ?_ | refine au ?_ | intro _)
  exact az func116
end Fl
open Go.RowKit
namespace Fl
open Sx Go.Proofs.Tryz
set_option maxRecDepth 100000
structure jS (s:ai) (g:Nat):Prop where
 co:qw s g
 fit:Fit s
 l6:(aa s g).place=6→∀ i l,(cn s (ag s g).ch).recv=i :: l→cP s i
 l7:(aa s g).place=7→cP s (aa s g).hold
 l8:(aa s g).place=8→cP s (aa s g).hold
 xY:(aa s g).place=10→kr s∧g < s.cache.length∧((bw s g).2.2=true→0≤(bw s g).2.1∧(bw s g).2.1 < s.aL.length)
 sP:(aa s g).place=14→0≤(aa s g).param∧(aa s g).param < s.aL.length
theorem Gn (s:ai) (g:Nat) (h:jS s g) (hk:(ag s g).kind=2∨(ag s g).kind=4) (hc:(common s g).2=false) (hm:aR s (ag s g).ch=true) (e0:(aa s g).place=1) :
  Pure prog 84 [.agg (aC s),.c (nI g)] (.aU [.agg (aC (bH s g).1),.c (bI (bH s g).2)]):=by
 have hg:=h.co.lt;have hf:Few s:=h.fit.toAnd;have hb:=hf.1;have cQ:=hf.2.1;have C0:=cO s g hg h.co.cJ;have C1:=dY s g h.co;obtain ⟨k,ek,bV⟩:∃ k,(ag s g).kind=k∧(k=2∨k=4):=⟨_,rfl,hk⟩
 have KN:∀ c,((ag s g).kind != c)=(k != c):=fun c=>by rw [ek]
 have KE:∀ c,((ag s g).kind == c)=(k == c):=fun c=>by rw [ek]
 have aZ:¬ ((ag s g).kind≠2∧(ag s g).kind≠4):=by omega
 have bX:¬ (common s g).2=true:=by rw [hc];simp
 rw [hc] at C1;have CM:=dN s (ag s g).ch;have bY:¬ aR s (ag s g).ch=false:=by rw [hm];simp
 have hl:=dJ hm;rw [hm] at CM;have aj:bH s g=bH s g:=rfl
 conv at aj=>rhs;unfold bH;simp only;rw [if_neg aZ,if_neg bX,if_neg bY]
 have P:∀ c,((aa s g).place == c)=((1:Int) == c):=fun c=>by rw [e0]
 refine aA.intro func84 rfl rfl rfl (fun ok e=>?_);rw [if_pos e0] at aj;have CR:=FW (cn s (ag s g).ch)
 cases hr:Sx.room (cn s (ag s g).ch) with
 | true =>
  rw [if_pos hr] at aj;rw [hr] at CR;rw [aj];rcases bV with rfl | rfl
  all_goals
   repeat (first | refine aM (KN _) ?_ | refine aM (P _) ?_ | refine aO (dX s g 4 hg hb) ?_ | refine au ?_ | intro _)
   exact az func84
 | false =>
  rw [if_neg (by rw [hr];simp)] at aj;rw [hr] at CR;rw [aj];rcases bV with rfl | rfl
  all_goals
   repeat (first | refine aM (KN _) ?_ | refine aM (P _) ?_ | refine aO (gE s g (aa s g).res 2 hg hb) ?_ | refine au ?_ | intro _)
   exact az func84
theorem Gp (s:ai) (g:Nat) (h:jS s g) (hk:(ag s g).kind=2∨(ag s g).kind=4) (hc:(common s g).2=false) (hm:aR s (ag s g).ch=true) (e0:(aa s g).place=2) :
  Pure prog 84 [.agg (aC s),.c (nI g)] (.aU [.agg (aC (bH s g).1),.c (bI (bH s g).2)]):=by
 have hg:=h.co.lt;have hf:Few s:=h.fit.toAnd;have hb:=hf.1;have cQ:=hf.2.1;have C0:=cO s g hg h.co.cJ;have C1:=dY s g h.co;obtain ⟨k,ek,bV⟩:∃ k,(ag s g).kind=k∧(k=2∨k=4):=⟨_,rfl,hk⟩
 have KN:∀ c,((ag s g).kind != c)=(k != c):=fun c=>by rw [ek]
 have KE:∀ c,((ag s g).kind == c)=(k == c):=fun c=>by rw [ek]
 have aZ:¬ ((ag s g).kind≠2∧(ag s g).kind≠4):=by omega
 have bX:¬ (common s g).2=true:=by rw [hc];simp
 rw [hc] at C1;have CM:=dN s (ag s g).ch;have bY:¬ aR s (ag s g).ch=false:=by rw [hm];simp
 have hl:=dJ hm;rw [hm] at CM;have aj:bH s g=bH s g:=rfl
 conv at aj=>rhs;unfold bH;simp only;rw [if_neg aZ,if_neg bX,if_neg bY]
 have P:∀ c,((aa s g).place == c)=((2:Int) == c):=fun c=>by rw [e0]
 refine aA.intro func84 rfl rfl rfl (fun ok e=>?_);rw [av] at aj;rw [if_pos e0] at aj
 cases bZ:(cn s (ag s g).ch).closed with
 | true =>
  rw [if_pos bZ] at aj;rw [aj];rcases bV with rfl | rfl
  all_goals
   repeat (first | refine J.eZ (congrArg (fun b=>some (D.c (bI b))) bZ) ?_ | refine aM (KN _) ?_ | refine aM (P _) ?_ | refine aO (cj s g { aa s g with bS:=0,place:=4 } hg hb) ?_ | refine au ?_ | intro _)
   exact az func84
 | false =>
  rw [if_neg (by rw [bZ];simp)] at aj;rw [aj];rcases bV with rfl | rfl
  all_goals
   repeat (first | refine J.eK (congrArg (fun b=>some (D.c (bI b))) bZ) ?_ | refine aM (KN _) ?_ | refine aM (P _) ?_ | refine aO (cj s g { aa s g with res:={ (aa s g).res with code:=2 },place:=18 } hg hb) ?_ | refine au ?_ | intro _)
   exact az func84
theorem Gq (s:ai) (g:Nat) (h:jS s g) (hk:(ag s g).kind=2∨(ag s g).kind=4) (hc:(common s g).2=false) (hm:aR s (ag s g).ch=true) (e0:(aa s g).place=5) :
  Pure prog 84 [.agg (aC s),.c (nI g)] (.aU [.agg (aC (bH s g).1),.c (bI (bH s g).2)]):=by
 have hg:=h.co.lt;have hf:Few s:=h.fit.toAnd;have hb:=hf.1;have cQ:=hf.2.1;have C0:=cO s g hg h.co.cJ;have C1:=dY s g h.co;obtain ⟨k,ek,bV⟩:∃ k,(ag s g).kind=k∧(k=2∨k=4):=⟨_,rfl,hk⟩
 have KN:∀ c,((ag s g).kind != c)=(k != c):=fun c=>by rw [ek]
 have KE:∀ c,((ag s g).kind == c)=(k == c):=fun c=>by rw [ek]
 have aZ:¬ ((ag s g).kind≠2∧(ag s g).kind≠4):=by omega
 have bX:¬ (common s g).2=true:=by rw [hc];simp
 rw [hc] at C1;have CM:=dN s (ag s g).ch;have bY:¬ aR s (ag s g).ch=false:=by rw [hm];simp
 have hl:=dJ hm;rw [hm] at CM;have aj:bH s g=bH s g:=rfl
 conv at aj=>rhs;unfold bH;simp only;rw [if_neg aZ,if_neg bX,if_neg bY]
 have P:∀ c,((aa s g).place == c)=((5:Int) == c):=fun c=>by rw [e0]
 refine aA.intro func84 rfl rfl rfl (fun ok e=>?_);rw [av,av] at aj;rw [if_pos e0] at aj
 cases bZ:(cn s (ag s g).ch).closed with
 | true =>
  rw [if_pos bZ] at aj;rw [aj];rcases bV with rfl | rfl
  all_goals
   repeat (first | refine J.eZ (congrArg (fun b=>some (D.c (bI b))) bZ) ?_ | refine aM (KN _) ?_ | refine aM (P _) ?_ | refine aO (gE s g (Sx.res 3) 16 hg hb) ?_ | refine au ?_ | intro _)
   exact az func84
 | false =>
  rw [if_neg (by rw [bZ];simp)] at aj;rw [aj];rcases bV with rfl | rfl
  all_goals
   repeat (first | refine J.eK (congrArg (fun b=>some (D.c (bI b))) bZ) ?_ | refine aM (KN _) ?_ | refine aM (P _) ?_ | refine aO (dX s g 6 hg hb) ?_ | refine au ?_ | intro _)
   exact az func84
theorem Gs (s:ai) (g:Nat) (h:jS s g) (hk:(ag s g).kind=2∨(ag s g).kind=4) (hc:(common s g).2=false) (hm:aR s (ag s g).ch=true) (e0:(aa s g).place=6) :
  Pure prog 84 [.agg (aC s),.c (nI g)] (.aU [.agg (aC (bH s g).1),.c (bI (bH s g).2)]):=by
 have hg:=h.co.lt;have hf:Few s:=h.fit.toAnd;have hb:=hf.1;have cQ:=hf.2.1;have C0:=cO s g hg h.co.cJ;have C1:=dY s g h.co;obtain ⟨k,ek,bV⟩:∃ k,(ag s g).kind=k∧(k=2∨k=4):=⟨_,rfl,hk⟩
 have KN:∀ c,((ag s g).kind != c)=(k != c):=fun c=>by rw [ek]
 have KE:∀ c,((ag s g).kind == c)=(k == c):=fun c=>by rw [ek]
 have aZ:¬ ((ag s g).kind≠2∧(ag s g).kind≠4):=by omega
 have bX:¬ (common s g).2=true:=by rw [hc];simp
 rw [hc] at C1;have CM:=dN s (ag s g).ch;have bY:¬ aR s (ag s g).ch=false:=by rw [hm];simp
 have hl:=dJ hm;rw [hm] at CM;have aj:bH s g=bH s g:=rfl
 conv at aj=>rhs;unfold bH;simp only;rw [if_neg aZ,if_neg bX,if_neg bY]
 have P:∀ c,((aa s g).place == c)=((6:Int) == c):=fun c=>by rw [e0]
 refine aA.intro func84 rfl rfl rfl (fun ok e=>?_);rw [av,av,av] at aj;rw [if_pos e0] at aj
 cases hJ:(cn s (ag s g).ch).recv with
 | nil =>
  have hz:(((cn s (ag s g).ch).recv.length:Int) == 0)=true:=by rw [hJ];rfl
  rw [if_pos (by rw [hJ];rfl)] at aj;rw [aj];rcases bV with rfl | rfl
  all_goals
   repeat (first | refine aM (KN _) ?_ | refine aM (P _) ?_ | refine aO (dX s g 9 hg hb) ?_ | refine au ?_ | intro _)
   exact az func84
 | cons a l =>
  have hz:(((cn s (ag s g).ch).recv.length:Int) == 0)=false:=by rw [hJ];simp;omega
  have w0:((cn s (ag s g).ch).recv.map fun n=>[nI n])[(0:Int).toNat]?=some [nI a]:=by rw [hJ];rfl
  rw [if_neg (by rw [hJ];simp),hJ] at aj;rw [aj];rcases bV with rfl | rfl
  all_goals
   repeat (first | refine aM (KN _) ?_ | refine aM (P _) ?_ | refine au ?_ | intro _)
   refine J.draw (by kernel_rfl) rfl ?_;refine JW.base (some 7) ?_;refine tk 0 ?_;refine tk 1 ?_;refine tk 2 ?_;refine tk 3 ?_;refine JD.take 4 rfl rfl (by kernel_rfl) rfl (qb rfl) (Qt.dj rfl rfl (by omega) w0) rfl ?_;refine tk 5 ?_;refine cz 6 (uT s g a 7 8 hg (h.l6 e0 a l hJ) h.fit) ?_;refine jt 7 rfl rfl (Ld.bu rfl rfl rfl (by exact rfl) (by exact rfl)) (fun _=>?_);refine JW.base none ?_;refine jk 8 rfl rfl rfl rfl (Qt.assign rfl) ?_;refine aX ?_
   repeat (fail)
   exact az func84
theorem Gt (s:ai) (g:Nat) (h:jS s g) (hk:(ag s g).kind=2∨(ag s g).kind=4) (hc:(common s g).2=false) (hm:aR s (ag s g).ch=true) (e0:(aa s g).place=7) :
  Pure prog 84 [.agg (aC s),.c (nI g)] (.aU [.agg (aC (bH s g).1),.c (bI (bH s g).2)]):=by
 have hg:=h.co.lt;have hf:Few s:=h.fit.toAnd;have hb:=hf.1;have cQ:=hf.2.1;have C0:=cO s g hg h.co.cJ;have C1:=dY s g h.co;obtain ⟨k,ek,bV⟩:∃ k,(ag s g).kind=k∧(k=2∨k=4):=⟨_,rfl,hk⟩
 have KN:∀ c,((ag s g).kind != c)=(k != c):=fun c=>by rw [ek]
 have KE:∀ c,((ag s g).kind == c)=(k == c):=fun c=>by rw [ek]
 have aZ:¬ ((ag s g).kind≠2∧(ag s g).kind≠4):=by omega
 have bX:¬ (common s g).2=true:=by rw [hc];simp
 rw [hc] at C1;have CM:=dN s (ag s g).ch;have bY:¬ aR s (ag s g).ch=false:=by rw [hm];simp
 have hl:=dJ hm;rw [hm] at CM;have aj:bH s g=bH s g:=rfl
 conv at aj=>rhs;unfold bH;simp only;rw [if_neg aZ,if_neg bX,if_neg bY]
 have P:∀ c,((aa s g).place == c)=((7:Int) == c):=fun c=>by rw [e0]
 refine aA.intro func84 rfl rfl rfl (fun ok e=>?_);rw [av,av,av,av] at aj;rw [if_pos e0] at aj;rw [aj];rcases bV with rfl | rfl
 all_goals
  repeat (first | refine aM (KN _) ?_ | refine aM (P _) ?_ | refine aO (xW s g 6 8 hg (h.l7 e0) h.fit) ?_ | refine au ?_ | intro _)
  exact az func84
theorem Gu (s:ai) (g:Nat) (h:jS s g) (hk:(ag s g).kind=2∨(ag s g).kind=4) (hc:(common s g).2=false) (hm:aR s (ag s g).ch=true) (e0:(aa s g).place=9) :
  Pure prog 84 [.agg (aC s),.c (nI g)] (.aU [.agg (aC (bH s g).1),.c (bI (bH s g).2)]):=by
 have hg:=h.co.lt;have hf:Few s:=h.fit.toAnd;have hb:=hf.1;have cQ:=hf.2.1;have C0:=cO s g hg h.co.cJ;have C1:=dY s g h.co;obtain ⟨k,ek,bV⟩:∃ k,(ag s g).kind=k∧(k=2∨k=4):=⟨_,rfl,hk⟩
 have KN:∀ c,((ag s g).kind != c)=(k != c):=fun c=>by rw [ek]
 have KE:∀ c,((ag s g).kind == c)=(k == c):=fun c=>by rw [ek]
 have aZ:¬ ((ag s g).kind≠2∧(ag s g).kind≠4):=by omega
 have bX:¬ (common s g).2=true:=by rw [hc];simp
 rw [hc] at C1;have CM:=dN s (ag s g).ch;have bY:¬ aR s (ag s g).ch=false:=by rw [hm];simp
 have hl:=dJ hm;rw [hm] at CM;have aj:bH s g=bH s g:=rfl
 conv at aj=>rhs;unfold bH;simp only;rw [if_neg aZ,if_neg bX,if_neg bY]
 have P:∀ c,((aa s g).place == c)=((9:Int) == c):=fun c=>by rw [e0]
 refine aA.intro func84 rfl rfl rfl (fun ok e=>?_);rw [av,av,av,av,av,av] at aj;rw [if_pos e0] at aj;have CP:=A4 (cn s (ag s g).ch).buf (cn s (ag s g).ch).cap (ag s g).v (h.fit.bf _)
 cases hr:(fX (cn s (ag s g).ch).buf (cn s (ag s g).ch).cap (ag s g).v).2 with
 | true =>
  rw [if_pos hr] at aj;rw [hr] at CP;rw [aj];rcases bV with rfl | rfl
  all_goals
   repeat (first | refine aM (KN _) ?_ | refine aM (P _) ?_ | refine aO (jR s (ag s g).ch { (cn s (ag s g).ch) with buf:=(fX (cn s (ag s g).ch).buf (cn s (ag s g).ch).cap (ag s g).v).1 } hm cQ) ?_ | refine ke (uQ) ?_ | refine aO (gE (aH s (ag s g).ch { (cn s (ag s g).ch) with buf:=(fX (cn s (ag s g).ch).buf (cn s (ag s g).ch).cap (ag s g).v).1 }) g kP 16 hg hb) ?_ | refine au ?_ | intro _)
   exact az func84
 | false =>
  rw [if_neg (by rw [hr];simp)] at aj;rw [hr] at CP;rcases bV with rfl | rfl
  ·rw [av] at aj;rw [aj]
   repeat (first | refine aM (KN _) ?_ | refine aM (P _) ?_ | refine aM (KE _) ?_ | refine aO (dX s g 10 hg hb) ?_ | refine au ?_ | intro _)
   exact az func84
  ·rw [if_pos ek] at aj;rw [aj]
   repeat (first | refine aM (KN _) ?_ | refine aM (P _) ?_ | refine aM (KE _) ?_ | refine aO (gE s g (Sx.res 2) 16 hg hb) ?_ | refine au ?_ | intro _)
   exact az func84
theorem Gv (s:ai) (g:Nat) (h:jS s g) (hk:(ag s g).kind=2∨(ag s g).kind=4) (hc:(common s g).2=false) (hm:aR s (ag s g).ch=true) (e0:(aa s g).place=10) :
  Pure prog 84 [.agg (aC s),.c (nI g)] (.aU [.agg (aC (bH s g).1),.c (bI (bH s g).2)]):=by
 have hg:=h.co.lt;have hf:Few s:=h.fit.toAnd;have hb:=hf.1;have cQ:=hf.2.1;have C0:=cO s g hg h.co.cJ;have C1:=dY s g h.co;obtain ⟨k,ek,bV⟩:∃ k,(ag s g).kind=k∧(k=2∨k=4):=⟨_,rfl,hk⟩
 have KN:∀ c,((ag s g).kind != c)=(k != c):=fun c=>by rw [ek]
 have KE:∀ c,((ag s g).kind == c)=(k == c):=fun c=>by rw [ek]
 have aZ:¬ ((ag s g).kind≠2∧(ag s g).kind≠4):=by omega
 have bX:¬ (common s g).2=true:=by rw [hc];simp
 rw [hc] at C1;have CM:=dN s (ag s g).ch;have bY:¬ aR s (ag s g).ch=false:=by rw [hm];simp
 have hl:=dJ hm;rw [hm] at CM;have aj:bH s g=bH s g:=rfl
 conv at aj=>rhs;unfold bH;simp only;rw [if_neg aZ,if_neg bX,if_neg bY]
 have P:∀ c,((aa s g).place == c)=((10:Int) == c):=fun c=>by rw [e0]
 refine aA.intro func84 rfl rfl rfl (fun ok e=>?_);rw [av,av,av,av,av,av,av] at aj;rw [if_pos e0] at aj;obtain ⟨f1,f2,f3⟩:=h.xY e0;rw [aj];rcases bV with rfl | rfl
 all_goals
  repeat (first | refine aM (KN _) ?_ | refine aM (P _) ?_ | refine aO (A7 s g ⟨true,g,(ag s g).ch,-1,true,(ag s g).v,false⟩ hg hf f1 f2 f3) ?_ | refine au ?_ | intro _)
  exact az func84
theorem Gw (s:ai) (g:Nat) (h:jS s g) (hk:(ag s g).kind=2∨(ag s g).kind=4) (hc:(common s g).2=false) (hm:aR s (ag s g).ch=true) (e0:(aa s g).place=11) :
  Pure prog 84 [.agg (aC s),.c (nI g)] (.aU [.agg (aC (bH s g).1),.c (bI (bH s g).2)]):=by
 have hg:=h.co.lt;have hf:Few s:=h.fit.toAnd;have hb:=hf.1;have cQ:=hf.2.1;have C0:=cO s g hg h.co.cJ;have C1:=dY s g h.co;obtain ⟨k,ek,bV⟩:∃ k,(ag s g).kind=k∧(k=2∨k=4):=⟨_,rfl,hk⟩
 have KN:∀ c,((ag s g).kind != c)=(k != c):=fun c=>by rw [ek]
 have KE:∀ c,((ag s g).kind == c)=(k == c):=fun c=>by rw [ek]
 have aZ:¬ ((ag s g).kind≠2∧(ag s g).kind≠4):=by omega
 have bX:¬ (common s g).2=true:=by rw [hc];simp
 rw [hc] at C1;have CM:=dN s (ag s g).ch;have bY:¬ aR s (ag s g).ch=false:=by rw [hm];simp
 have hl:=dJ hm;rw [hm] at CM;have aj:bH s g=bH s g:=rfl
 conv at aj=>rhs;unfold bH;simp only;rw [if_neg aZ,if_neg bX,if_neg bY]
 have P:∀ c,((aa s g).place == c)=((11:Int) == c):=fun c=>by rw [e0]
 refine aA.intro func84 rfl rfl rfl (fun ok e=>?_);rw [av,av,av,av,av,av,av,av] at aj;rw [if_pos e0] at aj;rw [aj];have ia:=h.fit.sd (ag s g).ch;have C2:=jR s (ag s g).ch { (cn s (ag s g).ch) with send:=(cn s (ag s g).ch).send ++ [(aa s g).bt] } hm cQ;have C3:=cj (aH s (ag s g).ch { (cn s (ag s g).ch) with send:=(cn s (ag s g).ch).send ++ [(aa s g).bt] }) g { aa s g with fW:=s.step,place:=12 } hg hb;rcases bV with rfl | rfl
 all_goals
  repeat (first | refine aM (KN _) ?_ | refine aM (P _) ?_ | refine au ?_ | intro _)
  refine J.draw (by kernel_rfl) rfl ?_;refine JW.base (some 9) ?_;refine tk 1 ?_;refine tk 2 ?_;refine tk 4 ?_;refine tk 5 ?_;refine JD.cF (i:=0) (j:=6) (by kernel_rfl) ?_ ?_;refine JS.cC rfl rfl rfl (qb rfl) (Ld.eJ (qb rfl)) .none (fun _=>?_);refine JD.cF (i:=3) (j:=6) (by kernel_rfl) ?_ ?_;refine JS.cC rfl rfl rfl (qb rfl) (Ld.bO (qb rfl) rfl rfl .read (by (simp;omega))) (by (exact .row (by repeat ((exact .refl))))) (fun _=>?_);refine jl 6 rfl rfl rfl rfl (Ld.dK (qb rfl) rfl rfl rfl rfl rfl) .none (fun _=>?_);refine jl 7 rfl rfl rfl rfl (Ld.dU (qb rfl) rfl rfl .cX (by (simp;omega))) (by (exact .row (by repeat (first | exact .refl | refine .cons ?_)))) (fun _=>?_);refine jk 8 rfl rfl rfl rfl (Qt.fieldAddr rfl rfl) ?_;refine jt 9 rfl rfl (Ld.cW rfl rfl (by exact rfl)) (fun _=>?_);refine cH ?_
  rotate_left
  refine JS.cC rfl rfl rfl (qb rfl) (Ld.dK (qb rfl) rfl rfl rfl rfl rfl) .none (fun _=>?_);refine jl 3 rfl rfl rfl rfl (Ld.bO (qb rfl) rfl rfl .read (by (simp;omega))) (by (exact .row (by repeat (first | exact .refl | refine .cons ?_)))) (fun _=>?_);refine jl 7 rfl rfl rfl rfl (Ld.dU (qb rfl) rfl rfl .cX (by (simp;omega))) (by (exact .row (by repeat (first | exact .refl | refine .cons ?_)))) (fun _=>?_);refine jk 8 rfl rfl rfl rfl (Qt.fieldAddr rfl rfl) ?_;refine jt 9 rfl rfl (Ld.cW rfl rfl (by exact rfl)) (fun _=>?_);refine cH ?_
  rotate_left
  refine JS.cC rfl rfl rfl (qb rfl) (Ld.dK (qb rfl) rfl rfl rfl rfl rfl) .none (fun _=>?_);refine jl 0 rfl rfl rfl rfl (Ld.eJ (qb rfl)) .none (fun _=>?_);refine jl 3 rfl rfl rfl rfl (Ld.bO (qb rfl) rfl rfl .read (by (simp;omega))) (by (exact .row (by repeat (first | exact .refl | refine .cons ?_)))) (fun _=>?_);refine jl 7 rfl rfl rfl rfl (Ld.dU (qb rfl) rfl rfl .cX (by (simp;omega))) (by (exact .row (by repeat (first | exact .refl | refine .cons ?_)))) (fun _=>?_);refine jk 8 rfl rfl rfl rfl (Qt.fieldAddr rfl rfl) ?_;refine jt 9 rfl rfl (Ld.cW rfl rfl (by exact rfl)) (fun _=>?_);refine cH ?_
  rotate_left
  all_goals
   repeat (refine gn ?_)
   refine J.draw (by kernel_rfl) rfl ?_;refine JW.base (some 8) ?_;refine tk 0 ?_;refine tk 1 ?_;refine tk 2 ?_;refine tk 3 ?_;refine tk 5 ?_;refine tk 6 ?_;refine jl 4 rfl rfl rfl rfl (Ld.pure (C2) (qb rfl) rfl (by repeat (first | exact bR.nil | refine bR.cons (dm.agg (by repeat (first | exact .nil | refine .cons .refl ?_ | refine .cons .snoc ?_))) ?_ | refine bR.cons dm.refl ?_))) .none (fun _=>?_);refine cz 7 (C3) ?_;refine jt 8 rfl rfl (Ld.bu rfl rfl rfl (by exact rfl) (by exact rfl)) (fun _=>?_);refine JW.base none ?_;refine jk 9 rfl rfl rfl rfl (Qt.assign rfl) ?_;refine aX ?_
   repeat (fail)
   exact az func84
theorem Gy (s:ai) (g:Nat) (h:jS s g) (hk:(ag s g).kind=2∨(ag s g).kind=4) (hc:(common s g).2=false) (hm:aR s (ag s g).ch=true) (e0:(aa s g).place=14) :
  Pure prog 84 [.agg (aC s),.c (nI g)] (.aU [.agg (aC (bH s g).1),.c (bI (bH s g).2)]):=by
 have hg:=h.co.lt;have hf:Few s:=h.fit.toAnd;have hb:=hf.1;have cQ:=hf.2.1;have C0:=cO s g hg h.co.cJ;have C1:=dY s g h.co;obtain ⟨k,ek,bV⟩:∃ k,(ag s g).kind=k∧(k=2∨k=4):=⟨_,rfl,hk⟩
 have KN:∀ c,((ag s g).kind != c)=(k != c):=fun c=>by rw [ek]
 have KE:∀ c,((ag s g).kind == c)=(k == c):=fun c=>by rw [ek]
 have aZ:¬ ((ag s g).kind≠2∧(ag s g).kind≠4):=by omega
 have bX:¬ (common s g).2=true:=by rw [hc];simp
 rw [hc] at C1;have CM:=dN s (ag s g).ch;have bY:¬ aR s (ag s g).ch=false:=by rw [hm];simp
 have hl:=dJ hm;rw [hm] at CM;have aj:bH s g=bH s g:=rfl
 conv at aj=>rhs;unfold bH;simp only;rw [if_neg aZ,if_neg bX,if_neg bY]
 have P:∀ c,((aa s g).place == c)=((14:Int) == c):=fun c=>by rw [e0]
 refine aA.intro func84 rfl rfl rfl (fun ok e=>?_);rw [av,av,av,av,av,av,av,av,av] at aj;rw [if_pos e0] at aj;obtain ⟨f1,f2⟩:=h.sP e0;rw [aj]
 cases hd:(su s (aa s g).param).done with
 | true =>
  rw [if_pos rfl];rcases bV with rfl | rfl
  all_goals
   repeat (first | refine J.eK (congrArg (fun b=>some (D.c (bI (!b)))) hd) ?_ | (refine K.indexAddr ?_;refine jx rfl rfl rfl rfl (by omega) (fO f1 f2) ?_) | refine aM (KN _) ?_ | refine aM (P _) ?_ | refine ke (uQ) ?_ | refine aO (cj s g { aa s g with res:=kP,param:=-1,place:=15 } hg hb) ?_ | refine au ?_ | intro _)
   exact az func84
 | false =>
  rw [if_neg (by simp)];rcases bV with rfl | rfl
  all_goals
   repeat (first | refine J.eZ (congrArg (fun b=>some (D.c (bI (!b)))) hd) ?_ | (refine K.indexAddr ?_;refine jx rfl rfl rfl rfl (by omega) (fO f1 f2) ?_) | refine aM (KN _) ?_ | refine aM (P _) ?_ | refine ke (uQ) ?_ | refine aO (cj s g { aa s g with res:=Sx.res 3,param:=-1,place:=15 } hg hb) ?_ | refine au ?_ | intro _)
   exact az func84
end Fl
end Go.Proofs.YtgjpdogjekmemaaGreat
