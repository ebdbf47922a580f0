/-
  What the laws need, part S12.
  Conditions: none.
-/
import Derived.Test.YtgjpdogjekmemaaGreatS11
set_option linter.unusedVariables false
set_option linter.unusedSimpArgs false
set_option linter.unnecessarySimpa false
set_option maxHeartbeats 2000000
namespace Go.Proofs.YtgjpdogjekmemaaGreat
open Go.RowKit
namespace Fl
open Sx Go.Proofs.Tryz
set_option maxRecDepth 100000
theorem Fc (l:List Int) (r v:Int) (hb:l.length≤50000) :
  Pure prog 114 [.c (ints l),.c (nI r),.c (nI v)] (.aY [.c (ints (gH l r v).1),.c (bI (gH l r v).2)]):=by
 refine aq.intro func114 rfl rfl rfl (fun ok e=>?_)
 cases h1:decide ((l.length:Int) ≥ r) with
 | true =>
  have e1:gH l r v=(l,false):=by unfold gH;rw [if_pos (by simpa using h1)]
  rw [e1]
  repeat (refine gn ?_)
  exact aA func114
 | false =>
  have e1:gH l r v=(l ++ [v],true):=by unfold gH;rw [if_neg (by simpa using h1)]
  rw [e1]
  repeat (first | (refine K.bi ?_;first | refine JO.ld (Ld.bH (qb rfl) rfl rfl .read (by first | (simp;omega) | simp)) rfl (fun _=>?_) | refine JO.ld (Ld.bH (qb rfl) rfl rfl .bV (by (simp;omega))) rfl (fun _=>?_)) | refine av ?_ | intro _)
  refine J.gG 6 rfl ?_;exact J.ret func114 rfl (.cons (.tmp rfl) (.cons (.tmp rfl) .nil)) () (by (exact .aY (by repeat (first | exact .nil | refine .cons .refl ?_ | refine .cons (.c .snoc) ?_)))) [] .nil rfl rfl
theorem Ff {a:Int} {l:List Int}:((((a :: l).map fun n=>[nI n]).take ((((a :: l).map fun n=>[nI n]).length:Int)).toNat).drop (1:Int).toNat)=l.map fun n=>[nI n]:=by
 simp;exact List.take_of_length_le (by simp)
theorem Fg (l:List Int) (hb:l.length≤50000) :
  Pure prog 120 [.c (ints l)] (.aY [.c (ints (fE l).1),.c (nI (fE l).2.1),.c (bI (fE l).2.2)]):=by
 refine aq.intro func120 rfl rfl rfl (fun ok e=>?_)
 cases l with
 | nil =>
  repeat (refine gn ?_)
  exact aA func120
 | cons a l =>
  have h1:(((a :: l).length:Int) == 0)=false:=by simp;omega
  have e1:fE (a :: l)=(l,a,true):=by unfold fE;rw [if_neg (by simp)];rfl
  have hl:l.length≤50000:=by simp at hb;omega
  have w2:(1:Int)≤(((a :: l).map fun n=>[nI n]).length:Int):=by simp;omega
  rw [e1]
  repeat (refine gn ?_)
  refine J.draw (by kernel_rfl) rfl ?_;refine JW.base none ?_;refine tk 1 ?_;refine JD.take 2 rfl rfl (by kernel_rfl) rfl (qb rfl) ((Qt.mX rfl rfl rfl (by omega) (by omega) (by omega)).eq (congrArg (fun z=>D.c (A.r 1 z)) Ff)) rfl ?_;refine tk 4 ?_;refine JD.take 5 rfl rfl (by kernel_rfl) rfl (qb rfl) (Qt.cE rfl rfl (by omega) (show ((a :: l).map fun n=>[nI n])[(0:Int).toNat]?=some [nI a] from rfl)) rfl ?_;refine tk 6 ?_;refine jl 0 rfl rfl rfl rfl (Ld.fD (qb rfl)) .none (fun _=>?_);refine jl 3 rfl rfl rfl rfl (Ld.eB (qb rfl) rfl rfl .read (by (simp;omega))) (by (exact .row (by repeat ((exact .refl))))) (fun _=>?_);refine jk 7 rfl rfl rfl rfl (Qt.assign rfl) ?_;refine jk 8 rfl rfl rfl rfl (Qt.assign rfl) ?_;refine jk 9 rfl rfl rfl rfl (Qt.assign rfl) ?_;refine bP ?_
  repeat (fail)
  exact aA func120
theorem Ng (l:List Int) (r v:Int) (hb:l.length≤50000) :
  Pure prog 153 [.c (ints l),.c (nI r),.c (nI v)] (.aY [.c (ints (fM l r v).1),.c (nI (fM l r v).2.1),.c (bI (fM l r v).2.2)]):=by
 refine aq.intro func153 rfl rfl rfl (fun ok e=>?_)
 cases h1:decide ((l.length:Int) < r) with
 | true =>
  have e1:fM l r v=(l,0,false):=by unfold fM;rw [if_pos (.inl (by simpa using h1))]
  rw [e1]
  repeat (refine gn ?_)
  exact aA func153
 | false =>
  cases l with
  | nil =>
   have e1:fM [] r v=([],0,false):=by unfold fM;rw [if_pos (.inr rfl)]
   rw [e1]
   repeat (refine gn ?_)
   exact aA func153
  | cons a l =>
   have h2:(((a :: l).length:Int) == 0)=false:=by simp;omega
   have e1:fM (a :: l) r v=(l ++ [v],a,true):=by unfold fM;rw [if_neg (by simp at h1 ⊢;omega)];rfl
   have hl:l.length≤50000:=by simp at hb;omega
   have w2:(1:Int)≤(((a :: l).map fun n=>[nI n]).length:Int):=by simp;omega
   rw [e1]
   repeat (refine gn ?_)
   refine J.draw (by kernel_rfl) rfl ?_;refine JW.base none ?_;refine tk 1 ?_;refine JD.take 2 rfl rfl (by kernel_rfl) rfl (qb rfl) ((Qt.mX rfl rfl rfl (by omega) (by omega) (by omega)).eq (congrArg (fun z=>D.c (A.r 1 z)) Ff)) rfl ?_;refine tk 4 ?_;refine tk 7 ?_;refine JD.take 8 rfl rfl (by kernel_rfl) rfl (qb rfl) (Qt.cE rfl rfl (by omega) (show ((a :: l).map fun n=>[nI n])[(0:Int).toNat]?=some [nI a] from rfl)) rfl ?_;refine tk 9 ?_;refine JD.cy (i:=0) (j:=5) (by kernel_rfl) ?_ ?_;refine JS.bt rfl rfl rfl (qb rfl) (Ld.fD (qb rfl)) .none (fun _=>?_);refine JD.cy (i:=3) (j:=5) (by kernel_rfl) ?_ ?_;refine JS.bt rfl rfl rfl (qb rfl) (Ld.bH (qb rfl) rfl rfl .read (by (simp;omega))) (by (exact .row (by repeat ((exact .refl))))) (fun _=>?_);refine jl 5 rfl rfl rfl rfl (Ld.dZ (qb rfl) rfl rfl rfl rfl rfl) .none (fun _=>?_);refine jl 6 rfl rfl rfl rfl (Ld.eB (qb rfl) rfl rfl .bV (by (simp;omega))) (by (exact .row (by repeat (first | exact .refl | refine .cons ?_)))) (fun _=>?_);refine jk 10 rfl rfl rfl rfl (Qt.assign rfl) ?_;refine jk 11 rfl rfl rfl rfl (Qt.assign rfl) ?_;refine jk 12 rfl rfl rfl rfl (Qt.assign rfl) ?_;refine bP ?_
   rotate_left
   refine JS.bt rfl rfl rfl (qb rfl) (Ld.dZ (qb rfl) rfl rfl rfl rfl rfl) .none (fun _=>?_);refine jl 3 rfl rfl rfl rfl (Ld.bH (qb rfl) rfl rfl .read (by (simp;omega))) (by (exact .row (by repeat (first | exact .refl | refine .cons ?_)))) (fun _=>?_);refine jl 6 rfl rfl rfl rfl (Ld.eB (qb rfl) rfl rfl .bV (by (simp;omega))) (by (exact .row (by repeat (first | exact .refl | refine .cons ?_)))) (fun _=>?_);refine jk 10 rfl rfl rfl rfl (Qt.assign rfl) ?_;refine jk 11 rfl rfl rfl rfl (Qt.assign rfl) ?_;refine jk 12 rfl rfl rfl rfl (Qt.assign rfl) ?_;refine bP ?_
   rotate_left
   refine JS.bt rfl rfl rfl (qb rfl) (Ld.dZ (qb rfl) rfl rfl rfl rfl rfl) .none (fun _=>?_);refine jl 0 rfl rfl rfl rfl (Ld.fD (qb rfl)) .none (fun _=>?_);refine jl 3 rfl rfl rfl rfl (Ld.bH (qb rfl) rfl rfl .read (by (simp;omega))) (by (exact .row (by repeat (first | exact .refl | refine .cons ?_)))) (fun _=>?_);refine jl 6 rfl rfl rfl rfl (Ld.eB (qb rfl) rfl rfl .bV (by (simp;omega))) (by (exact .row (by repeat (first | exact .refl | refine .cons ?_)))) (fun _=>?_);refine jk 10 rfl rfl rfl rfl (Qt.assign rfl) ?_;refine jk 11 rfl rfl rfl rfl (Qt.assign rfl) ?_;refine jk 12 rfl rfl rfl rfl (Qt.assign rfl) ?_;refine bP ?_
   rotate_left
   all_goals
    repeat (fail)
    exact J.ret func153 rfl (.cons (.tmp rfl) (.cons (.tmp rfl) (.cons (.tmp rfl) .nil))) () (by (exact .aY (by repeat (first | exact .nil | refine .cons .refl ?_ | refine .cons (.c .snoc) ?_)))) [] .nil rfl rfl
theorem cV.of {s s':ah} {i:Int} (h:cV s i) (e1:s'.aD=s.aD) (e2:s'.gs.length=s.gs.length):cV s' i:=by
 obtain ⟨a,b,c,d⟩:=h;have e3:su s' i=su s i:=by unfold su;rw [e1]
 exact ⟨a,by rw [e1];exact b,by rw [e3];exact c,by rw [e3,e2];exact d⟩
theorem Few.of {s s':ah} (h:Few s) (e1:s'.gs.length=s.gs.length) (e2:s'.ax.length=s.ax.length) (e3:s'.aD.length=s.aD.length):Few s':=⟨by rw [e1];exact h.1,by rw [e2];exact h.2.1,by rw [e3];exact h.2.2⟩
theorem fC (s:ah) (i:Int):(bE s i).gs=s.gs:=by unfold bE;split <;> rfl
theorem qS (s:ah) (i:Int):(bE s i).aD=s.aD:=by unfold bE;split <;> rfl
theorem Au (s:ah) (i:Int):(bE s i).ax.length=s.ax.length:=by unfold bE;split <;> simp [aF]
theorem sL (s:ah) (g:Nat) (i:Int):(Sx.pair s g i).gs.length=s.gs.length:=by simp [Sx.pair,ai]
theorem xq (s:ah) (g:Nat) (i wi ha:Int) (hg:g < s.gs.length) (hi:cV s i) (hb:Fit s) :
  Pure prog 108 [.agg (az s),.c (nI g),.c (nI i),.c (nI wi),.c (nI ha)] (.agg (az (taken s g i wi ha))):=by
 obtain ⟨eP,dz,de,gN⟩:=id hi;have hf:Few s:=hb.toAnd;refine aq.intro func108 rfl rfl rfl (fun ok e=>?_)
 cases h1:decide ((su s i).cs ≥ 0) with
 | true =>
  have er:taken s g i wi ha=aO (ai s g { aa s g with hold:=i }) g wi:=by unfold taken;rw [if_pos (by simpa using h1)]
  rw [er]
  repeat (first | (refine K.indexAddr ?_;refine jx rfl rfl rfl rfl (by omega) (fZ eP dz) ?_) | refine aI (cA s g { aa s g with hold:=i } hg hf.1) ?_ | refine aI (ei (ai s g { aa s g with hold:=i }) g wi (by rw [bQ];exact hg) (by rw [bQ];exact hf.1)) ?_ | refine av ?_ | intro _)
  exact aA func108
 | false =>
  have er:taken s g i wi ha=aO (Sx.pair (bE (ai s g { aa s g with hold:=i,t:=s.step }) i) g i) g ha:=by unfold taken;rw [if_neg (by simpa using h1)]
  have f1:Few (ai s g { aa s g with hold:=i,t:=s.step }):=hf.of (bQ _ _ _) rfl rfl;have k1:cV (ai s g { aa s g with hold:=i,t:=s.step }) i:=hi.of rfl (bQ _ _ _);have g1:g < (ai s g { aa s g with hold:=i,t:=s.step }).gs.length:=by rw [bQ];exact hg
  have C1:=cA s g { aa s g with hold:=i,t:=s.step } hg hf.1;have C2:=pW (ai s g { aa s g with hold:=i,t:=s.step }) i eP dz (Nat.le_trans (hb.rv (su s i).ch) (by omega)) (Nat.le_trans (hb.sd (su s i).ch) (by omega)) hf.2.1;rw [er];generalize ai s g { aa s g with hold:=i,t:=s.step }=s1 at *;have g2:g < (bE s1 i).gs.length:=by rw [fC];exact g1
  have C3:=EP (bE s1 i) g i g2 (k1.of (qS _ _) (by rw [fC])) (f1.of (by rw [fC]) (Au _ _) (by rw [qS]));have C4:=ei (Sx.pair (bE s1 i) g i) g ha (by rw [sL];exact g2) (by rw [sL,fC];exact f1.1)
  repeat (first | (refine K.indexAddr ?_;refine jx rfl rfl rfl rfl (by omega) (fZ eP dz) ?_) | refine av ?_ | intro _)
  exact aA func108
end Fl
open Go.RowKit
namespace Fl
open Sx Go.Proofs.Tryz
set_option maxRecDepth 100000
theorem Av (s:ah) (g:Nat) (back on:Int) (hg:g < s.gs.length) (hi:cV s (aa s g).hold) (hb:Fit s) :
  Pure prog 109 [.agg (az s),.c (nI g),.c (nI back),.c (nI on)] (.agg (az (cX s g back on))):=by
 obtain ⟨eP,dz,de,gN⟩:=id hi;have hf:Few s:=hb.toAnd;have Nh:=hi.gr;refine aq.intro func109 rfl rfl rfl (fun ok e=>?_)
 cases h1:(aa s (su s (aa s g).hold).g.toNat).bp with
 | true =>
  have er:cX s g back on=ai (bE s (aa s g).hold) g { aa s g with hold:=-1,place:=back }:=by unfold cX;simp only;rw [if_pos h1]
  have C1:=pW s (aa s g).hold eP dz (Nat.le_trans (hb.rv _) (by omega)) (Nat.le_trans (hb.sd _) (by omega)) hf.2.1;have C2:=cA (bE s (aa s g).hold) g { aa s g with hold:=-1,place:=back } (by rw [fC];exact hg) (by rw [fC];exact hf.1);rw [er]
  repeat (first | refine J.fI (congrArg (fun b=>some (D.c (bI b))) h1) ?_ | (refine K.indexAddr ?_;refine jx rfl rfl rfl rfl (by omega) (fZ eP dz) ?_) | refine av ?_ | intro _)
  exact aA func109
 | false =>
  have er:cX s g back on=aO (Sx.pair (ai (ai s g { aa s g with t:=s.step }) (su s (aa s g).hold).g.toNat { aa s (su s (aa s g).hold).g.toNat with bp:=true }) g (aa s g).hold) g on:=by unfold cX;simp only;rw [if_neg (by rw [h1];simp)]
  have C1:=cA s g { aa s g with t:=s.step } hg hf.1;have f1:Few (ai s g { aa s g with t:=s.step }):=hf.of (bQ _ _ _) rfl rfl;have k1:cV (ai s g { aa s g with t:=s.step }) (aa s g).hold:=hi.of rfl (bQ _ _ _);have g1:g < (ai s g { aa s g with t:=s.step }).gs.length:=by rw [bQ];exact hg
  have q1:(su s (aa s g).hold).g < (ai s g { aa s g with t:=s.step }).gs.length:=by rw [bQ];exact gN
  rw [er];generalize ai s g { aa s g with t:=s.step }=s1 at *;have C2:=ve s1 (su s (aa s g).hold).g { aa s (su s (aa s g).hold).g.toNat with bp:=true } de q1 f1.1;have f2:Few (ai s1 (su s (aa s g).hold).g.toNat { aa s (su s (aa s g).hold).g.toNat with bp:=true }):=f1.of (bQ _ _ _) rfl rfl;have k2:cV (ai s1 (su s (aa s g).hold).g.toNat { aa s (su s (aa s g).hold).g.toNat with bp:=true }) (aa s g).hold:=k1.of rfl (bQ _ _ _);have g2:g < (ai s1 (su s (aa s g).hold).g.toNat { aa s (su s (aa s g).hold).g.toNat with bp:=true }).gs.length:=by rw [bQ];exact g1
  generalize ai s1 (su s (aa s g).hold).g.toNat { aa s (su s (aa s g).hold).g.toNat with bp:=true }=s2 at *;have C3:=EP s2 g (aa s g).hold g2 k2 f2;have C4:=ei (Sx.pair s2 g (aa s g).hold) g on (by rw [sL];exact g2) (by rw [sL];exact f2.1)
  repeat (first | refine J.eW (congrArg (fun b=>some (D.c (bI b))) h1) ?_ | (refine K.indexAddr ?_;refine jx rfl rfl rfl rfl (by omega) (fZ eP dz) ?_) | refine av ?_ | intro _)
  refine J.draw (by kernel_rfl) rfl ?_;refine JW.base (some 7) ?_;refine tk 0 ?_;refine tk 1 ?_;refine tk 2 ?_;refine tk 4 ?_;refine tk 5 ?_;refine cI 3 (C1) ?_;refine cI 6 (C2) ?_;refine jt 7 rfl rfl (Ld.aT rfl rfl rfl (by exact rfl) (by exact rfl)) (fun _=>?_);refine bz ?_
  repeat (refine gn ?_)
  exact aA func109
theorem xu (s:ah) (g:Nat):(bw s g).1.gs=s.gs:=by unfold bw;split;split <;> rfl;rfl
theorem Aw (s:ah) (g:Nat):(bw s g).1.aD=s.aD:=by unfold bw;split;split <;> rfl;rfl
theorem Fh (s:ah) (g:Nat) (d:Su) (hg:g < s.gs.length) (hb:Few s) (hp:lQ s) (hc:g < s.cache.length) (hd:(bw s g).2.2=true→0≤(bw s g).2.1∧(bw s g).2.1 < s.aD.length) :
  Pure prog 116 [.agg (az s),.c (nI g),.agg (eS d)] (.agg (az (Sx.bq s g d))):=by
 have C1:=E2 s g hc hp;refine aq.intro func116 rfl rfl rfl (fun ok e=>?_);have g1:g < (bw s g).1.gs.length:=by rw [xu];exact hg
 have b1:(bw s g).1.gs.length≤100000:=by rw [xu];exact hb.1
 cases h1:(bw s g).2.2 with
 | true =>
  obtain ⟨d1,d2⟩:=hd h1;have er:Sx.bq s g d=ai (bg (bw s g).1 (bw s g).2.1 d) g { aa s g with bq:=(bw s g).2.1,place:=11 }:=by unfold Sx.bq;rw [if_pos h1]
  rw [er];rw [h1] at C1;have C2:=sH (bw s g).1 (bw s g).2.1 d d1 (by rw [Aw];exact d2) (by rw [Aw];exact hb.2.2);have C3:=cA (bg (bw s g).1 (bw s g).2.1 d) g { aa s g with bq:=(bw s g).2.1,place:=11 } g1 b1
  repeat (first | refine av ?_ | intro _)
  refine J.draw (by kernel_rfl) rfl ?_;refine JW.base (some 7) ?_;refine tk 0 ?_;refine tk 1 ?_;refine tk 2 ?_;refine tk 4 ?_;refine tk 5 ?_;refine cI 3 (C2) ?_;refine cI 6 (C3) ?_;refine jt 7 rfl rfl (Ld.aT rfl rfl rfl (by exact rfl) (by exact rfl)) (fun _=>?_);refine bz ?_
  repeat (fail)
  exact aA func116
 | false =>
  have er:Sx.bq s g d=ai (bw s g).1 g { aa s g with res:={ (aa s g).res with code:=6 },place:=16 }:=by unfold Sx.bq;rw [if_neg (by rw [h1];simp)]
  rw [er];rw [h1] at C1
  repeat (first | refine aI (cA (bw s g).1 g { aa s g with res:={ (aa s g).res with code:=6 },place:=16 } g1 b1) ?_ | refine av ?_ | intro _)
  exact aA func116
end Fl
open Go.RowKit
namespace Fl
open Sx Go.Proofs.Tryz
set_option maxRecDepth 100000
structure kU (s:ah) (g:Nat):Prop where
 co:sJ s g
 fit:Fit s
 l6:(aa s g).place=6→∀ i l,(cn s (ag s g).ch).recv=i :: l→cV s i
 l7:(aa s g).place=7→cV s (aa s g).hold
 l8:(aa s g).place=8→cV s (aa s g).hold
 Ax:(aa s g).place=10→lQ s∧g < s.cache.length∧((bw s g).2.2=true→0≤(bw s g).2.1∧(bw s g).2.1 < s.aD.length)
 vq:(aa s g).place=14→0≤(aa s g).param∧(aa s g).param < s.aD.length
theorem Ni (s:ah) (g:Nat) (h:kU s g) (hk:(ag s g).kind=2∨(ag s g).kind=4) (hc:(common s g).2=false) (hm:aM s (ag s g).ch=true) (e0:(aa s g).place=1) :
  Pure prog 84 [.agg (az s),.c (nI g)] (.aY [.agg (az (bJ s g).1),.c (bI (bJ s g).2)]):=by
 have hg:=h.co.lt;have hf:Few s:=h.fit.toAnd;have hb:=hf.1;have cW:=hf.2.1;have C0:=cU s g hg h.co.cL;have C1:=ep s g h.co;obtain ⟨k,ek,bZ⟩:∃ k,(ag s g).kind=k∧(k=2∨k=4):=⟨_,rfl,hk⟩
 have KN:∀ c,((ag s g).kind != c)=(k != c):=fun c=>by rw [ek]
 have KE:∀ c,((ag s g).kind == c)=(k == c):=fun c=>by rw [ek]
 have aV:¬ ((ag s g).kind≠2∧(ag s g).kind≠4):=by omega
 have bX:¬ (common s g).2=true:=by rw [hc];simp
 rw [hc] at C1;have CM:=dU s (ag s g).ch;have cu:¬ aM s (ag s g).ch=false:=by rw [hm];simp
 have hl:=dM hm;rw [hm] at CM;have aj:bJ s g=bJ s g:=rfl
 conv at aj=>rhs;unfold bJ;simp only;rw [if_neg aV,if_neg bX,if_neg cu]
 have P:∀ c,((aa s g).place == c)=((1:Int) == c):=fun c=>by rw [e0]
 refine aq.intro func84 rfl rfl rfl (fun ok e=>?_);rw [if_pos e0] at aj;have CR:=MM (cn s (ag s g).ch)
 cases hr:Sx.room (cn s (ag s g).ch) with
 | true =>
  rw [if_pos hr] at aj;rw [hr] at CR;rw [aj];rcases bZ with rfl | rfl
  all_goals
   repeat (first | refine aJ (KN _) ?_ | refine aJ (P _) ?_ | refine aI (ei s g 4 hg hb) ?_ | refine av ?_ | intro _)
   exact aA func84
 | false =>
  rw [if_neg (by rw [hr];simp)] at aj;rw [hr] at CR;rw [aj];rcases bZ with rfl | rfl
  all_goals
   repeat (first | refine aJ (KN _) ?_ | refine aJ (P _) ?_ | refine aI (hJ s g (aa s g).res 2 hg hb) ?_ | refine av ?_ | intro _)
   exact aA func84
theorem Nj (s:ah) (g:Nat) (h:kU s g) (hk:(ag s g).kind=2∨(ag s g).kind=4) (hc:(common s g).2=false) (hm:aM s (ag s g).ch=true) (e0:(aa s g).place=2) :
  Pure prog 84 [.agg (az s),.c (nI g)] (.aY [.agg (az (bJ s g).1),.c (bI (bJ s g).2)]):=by
 have hg:=h.co.lt;have hf:Few s:=h.fit.toAnd;have hb:=hf.1;have cW:=hf.2.1;have C0:=cU s g hg h.co.cL;have C1:=ep s g h.co;obtain ⟨k,ek,bZ⟩:∃ k,(ag s g).kind=k∧(k=2∨k=4):=⟨_,rfl,hk⟩
 have KN:∀ c,((ag s g).kind != c)=(k != c):=fun c=>by rw [ek]
 have KE:∀ c,((ag s g).kind == c)=(k == c):=fun c=>by rw [ek]
 have aV:¬ ((ag s g).kind≠2∧(ag s g).kind≠4):=by omega
 have bX:¬ (common s g).2=true:=by rw [hc];simp
 rw [hc] at C1;have CM:=dU s (ag s g).ch;have cu:¬ aM s (ag s g).ch=false:=by rw [hm];simp
 have hl:=dM hm;rw [hm] at CM;have aj:bJ s g=bJ s g:=rfl
 conv at aj=>rhs;unfold bJ;simp only;rw [if_neg aV,if_neg bX,if_neg cu]
 have P:∀ c,((aa s g).place == c)=((2:Int) == c):=fun c=>by rw [e0]
 refine aq.intro func84 rfl rfl rfl (fun ok e=>?_);rw [ay] at aj;rw [if_pos e0] at aj
 cases bU:(cn s (ag s g).ch).closed with
 | true =>
  rw [if_pos bU] at aj;rw [aj];rcases bZ with rfl | rfl
  all_goals
   repeat (first | refine J.fI (congrArg (fun b=>some (D.c (bI b))) bU) ?_ | refine aJ (KN _) ?_ | refine aJ (P _) ?_ | refine aI (cA s g { aa s g with cz:=0,place:=4 } hg hb) ?_ | refine av ?_ | intro _)
   exact aA func84
 | false =>
  rw [if_neg (by rw [bU];simp)] at aj;rw [aj];rcases bZ with rfl | rfl
  all_goals
   repeat (first | refine J.eW (congrArg (fun b=>some (D.c (bI b))) bU) ?_ | refine aJ (KN _) ?_ | refine aJ (P _) ?_ | refine aI (cA s g { aa s g with res:={ (aa s g).res with code:=2 },place:=18 } hg hb) ?_ | refine av ?_ | intro _)
   exact aA func84
theorem Nk (s:ah) (g:Nat) (h:kU s g) (hk:(ag s g).kind=2∨(ag s g).kind=4) (hc:(common s g).2=false) (hm:aM s (ag s g).ch=true) (e0:(aa s g).place=5) :
  Pure prog 84 [.agg (az s),.c (nI g)] (.aY [.agg (az (bJ s g).1),.c (bI (bJ s g).2)]):=by
 have hg:=h.co.lt;have hf:Few s:=h.fit.toAnd;have hb:=hf.1;have cW:=hf.2.1;have C0:=cU s g hg h.co.cL;have C1:=ep s g h.co;obtain ⟨k,ek,bZ⟩:∃ k,(ag s g).kind=k∧(k=2∨k=4):=⟨_,rfl,hk⟩
 have KN:∀ c,((ag s g).kind != c)=(k != c):=fun c=>by rw [ek]
 have KE:∀ c,((ag s g).kind == c)=(k == c):=fun c=>by rw [ek]
 have aV:¬ ((ag s g).kind≠2∧(ag s g).kind≠4):=by omega
 have bX:¬ (common s g).2=true:=by rw [hc];simp
 rw [hc] at C1;have CM:=dU s (ag s g).ch;have cu:¬ aM s (ag s g).ch=false:=by rw [hm];simp
 have hl:=dM hm;rw [hm] at CM;have aj:bJ s g=bJ s g:=rfl
 conv at aj=>rhs;unfold bJ;simp only;rw [if_neg aV,if_neg bX,if_neg cu]
 have P:∀ c,((aa s g).place == c)=((5:Int) == c):=fun c=>by rw [e0]
 refine aq.intro func84 rfl rfl rfl (fun ok e=>?_);rw [ay,ay] at aj;rw [if_pos e0] at aj
 cases bU:(cn s (ag s g).ch).closed with
 | true =>
  rw [if_pos bU] at aj;rw [aj];rcases bZ with rfl | rfl
  all_goals
   repeat (first | refine J.fI (congrArg (fun b=>some (D.c (bI b))) bU) ?_ | refine aJ (KN _) ?_ | refine aJ (P _) ?_ | refine aI (hJ s g (Sx.res 3) 16 hg hb) ?_ | refine av ?_ | intro _)
   exact aA func84
 | false =>
  rw [if_neg (by rw [bU];simp)] at aj;rw [aj];rcases bZ with rfl | rfl
  all_goals
   repeat (first | refine J.eW (congrArg (fun b=>some (D.c (bI b))) bU) ?_ | refine aJ (KN _) ?_ | refine aJ (P _) ?_ | refine aI (ei s g 6 hg hb) ?_ | refine av ?_ | intro _)
   exact aA func84
theorem Nl (s:ah) (g:Nat) (h:kU s g) (hk:(ag s g).kind=2∨(ag s g).kind=4) (hc:(common s g).2=false) (hm:aM s (ag s g).ch=true) (e0:(aa s g).place=6) :
  Pure prog 84 [.agg (az s),.c (nI g)] (.aY [.agg (az (bJ s g).1),.c (bI (bJ s g).2)]):=by
 have hg:=h.co.lt;have hf:Few s:=h.fit.toAnd;have hb:=hf.1;have cW:=hf.2.1;have C0:=cU s g hg h.co.cL;have C1:=ep s g h.co;obtain ⟨k,ek,bZ⟩:∃ k,(ag s g).kind=k∧(k=2∨k=4):=⟨_,rfl,hk⟩
 have KN:∀ c,((ag s g).kind != c)=(k != c):=fun c=>by rw [ek]
 have KE:∀ c,((ag s g).kind == c)=(k == c):=fun c=>by rw [ek]
 have aV:¬ ((ag s g).kind≠2∧(ag s g).kind≠4):=by omega
 have bX:¬ (common s g).2=true:=by rw [hc];simp
 rw [hc] at C1;have CM:=dU s (ag s g).ch;have cu:¬ aM s (ag s g).ch=false:=by rw [hm];simp
 have hl:=dM hm;rw [hm] at CM;have aj:bJ s g=bJ s g:=rfl
 conv at aj=>rhs;unfold bJ;simp only;rw [if_neg aV,if_neg bX,if_neg cu]
 have P:∀ c,((aa s g).place == c)=((6:Int) == c):=fun c=>by rw [e0]
 refine aq.intro func84 rfl rfl rfl (fun ok e=>?_);rw [ay,ay,ay] at aj;rw [if_pos e0] at aj
 cases iP:(cn s (ag s g).ch).recv with
 | nil =>
  have hz:(((cn s (ag s g).ch).recv.length:Int) == 0)=true:=by rw [iP];rfl
  rw [if_pos (by rw [iP];rfl)] at aj;rw [aj];rcases bZ with rfl | rfl
  all_goals
   repeat (first | refine aJ (KN _) ?_ | refine aJ (P _) ?_ | refine aI (ei s g 9 hg hb) ?_ | refine av ?_ | intro _)
   exact aA func84
 | cons a l =>
  have hz:(((cn s (ag s g).ch).recv.length:Int) == 0)=false:=by rw [iP];simp;omega
  have w0:((cn s (ag s g).ch).recv.map fun n=>[nI n])[(0:Int).toNat]?=some [nI a]:=by rw [iP];rfl
  rw [if_neg (by rw [iP];simp),iP] at aj;rw [aj];rcases bZ with rfl | rfl
  all_goals
   repeat (first | refine aJ (KN _) ?_ | refine aJ (P _) ?_ | refine av ?_ | intro _)
   refine J.draw (by kernel_rfl) rfl ?_;refine JW.base (some 7) ?_;refine tk 0 ?_;refine tk 1 ?_;refine tk 2 ?_;refine tk 3 ?_;refine JD.take 4 rfl rfl (by kernel_rfl) rfl (qb rfl) (Qt.cE rfl rfl (by omega) w0) rfl ?_;refine tk 5 ?_;refine cI 6 (xq s g a 7 8 hg (h.l6 e0 a l iP) h.fit) ?_;refine jt 7 rfl rfl (Ld.aT rfl rfl rfl (by exact rfl) (by exact rfl)) (fun _=>?_);refine JW.base none ?_;refine jk 8 rfl rfl rfl rfl (Qt.assign rfl) ?_;refine bP ?_
   repeat (fail)
   exact aA func84
theorem Nm (s:ah) (g:Nat) (h:kU s g) (hk:(ag s g).kind=2∨(ag s g).kind=4) (hc:(common s g).2=false) (hm:aM s (ag s g).ch=true) (e0:(aa s g).place=7) :
  Pure prog 84 [.agg (az s),.c (nI g)] (.aY [.agg (az (bJ s g).1),.c (bI (bJ s g).2)]):=by
 have hg:=h.co.lt;have hf:Few s:=h.fit.toAnd;have hb:=hf.1;have cW:=hf.2.1;have C0:=cU s g hg h.co.cL;have C1:=ep s g h.co;obtain ⟨k,ek,bZ⟩:∃ k,(ag s g).kind=k∧(k=2∨k=4):=⟨_,rfl,hk⟩
 have KN:∀ c,((ag s g).kind != c)=(k != c):=fun c=>by rw [ek]
 have KE:∀ c,((ag s g).kind == c)=(k == c):=fun c=>by rw [ek]
 have aV:¬ ((ag s g).kind≠2∧(ag s g).kind≠4):=by omega
 have bX:¬ (common s g).2=true:=by rw [hc];simp
 rw [hc] at C1;have CM:=dU s (ag s g).ch;have cu:¬ aM s (ag s g).ch=false:=by rw [hm];simp
 have hl:=dM hm;rw [hm] at CM;have aj:bJ s g=bJ s g:=rfl
 conv at aj=>rhs;unfold bJ;simp only;rw [if_neg aV,if_neg bX,if_neg cu]
 have P:∀ c,((aa s g).place == c)=((7:Int) == c):=fun c=>by rw [e0]
 refine aq.intro func84 rfl rfl rfl (fun ok e=>?_);rw [ay,ay,ay,ay] at aj;rw [if_pos e0] at aj;rw [aj];rcases bZ with rfl | rfl
 all_goals
  repeat (first | refine aJ (KN _) ?_ | refine aJ (P _) ?_ | refine aI (Av s g 6 8 hg (h.l7 e0) h.fit) ?_ | refine av ?_ | intro _)
  exact aA func84
theorem Nn (s:ah) (g:Nat) (h:kU s g) (hk:(ag s g).kind=2∨(ag s g).kind=4) (hc:(common s g).2=false) (hm:aM s (ag s g).ch=true) (e0:(aa s g).place=9) :
  Pure prog 84 [.agg (az s),.c (nI g)] (.aY [.agg (az (bJ s g).1),.c (bI (bJ s g).2)]):=by
 have hg:=h.co.lt;have hf:Few s:=h.fit.toAnd;have hb:=hf.1;have cW:=hf.2.1;have C0:=cU s g hg h.co.cL;have C1:=ep s g h.co;obtain ⟨k,ek,bZ⟩:∃ k,(ag s g).kind=k∧(k=2∨k=4):=⟨_,rfl,hk⟩
 have KN:∀ c,((ag s g).kind != c)=(k != c):=fun c=>by rw [ek]
 have KE:∀ c,((ag s g).kind == c)=(k == c):=fun c=>by rw [ek]
 have aV:¬ ((ag s g).kind≠2∧(ag s g).kind≠4):=by omega
 have bX:¬ (common s g).2=true:=by rw [hc];simp
 rw [hc] at C1;have CM:=dU s (ag s g).ch;have cu:¬ aM s (ag s g).ch=false:=by rw [hm];simp
 have hl:=dM hm;rw [hm] at CM;have aj:bJ s g=bJ s g:=rfl
 conv at aj=>rhs;unfold bJ;simp only;rw [if_neg aV,if_neg bX,if_neg cu]
 have P:∀ c,((aa s g).place == c)=((9:Int) == c):=fun c=>by rw [e0]
 refine aq.intro func84 rfl rfl rfl (fun ok e=>?_);rw [ay,ay,ay,ay,ay,ay] at aj;rw [if_pos e0] at aj;have CP:=Fc (cn s (ag s g).ch).buf (cn s (ag s g).ch).cap (ag s g).v (h.fit.bf _)
 cases hr:(gH (cn s (ag s g).ch).buf (cn s (ag s g).ch).cap (ag s g).v).2 with
 | true =>
  rw [if_pos hr] at aj;rw [hr] at CP;rw [aj];rcases bZ with rfl | rfl
  all_goals
   repeat (first | refine aJ (KN _) ?_ | refine aJ (P _) ?_ | refine aI (kT s (ag s g).ch { (cn s (ag s g).ch) with buf:=(gH (cn s (ag s g).ch).buf (cn s (ag s g).ch).cap (ag s g).v).1 } hm cW) ?_ | refine lp (xl) ?_ | refine aI (hJ (aF s (ag s g).ch { (cn s (ag s g).ch) with buf:=(gH (cn s (ag s g).ch).buf (cn s (ag s g).ch).cap (ag s g).v).1 }) g me 16 hg hb) ?_ | refine av ?_ | intro _)
   exact aA func84
 | false =>
  rw [if_neg (by rw [hr];simp)] at aj;rw [hr] at CP;rcases bZ with rfl | rfl
  ·rw [ay] at aj;rw [aj]
   repeat (first | refine aJ (KN _) ?_ | refine aJ (P _) ?_ | refine aJ (KE _) ?_ | refine aI (ei s g 10 hg hb) ?_ | refine av ?_ | intro _)
   exact aA func84
  ·rw [if_pos ek] at aj;rw [aj]
   repeat (first | refine aJ (KN _) ?_ | refine aJ (P _) ?_ | refine aJ (KE _) ?_ | refine aI (hJ s g (Sx.res 2) 16 hg hb) ?_ | refine av ?_ | intro _)
   exact aA func84
theorem No (s:ah) (g:Nat) (h:kU s g) (hk:(ag s g).kind=2∨(ag s g).kind=4) (hc:(common s g).2=false) (hm:aM s (ag s g).ch=true) (e0:(aa s g).place=10) :
  Pure prog 84 [.agg (az s),.c (nI g)] (.aY [.agg (az (bJ s g).1),.c (bI (bJ s g).2)]):=by
 have hg:=h.co.lt;have hf:Few s:=h.fit.toAnd;have hb:=hf.1;have cW:=hf.2.1;have C0:=cU s g hg h.co.cL;have C1:=ep s g h.co;obtain ⟨k,ek,bZ⟩:∃ k,(ag s g).kind=k∧(k=2∨k=4):=⟨_,rfl,hk⟩
 have KN:∀ c,((ag s g).kind != c)=(k != c):=fun c=>by rw [ek]
 have KE:∀ c,((ag s g).kind == c)=(k == c):=fun c=>by rw [ek]
 have aV:¬ ((ag s g).kind≠2∧(ag s g).kind≠4):=by omega
 have bX:¬ (common s g).2=true:=by rw [hc];simp
 rw [hc] at C1;have CM:=dU s (ag s g).ch;have cu:¬ aM s (ag s g).ch=false:=by rw [hm];simp
 have hl:=dM hm;rw [hm] at CM;have aj:bJ s g=bJ s g:=rfl
 conv at aj=>rhs;unfold bJ;simp only;rw [if_neg aV,if_neg bX,if_neg cu]
 have P:∀ c,((aa s g).place == c)=((10:Int) == c):=fun c=>by rw [e0]
 refine aq.intro func84 rfl rfl rfl (fun ok e=>?_);rw [ay,ay,ay,ay,ay,ay,ay] at aj;rw [if_pos e0] at aj;obtain ⟨f1,f2,f3⟩:=h.Ax e0;rw [aj];rcases bZ with rfl | rfl
 all_goals
  repeat (first | refine aJ (KN _) ?_ | refine aJ (P _) ?_ | refine aI (Fh s g ⟨true,g,(ag s g).ch,-1,true,(ag s g).v,false⟩ hg hf f1 f2 f3) ?_ | refine av ?_ | intro _)
  exact aA func84
theorem Np (s:ah) (g:Nat) (h:kU s g) (hk:(ag s g).kind=2∨(ag s g).kind=4) (hc:(common s g).2=false) (hm:aM s (ag s g).ch=true) (e0:(aa s g).place=11) :
  Pure prog 84 [.agg (az s),.c (nI g)] (.aY [.agg (az (bJ s g).1),.c (bI (bJ s g).2)]):=by
 have hg:=h.co.lt;have hf:Few s:=h.fit.toAnd;have hb:=hf.1;have cW:=hf.2.1;have C0:=cU s g hg h.co.cL;have C1:=ep s g h.co;obtain ⟨k,ek,bZ⟩:∃ k,(ag s g).kind=k∧(k=2∨k=4):=⟨_,rfl,hk⟩
 have KN:∀ c,((ag s g).kind != c)=(k != c):=fun c=>by rw [ek]
 have KE:∀ c,((ag s g).kind == c)=(k == c):=fun c=>by rw [ek]
 have aV:¬ ((ag s g).kind≠2∧(ag s g).kind≠4):=by omega
 have bX:¬ (common s g).2=true:=by rw [hc];simp
 rw [hc] at C1;have CM:=dU s (ag s g).ch;have cu:¬ aM s (ag s g).ch=false:=by rw [hm];simp
 have hl:=dM hm;rw [hm] at CM;have aj:bJ s g=bJ s g:=rfl
 conv at aj=>rhs;unfold bJ;simp only;rw [if_neg aV,if_neg bX,if_neg cu]
 have P:∀ c,((aa s g).place == c)=((11:Int) == c):=fun c=>by rw [e0]
 refine aq.intro func84 rfl rfl rfl (fun ok e=>?_);rw [ay,ay,ay,ay,ay,ay,ay,ay] at aj;rw [if_pos e0] at aj;rw [aj];have iK:=h.fit.sd (ag s g).ch;have C2:=kT s (ag s g).ch { (cn s (ag s g).ch) with send:=(cn s (ag s g).ch).send ++ [(aa s g).bq] } hm cW;have C3:=cA (aF s (ag s g).ch { (cn s (ag s g).ch) with send:=(cn s (ag s g).ch).send ++ [(aa s g).bq] }) g { aa s g with iF:=s.step,place:=12 } hg hb;rcases bZ with rfl | rfl
 all_goals
  repeat (first | refine aJ (KN _) ?_ | refine aJ (P _) ?_ | refine av ?_ | intro _)
  refine J.draw (by kernel_rfl) rfl ?_;refine JW.base (some 9) ?_;refine tk 1 ?_;refine tk 2 ?_;refine tk 4 ?_;refine tk 5 ?_;refine JD.cy (i:=0) (j:=6) (by kernel_rfl) ?_ ?_;refine JS.bt rfl rfl rfl (qb rfl) (Ld.fD (qb rfl)) .none (fun _=>?_);refine JD.cy (i:=3) (j:=6) (by kernel_rfl) ?_ ?_;refine JS.bt rfl rfl rfl (qb rfl) (Ld.bH (qb rfl) rfl rfl .read (by (simp;omega))) (by (exact .row (by repeat ((exact .refl))))) (fun _=>?_);refine jl 6 rfl rfl rfl rfl (Ld.dZ (qb rfl) rfl rfl rfl rfl rfl) .none (fun _=>?_);refine jl 7 rfl rfl rfl rfl (Ld.eB (qb rfl) rfl rfl .bV (by (simp;omega))) (by (exact .row (by repeat (first | exact .refl | refine .cons ?_)))) (fun _=>?_);refine jk 8 rfl rfl rfl rfl (Qt.fieldAddr rfl rfl) ?_;refine jt 9 rfl rfl (Ld.cr rfl rfl (by exact rfl)) (fun _=>?_);refine bz ?_
  rotate_left
  refine JS.bt rfl rfl rfl (qb rfl) (Ld.dZ (qb rfl) rfl rfl rfl rfl rfl) .none (fun _=>?_);refine jl 3 rfl rfl rfl rfl (Ld.bH (qb rfl) rfl rfl .read (by (simp;omega))) (by (exact .row (by repeat (first | exact .refl | refine .cons ?_)))) (fun _=>?_);refine jl 7 rfl rfl rfl rfl (Ld.eB (qb rfl) rfl rfl .bV (by (simp;omega))) (by (exact .row (by repeat (first | exact .refl | refine .cons ?_)))) (fun _=>?_);refine jk 8 rfl rfl rfl rfl (Qt.fieldAddr rfl rfl) ?_;refine jt 9 rfl rfl (Ld.cr rfl rfl (by exact rfl)) (fun _=>?_);refine bz ?_
  rotate_left
  refine JS.bt rfl rfl rfl (qb rfl) (Ld.dZ (qb rfl) rfl rfl rfl rfl rfl) .none (fun _=>?_);refine jl 0 rfl rfl rfl rfl (Ld.fD (qb rfl)) .none (fun _=>?_);refine jl 3 rfl rfl rfl rfl (Ld.bH (qb rfl) rfl rfl .read (by (simp;omega))) (by (exact .row (by repeat (first | exact .refl | refine .cons ?_)))) (fun _=>?_);refine jl 7 rfl rfl rfl rfl (Ld.eB (qb rfl) rfl rfl .bV (by (simp;omega))) (by (exact .row (by repeat (first | exact .refl | refine .cons ?_)))) (fun _=>?_);refine jk 8 rfl rfl rfl rfl (Qt.fieldAddr rfl rfl) ?_;refine jt 9 rfl rfl (Ld.cr rfl rfl (by exact rfl)) (fun _=>?_);refine bz ?_
  rotate_left
  all_goals
   repeat (refine gn ?_)
   refine J.draw (by kernel_rfl) rfl ?_;refine JW.base (some 8) ?_;refine tk 0 ?_;refine tk 1 ?_;refine tk 2 ?_;refine tk 3 ?_;refine tk 5 ?_;refine tk 6 ?_;refine jl 4 rfl rfl rfl rfl (Ld.pure (C2) (qb rfl) rfl (by repeat (first | exact br.nil | refine br.cons (c9.agg (by repeat (first | exact .nil | refine .cons .refl ?_ | refine .cons .snoc ?_))) ?_ | refine br.cons c9.refl ?_))) .none (fun _=>?_);refine cI 7 (C3) ?_;refine jt 8 rfl rfl (Ld.aT rfl rfl rfl (by exact rfl) (by exact rfl)) (fun _=>?_);refine JW.base none ?_;refine jk 9 rfl rfl rfl rfl (Qt.assign rfl) ?_;refine bP ?_
   repeat (fail)
   exact aA func84
theorem Nq (s:ah) (g:Nat) (h:kU s g) (hk:(ag s g).kind=2∨(ag s g).kind=4) (hc:(common s g).2=false) (hm:aM s (ag s g).ch=true) (e0:(aa s g).place=14) :
  Pure prog 84 [.agg (az s),.c (nI g)] (.aY [.agg (az (bJ s g).1),.c (bI (bJ s g).2)]):=by
 have hg:=h.co.lt;have hf:Few s:=h.fit.toAnd;have hb:=hf.1;have cW:=hf.2.1;have C0:=cU s g hg h.co.cL;have C1:=ep s g h.co;obtain ⟨k,ek,bZ⟩:∃ k,(ag s g).kind=k∧(k=2∨k=4):=⟨_,rfl,hk⟩
 have KN:∀ c,((ag s g).kind != c)=(k != c):=fun c=>by rw [ek]
 have KE:∀ c,((ag s g).kind == c)=(k == c):=fun c=>by rw [ek]
 have aV:¬ ((ag s g).kind≠2∧(ag s g).kind≠4):=by omega
 have bX:¬ (common s g).2=true:=by rw [hc];simp
 rw [hc] at C1;have CM:=dU s (ag s g).ch;have cu:¬ aM s (ag s g).ch=false:=by rw [hm];simp
 have hl:=dM hm;rw [hm] at CM;have aj:bJ s g=bJ s g:=rfl
 conv at aj=>rhs;unfold bJ;simp only;rw [if_neg aV,if_neg bX,if_neg cu]
 have P:∀ c,((aa s g).place == c)=((14:Int) == c):=fun c=>by rw [e0]
 refine aq.intro func84 rfl rfl rfl (fun ok e=>?_);rw [ay,ay,ay,ay,ay,ay,ay,ay,ay] at aj;rw [if_pos e0] at aj;obtain ⟨f1,f2⟩:=h.vq e0;rw [aj]
 cases hd:(su s (aa s g).param).done with
 | true =>
  rw [if_pos rfl];rcases bZ with rfl | rfl
  all_goals
   repeat (first | refine J.eW (congrArg (fun b=>some (D.c (bI (!b)))) hd) ?_ | (refine K.indexAddr ?_;refine jx rfl rfl rfl rfl (by omega) (fZ f1 f2) ?_) | refine aJ (KN _) ?_ | refine aJ (P _) ?_ | refine lp (xl) ?_ | refine aI (cA s g { aa s g with res:=me,param:=-1,place:=15 } hg hb) ?_ | refine av ?_ | intro _)
   exact aA func84
 | false =>
  rw [if_neg (by simp)];rcases bZ with rfl | rfl
  all_goals
   repeat (first | refine J.fI (congrArg (fun b=>some (D.c (bI (!b)))) hd) ?_ | (refine K.indexAddr ?_;refine jx rfl rfl rfl rfl (by omega) (fZ f1 f2) ?_) | refine aJ (KN _) ?_ | refine aJ (P _) ?_ | refine lp (xl) ?_ | refine aI (cA s g { aa s g with res:=Sx.res 3,param:=-1,place:=15 } hg hb) ?_ | refine av ?_ | intro _)
   exact aA func84
end Fl
end Go.Proofs.YtgjpdogjekmemaaGreat
