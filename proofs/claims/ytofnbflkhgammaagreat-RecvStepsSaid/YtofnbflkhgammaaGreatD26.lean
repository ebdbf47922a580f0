/-
  What the laws need, part D26.
  Conditions: none.
-/
import Derived.Test.YtofnbflkhgammaaGreatD25
set_option linter.unusedVariables false
set_option linter.unusedSimpArgs false
set_option linter.unnecessarySimpa false
set_option maxHeartbeats 2000000
namespace Go.Proofs.YtofnbflkhgammaaGreat
open Go.RowKit
namespace Fl
open Sx Go.Proofs.Tryz
set_option maxRecDepth 100000
theorem NU (l:List Int) (r v:Int) (hb:l.length≤50000) :
  Pure prog 160 [.c (ints l),.c (nI r),.c (nI v)] (.aZ [.c (ints (fo l r v).1),.c (bI (fo l r v).2)]):=by
 refine ax.intro func160 rfl rfl rfl (fun ok e=>?_)
 cases h1:decide ((l.length:Int) ≥ r) with
 | true =>
  have e1:fo l r v=(l,false):=by unfold fo;rw [if_pos (by simpa using h1)]
  rw [e1]
  repeat (refine gn ?_)
  exact aA func160
 | false =>
  have e1:fo l r v=(l ++ [v],true):=by unfold fo;rw [if_neg (by simpa using h1)]
  rw [e1]
  repeat (first | (refine K.bi ?_;first | refine JO.ld (Ld.cA (qb rfl) rfl rfl .read (by first | (simp;omega) | simp)) rfl (fun _=>?_) | refine JO.ld (Ld.cA (qb rfl) rfl rfl .cY (by (simp;omega))) rfl (fun _=>?_)) | refine av ?_ | intro _)
  refine J.jY 6 rfl ?_;exact J.ret func160 rfl (.cons (.tmp rfl) (.cons (.tmp rfl) .nil)) () (by (exact .aZ (by repeat (first | exact .nil | refine .cons .refl ?_ | refine .cons (.c .snoc) ?_)))) [] .nil rfl rfl
theorem NV {a:Int} {l:List Int}:((((a :: l).map fun n=>[nI n]).take ((((a :: l).map fun n=>[nI n]).length:Int)).toNat).drop (1:Int).toNat)=l.map fun n=>[nI n]:=by
 simp;exact List.take_of_length_le (by simp)
theorem NW (l:List Int) (hb:l.length≤50000) :
  Pure prog 171 [.c (ints l)] (.aZ [.c (ints (gN l).1),.c (nI (gN l).2.1),.c (bI (gN l).2.2)]):=by
 refine ax.intro func171 rfl rfl rfl (fun ok e=>?_)
 cases l with
 | nil =>
  repeat (refine gn ?_)
  exact aA func171
 | cons a l =>
  have h1:(((a :: l).length:Int) == 0)=false:=by simp;omega
  have e1:gN (a :: l)=(l,a,true):=by unfold gN;rw [if_neg (by simp)];rfl
  have hl:l.length≤50000:=by simp at hb;omega
  have w2:(1:Int)≤(((a :: l).map fun n=>[nI n]).length:Int):=by simp;omega
  rw [e1]
  repeat (refine gn ?_)
  refine J.draw (by kernel_rfl) rfl ?_;refine JW.base none ?_;refine tk 1 ?_;refine JD.take 2 rfl rfl (by kernel_rfl) rfl (qb rfl) ((Qt.qu rfl rfl rfl (by omega) (by omega) (by omega)).eq (congrArg (fun z=>D.c (A.r 1 z)) NV)) rfl ?_;refine tk 4 ?_;refine JD.take 5 rfl rfl (by kernel_rfl) rfl (qb rfl) (Qt.bw rfl rfl (by omega) (show ((a :: l).map fun n=>[nI n])[(0:Int).toNat]?=some [nI a] from rfl)) rfl ?_;refine tk 6 ?_;refine jl 0 rfl rfl rfl rfl (Ld.ia (qb rfl)) .none (fun _=>?_);refine jl 3 rfl rfl rfl rfl (Ld.fz (qb rfl) rfl rfl .read (by (simp;omega))) (by (exact .row (by repeat ((exact .refl))))) (fun _=>?_);refine jk 7 rfl rfl rfl rfl (Qt.assign rfl) ?_;refine jk 8 rfl rfl rfl rfl (Qt.assign rfl) ?_;refine jk 9 rfl rfl rfl rfl (Qt.assign rfl) ?_;refine bt ?_
  repeat (fail)
  exact aA func171
theorem Xw (l:List Int) (r v:Int) (hb:l.length≤50000) :
  Pure prog 173 [.c (ints l),.c (nI r),.c (nI v)] (.aZ [.c (ints (iy l r v).1),.c (nI (iy l r v).2.1),.c (bI (iy l r v).2.2)]):=by
 refine ax.intro func173 rfl rfl rfl (fun ok e=>?_)
 cases h1:decide ((l.length:Int) < r) with
 | true =>
  have e1:iy l r v=(l,0,false):=by unfold iy;rw [if_pos (.inl (by simpa using h1))]
  rw [e1]
  repeat (refine gn ?_)
  exact aA func173
 | false =>
  cases l with
  | nil =>
   have e1:iy [] r v=([],0,false):=by unfold iy;rw [if_pos (.inr rfl)]
   rw [e1]
   repeat (refine gn ?_)
   exact aA func173
  | cons a l =>
   have h2:(((a :: l).length:Int) == 0)=false:=by simp;omega
   have e1:iy (a :: l) r v=(l ++ [v],a,true):=by unfold iy;rw [if_neg (by simp at h1 ⊢;omega)];rfl
   have hl:l.length≤50000:=by simp at hb;omega
   have w2:(1:Int)≤(((a :: l).map fun n=>[nI n]).length:Int):=by simp;omega
   rw [e1]
   repeat (refine gn ?_)
   refine J.draw (by kernel_rfl) rfl ?_;refine JW.base none ?_;refine tk 1 ?_;refine JD.take 2 rfl rfl (by kernel_rfl) rfl (qb rfl) ((Qt.qu rfl rfl rfl (by omega) (by omega) (by omega)).eq (congrArg (fun z=>D.c (A.r 1 z)) NV)) rfl ?_;refine tk 4 ?_;refine tk 7 ?_;refine JD.take 8 rfl rfl (by kernel_rfl) rfl (qb rfl) (Qt.bw rfl rfl (by omega) (show ((a :: l).map fun n=>[nI n])[(0:Int).toNat]?=some [nI a] from rfl)) rfl ?_;refine tk 9 ?_;refine JD.cU (i:=0) (j:=5) (by kernel_rfl) ?_ ?_;refine JS.cz rfl rfl rfl (qb rfl) (Ld.ia (qb rfl)) .none (fun _=>?_);refine JD.cU (i:=3) (j:=5) (by kernel_rfl) ?_ ?_;refine JS.cz rfl rfl rfl (qb rfl) (Ld.cA (qb rfl) rfl rfl .read (by (simp;omega))) (by (exact .row (by repeat ((exact .refl))))) (fun _=>?_);refine jl 5 rfl rfl rfl rfl (Ld.fJ (qb rfl) rfl rfl rfl rfl rfl) .none (fun _=>?_);refine jl 6 rfl rfl rfl rfl (Ld.fz (qb rfl) rfl rfl .cY (by (simp;omega))) (by (exact .row (by repeat (first | exact .refl | refine .cons ?_)))) (fun _=>?_);refine jk 10 rfl rfl rfl rfl (Qt.assign rfl) ?_;refine jk 11 rfl rfl rfl rfl (Qt.assign rfl) ?_;refine jk 12 rfl rfl rfl rfl (Qt.assign rfl) ?_;refine bt ?_
   rotate_left
   refine JS.cz rfl rfl rfl (qb rfl) (Ld.fJ (qb rfl) rfl rfl rfl rfl rfl) .none (fun _=>?_);refine jl 3 rfl rfl rfl rfl (Ld.cA (qb rfl) rfl rfl .read (by (simp;omega))) (by (exact .row (by repeat (first | exact .refl | refine .cons ?_)))) (fun _=>?_);refine jl 6 rfl rfl rfl rfl (Ld.fz (qb rfl) rfl rfl .cY (by (simp;omega))) (by (exact .row (by repeat (first | exact .refl | refine .cons ?_)))) (fun _=>?_);refine jk 10 rfl rfl rfl rfl (Qt.assign rfl) ?_;refine jk 11 rfl rfl rfl rfl (Qt.assign rfl) ?_;refine jk 12 rfl rfl rfl rfl (Qt.assign rfl) ?_;refine bt ?_
   rotate_left
   refine JS.cz rfl rfl rfl (qb rfl) (Ld.fJ (qb rfl) rfl rfl rfl rfl rfl) .none (fun _=>?_);refine jl 0 rfl rfl rfl rfl (Ld.ia (qb rfl)) .none (fun _=>?_);refine jl 3 rfl rfl rfl rfl (Ld.cA (qb rfl) rfl rfl .read (by (simp;omega))) (by (exact .row (by repeat (first | exact .refl | refine .cons ?_)))) (fun _=>?_);refine jl 6 rfl rfl rfl rfl (Ld.fz (qb rfl) rfl rfl .cY (by (simp;omega))) (by (exact .row (by repeat (first | exact .refl | refine .cons ?_)))) (fun _=>?_);refine jk 10 rfl rfl rfl rfl (Qt.assign rfl) ?_;refine jk 11 rfl rfl rfl rfl (Qt.assign rfl) ?_;refine jk 12 rfl rfl rfl rfl (Qt.assign rfl) ?_;refine bt ?_
   rotate_left
   all_goals
    repeat (fail)
    exact J.ret func173 rfl (.cons (.tmp rfl) (.cons (.tmp rfl) (.cons (.tmp rfl) .nil))) () (by (exact .aZ (by repeat (first | exact .nil | refine .cons .refl ?_ | refine .cons (.c .snoc) ?_)))) [] .nil rfl rfl
theorem dz.of {s s':ah} {i:Int} (h:dz s i) (e1:s'.aC=s.aC) (e2:s'.gs.length=s.gs.length):dz s' i:=by
 obtain ⟨a,b,c,d⟩:=h;have e3:su s' i=su s i:=by unfold su;rw [e1]
 exact ⟨a,by rw [e1];exact b,by rw [e3];exact c,by rw [e3,e2];exact d⟩
theorem Few.of {s s':ah} (h:Few s) (e1:s'.gs.length=s.gs.length) (e2:s'.au.length=s.au.length) (e3:s'.aC.length=s.aC.length):Few s':=⟨by rw [e1];exact h.1,by rw [e2];exact h.2.1,by rw [e3];exact h.2.2⟩
theorem fX (s:ah) (i:Int):(bq s i).gs=s.gs:=by unfold bq;split <;> rfl
theorem vJ (s:ah) (i:Int):(bq s i).aC=s.aC:=by unfold bq;split <;> rfl
theorem GY (s:ah) (i:Int):(bq s i).au.length=s.au.length:=by unfold bq;split <;> simp [aE]
theorem xJ (s:ah) (g:Nat) (i:Int):(Sx.pair s g i).gs.length=s.gs.length:=by simp [Sx.pair,ai]
theorem xK (s:ah) (g:Nat) (i wi ha:Int) (hg:g < s.gs.length) (hi:dz s i) (hb:Fit s) :
  Pure prog 112 [.agg (az s),.c (nI g),.c (nI i),.c (nI wi),.c (nI ha)] (.agg (az (taken s g i wi ha))):=by
 obtain ⟨gq,dR,dx,iw⟩:=id hi;have hf:Few s:=hb.toAnd;refine ax.intro func112 rfl rfl rfl (fun ok e=>?_)
 cases h1:decide ((su s i).cs ≥ 0) with
 | true =>
  have er:taken s g i wi ha=Sx.aI (ai s g { aa s g with hold:=i }) g wi:=by unfold taken;rw [if_pos (by simpa using h1)]
  rw [er]
  repeat (first | (refine K.indexAddr ?_;refine jx rfl rfl rfl rfl (by omega) (iu gq dR) ?_) | refine aO (cP s g { aa s g with hold:=i } hg hf.1) ?_ | refine aO (fM (ai s g { aa s g with hold:=i }) g wi (by rw [cr];exact hg) (by rw [cr];exact hf.1)) ?_ | refine av ?_ | intro _)
  exact aA func112
 | false =>
  have er:taken s g i wi ha=Sx.aI (Sx.pair (bq (ai s g { aa s g with hold:=i,t:=s.step }) i) g i) g ha:=by unfold taken;rw [if_neg (by simpa using h1)]
  have f1:Few (ai s g { aa s g with hold:=i,t:=s.step }):=hf.of (cr _ _ _) rfl rfl;have k1:dz (ai s g { aa s g with hold:=i,t:=s.step }) i:=hi.of rfl (cr _ _ _);have g1:g < (ai s g { aa s g with hold:=i,t:=s.step }).gs.length:=by rw [cr];exact hg
  have C1:=cP s g { aa s g with hold:=i,t:=s.step } hg hf.1;have C2:=ue (ai s g { aa s g with hold:=i,t:=s.step }) i gq dR (Nat.le_trans (hb.rv (su s i).ch) (by omega)) (Nat.le_trans (hb.sd (su s i).ch) (by omega)) hf.2.1;rw [er];generalize ai s g { aa s g with hold:=i,t:=s.step }=s1 at *;have g2:g < (bq s1 i).gs.length:=by rw [fX];exact g1
  have C3:=NB (bq s1 i) g i g2 (k1.of (vJ _ _) (by rw [fX])) (f1.of (by rw [fX]) (GY _ _) (by rw [vJ]));have C4:=fM (Sx.pair (bq s1 i) g i) g ha (by rw [xJ];exact g2) (by rw [xJ,fX];exact f1.1)
  repeat (first | (refine K.indexAddr ?_;refine jx rfl rfl rfl rfl (by omega) (iu gq dR) ?_) | refine av ?_ | intro _)
  exact aA func112
end Fl
open Go.RowKit
namespace Fl
open Sx Go.Proofs.Tryz
set_option maxRecDepth 100000
theorem GZ (s:ah) (g:Nat) (back on:Int) (hg:g < s.gs.length) (hi:dz s (aa s g).hold) (hb:Fit s) :
  Pure prog 158 [.agg (az s),.c (nI g),.c (nI back),.c (nI on)] (.agg (az (cQ s g back on))):=by
 obtain ⟨gq,dR,dx,iw⟩:=id hi;have hf:Few s:=hb.toAnd;have Xx:=hi.gr;refine ax.intro func158 rfl rfl rfl (fun ok e=>?_)
 cases h1:(aa s (su s (aa s g).hold).g.toNat).bz with
 | true =>
  have er:cQ s g back on=ai (bq s (aa s g).hold) g { aa s g with hold:=-1,place:=back }:=by unfold cQ;simp only;rw [if_pos h1]
  have C1:=ue s (aa s g).hold gq dR (Nat.le_trans (hb.rv _) (by omega)) (Nat.le_trans (hb.sd _) (by omega)) hf.2.1;have C2:=cP (bq s (aa s g).hold) g { aa s g with hold:=-1,place:=back } (by rw [fX];exact hg) (by rw [fX];exact hf.1);rw [er]
  repeat (first | refine J.gZ (congrArg (fun b=>some (D.c (bI b))) h1) ?_ | (refine K.indexAddr ?_;refine jx rfl rfl rfl rfl (by omega) (iu gq dR) ?_) | refine av ?_ | intro _)
  exact aA func158
 | false =>
  have er:cQ s g back on=Sx.aI (Sx.pair (ai (ai s g { aa s g with t:=s.step }) (su s (aa s g).hold).g.toNat { aa s (su s (aa s g).hold).g.toNat with bz:=true }) g (aa s g).hold) g on:=by unfold cQ;simp only;rw [if_neg (by rw [h1];simp)]
  have C1:=cP s g { aa s g with t:=s.step } hg hf.1;have f1:Few (ai s g { aa s g with t:=s.step }):=hf.of (cr _ _ _) rfl rfl;have k1:dz (ai s g { aa s g with t:=s.step }) (aa s g).hold:=hi.of rfl (cr _ _ _);have g1:g < (ai s g { aa s g with t:=s.step }).gs.length:=by rw [cr];exact hg
  have q1:(su s (aa s g).hold).g < (ai s g { aa s g with t:=s.step }).gs.length:=by rw [cr];exact iw
  rw [er];generalize ai s g { aa s g with t:=s.step }=s1 at *;have C2:=An s1 (su s (aa s g).hold).g { aa s (su s (aa s g).hold).g.toNat with bz:=true } dx q1 f1.1;have f2:Few (ai s1 (su s (aa s g).hold).g.toNat { aa s (su s (aa s g).hold).g.toNat with bz:=true }):=f1.of (cr _ _ _) rfl rfl;have k2:dz (ai s1 (su s (aa s g).hold).g.toNat { aa s (su s (aa s g).hold).g.toNat with bz:=true }) (aa s g).hold:=k1.of rfl (cr _ _ _);have g2:g < (ai s1 (su s (aa s g).hold).g.toNat { aa s (su s (aa s g).hold).g.toNat with bz:=true }).gs.length:=by rw [cr];exact g1
  generalize ai s1 (su s (aa s g).hold).g.toNat { aa s (su s (aa s g).hold).g.toNat with bz:=true }=s2 at *;have C3:=NB s2 g (aa s g).hold g2 k2 f2;have C4:=fM (Sx.pair s2 g (aa s g).hold) g on (by rw [xJ];exact g2) (by rw [xJ];exact f2.1)
  repeat (first | refine J.gw (congrArg (fun b=>some (D.c (bI b))) h1) ?_ | (refine K.indexAddr ?_;refine jx rfl rfl rfl rfl (by omega) (iu gq dR) ?_) | refine av ?_ | intro _)
  refine J.draw (by kernel_rfl) rfl ?_;refine JW.base (some 7) ?_;refine tk 0 ?_;refine tk 1 ?_;refine tk 2 ?_;refine tk 4 ?_;refine tk 5 ?_;refine cW 3 (C1) ?_;refine cW 6 (C2) ?_;refine jt 7 rfl rfl (Ld.aX rfl rfl rfl (by exact rfl) (by exact rfl)) (fun _=>?_);refine bS ?_
  repeat (refine gn ?_)
  exact aA func158
theorem qc (s:ah) (g:Nat):(aS s g).1.gs=s.gs:=by unfold aS;split;split <;> rfl;rfl
theorem G0 (s:ah) (g:Nat):(aS s g).1.aC=s.aC:=by unfold aS;split;split <;> rfl;rfl
theorem NX (s:ah) (g:Nat) (d:Su) (hg:g < s.gs.length) (hb:Few s) (hp:oN s) (hc:g < s.cache.length) (hd:(aS s g).2.2=true→0≤(aS s g).2.1∧(aS s g).2.1 < s.aC.length) :
  Pure prog 161 [.agg (az s),.c (nI g),.agg (eS d)] (.agg (az (Sx.aH s g d))):=by
 have C1:=NS s g hc hp;refine ax.intro func161 rfl rfl rfl (fun ok e=>?_);have g1:g < (aS s g).1.gs.length:=by rw [qc];exact hg
 have b1:(aS s g).1.gs.length≤100000:=by rw [qc];exact hb.1
 cases h1:(aS s g).2.2 with
 | true =>
  obtain ⟨d1,d2⟩:=hd h1;have er:Sx.aH s g d=ai (aR (aS s g).1 (aS s g).2.1 d) g { aa s g with aH:=(aS s g).2.1,place:=11 }:=by unfold Sx.aH;rw [if_pos h1]
  rw [er];rw [h1] at C1;have C2:=w8 (aS s g).1 (aS s g).2.1 d d1 (by rw [G0];exact d2) (by rw [G0];exact hb.2.2);have C3:=cP (aR (aS s g).1 (aS s g).2.1 d) g { aa s g with aH:=(aS s g).2.1,place:=11 } g1 b1
  repeat (first | refine av ?_ | intro _)
  refine J.draw (by kernel_rfl) rfl ?_;refine JW.base (some 7) ?_;refine tk 0 ?_;refine tk 1 ?_;refine tk 2 ?_;refine tk 4 ?_;refine tk 5 ?_;refine cW 3 (C2) ?_;refine cW 6 (C3) ?_;refine jt 7 rfl rfl (Ld.aX rfl rfl rfl (by exact rfl) (by exact rfl)) (fun _=>?_);refine bS ?_
  repeat (fail)
  exact aA func161
 | false =>
  have er:Sx.aH s g d=ai (aS s g).1 g { aa s g with res:={ (aa s g).res with code:=6 },place:=16 }:=by unfold Sx.aH;rw [if_neg (by rw [h1];simp)]
  rw [er];rw [h1] at C1
  repeat (first | refine aO (cP (aS s g).1 g { aa s g with res:={ (aa s g).res with code:=6 },place:=16 } g1 b1) ?_ | refine av ?_ | intro _)
  exact aA func161
end Fl
end Go.Proofs.YtofnbflkhgammaaGreat
