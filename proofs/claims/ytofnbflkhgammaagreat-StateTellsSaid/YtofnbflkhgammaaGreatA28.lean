/-
  What the laws need, part A28.
  Conditions: none.
-/
import Derived.Test.YtofnbflkhgammaaGreatA27
set_option linter.unusedVariables false
set_option linter.unusedSimpArgs false
set_option linter.unnecessarySimpa false
set_option maxHeartbeats 2000000
namespace Go.Proofs.YtofnbflkhgammaaGreat
open Go.RowKit
namespace Fl
open Sx
set_option maxRecDepth 100000
theorem MC (l:List Int) (r v:Int) (hb:l.length≤50000) :
  Pure Tryz.prog 160 [.c (ints l),.c (nI r),.c (nI v)] (.aV [.c (ints (iE l r v).1),.c (bI (iE l r v).2)]):=by
 refine aq.intro Tryz.func160 rfl rfl rfl (fun ok e=>?_)
 cases h1:decide ((l.length:Int) ≥ r) with
 | true =>
  have e1:iE l r v=(l,false):=by unfold iE;rw [if_pos (by simpa using h1)]
  rw [e1]
  repeat (refine gn ?_)
  exact az Tryz.func160
 | false =>
  have e1:iE l r v=(l ++ [v],true):=by unfold iE;rw [if_neg (by simpa using h1)]
  rw [e1]
  repeat (first | (refine K.bi ?_;first | refine JO.ld (Ld.bY (qb rfl) rfl rfl .read (by first | (simp;omega) | simp)) rfl (fun _=>?_) | refine JO.ld (Ld.bY (qb rfl) rfl rfl .cR (by (simp;omega))) rfl (fun _=>?_)) | refine au ?_ | intro _)
  refine J.jE 6 rfl ?_;exact J.ret Tryz.func160 rfl (.cons (.tmp rfl) (.cons (.tmp rfl) .nil)) () (by (exact .aV (by repeat (first | exact .nil | refine .cons .refl ?_ | refine .cons (.c .snoc) ?_)))) [] .nil rfl rfl
theorem MD {a:Int} {l:List Int}:((((a :: l).map fun n=>[nI n]).take ((((a :: l).map fun n=>[nI n]).length:Int)).toNat).drop (1:Int).toNat)=l.map fun n=>[nI n]:=by
 simp;exact List.take_of_length_le (by simp)
theorem ME (l:List Int) (hb:l.length≤50000) :
  Pure Tryz.prog 171 [.c (ints l)] (.aV [.c (ints (gF l).1),.c (nI (gF l).2.1),.c (bI (gF l).2.2)]):=by
 refine aq.intro Tryz.func171 rfl rfl rfl (fun ok e=>?_)
 cases l with
 | nil =>
  repeat (refine gn ?_)
  exact az Tryz.func171
 | cons a l =>
  have h1:(((a :: l).length:Int) == 0)=false:=by simp;omega
  have e1:gF (a :: l)=(l,a,true):=by unfold gF;rw [if_neg (by simp)];rfl
  have hl:l.length≤50000:=by simp at hb;omega
  have w2:(1:Int)≤(((a :: l).map fun n=>[nI n]).length:Int):=by simp;omega
  rw [e1]
  repeat (refine gn ?_)
  refine J.draw (by kernel_rfl) rfl ?_;refine JW.base none ?_;refine tk 1 ?_;refine JD.take 2 rfl rfl (by kernel_rfl) rfl (qb rfl) ((Qt.pK rfl rfl rfl (by omega) (by omega) (by omega)).eq (congrArg (fun z=>D.c (A.r 1 z)) MD)) rfl ?_;refine tk 4 ?_;refine JD.take 5 rfl rfl (by kernel_rfl) rfl (qb rfl) (Qt.cq rfl rfl (by omega) (show ((a :: l).map fun n=>[nI n])[(0:Int).toNat]?=some [nI a] from rfl)) rfl ?_;refine tk 6 ?_;refine jl 0 rfl rfl rfl rfl (Ld.gL (qb rfl)) .none (fun _=>?_);refine jl 3 rfl rfl rfl rfl (Ld.fK (qb rfl) rfl rfl .read (by (simp;omega))) (by (exact .row (by repeat ((exact .refl))))) (fun _=>?_);refine jk 7 rfl rfl rfl rfl (Qt.assign rfl) ?_;refine jk 8 rfl rfl rfl rfl (Qt.assign rfl) ?_;refine jk 9 rfl rfl rfl rfl (Qt.assign rfl) ?_;refine bH ?_
  repeat (fail)
  exact az Tryz.func171
theorem W7 (l:List Int) (r v:Int) (hb:l.length≤50000) :
  Pure Tryz.prog 173 [.c (ints l),.c (nI r),.c (nI v)] (.aV [.c (ints (gQ l r v).1),.c (nI (gQ l r v).2.1),.c (bI (gQ l r v).2.2)]):=by
 refine aq.intro Tryz.func173 rfl rfl rfl (fun ok e=>?_)
 cases h1:decide ((l.length:Int) < r) with
 | true =>
  have e1:gQ l r v=(l,0,false):=by unfold gQ;rw [if_pos (.inl (by simpa using h1))]
  rw [e1]
  repeat (refine gn ?_)
  exact az Tryz.func173
 | false =>
  cases l with
  | nil =>
   have e1:gQ [] r v=([],0,false):=by unfold gQ;rw [if_pos (.inr rfl)]
   rw [e1]
   repeat (refine gn ?_)
   exact az Tryz.func173
  | cons a l =>
   have h2:(((a :: l).length:Int) == 0)=false:=by simp;omega
   have e1:gQ (a :: l) r v=(l ++ [v],a,true):=by unfold gQ;rw [if_neg (by simp at h1 ⊢;omega)];rfl
   have hl:l.length≤50000:=by simp at hb;omega
   have w2:(1:Int)≤(((a :: l).map fun n=>[nI n]).length:Int):=by simp;omega
   rw [e1]
   repeat (refine gn ?_)
   refine J.draw (by kernel_rfl) rfl ?_;refine JW.base none ?_;refine tk 1 ?_;refine JD.take 2 rfl rfl (by kernel_rfl) rfl (qb rfl) ((Qt.pK rfl rfl rfl (by omega) (by omega) (by omega)).eq (congrArg (fun z=>D.c (A.r 1 z)) MD)) rfl ?_;refine tk 4 ?_;refine tk 7 ?_;refine JD.take 8 rfl rfl (by kernel_rfl) rfl (qb rfl) (Qt.cq rfl rfl (by omega) (show ((a :: l).map fun n=>[nI n])[(0:Int).toNat]?=some [nI a] from rfl)) rfl ?_;refine tk 9 ?_;refine JD.cB (i:=0) (j:=5) (by kernel_rfl) ?_ ?_;refine JS.bp rfl rfl rfl (qb rfl) (Ld.gL (qb rfl)) .none (fun _=>?_);refine JD.cB (i:=3) (j:=5) (by kernel_rfl) ?_ ?_;refine JS.bp rfl rfl rfl (qb rfl) (Ld.bY (qb rfl) rfl rfl .read (by (simp;omega))) (by (exact .row (by repeat ((exact .refl))))) (fun _=>?_);refine jl 5 rfl rfl rfl rfl (Ld.ff (qb rfl) rfl rfl rfl rfl rfl) .none (fun _=>?_);refine jl 6 rfl rfl rfl rfl (Ld.fK (qb rfl) rfl rfl .cR (by (simp;omega))) (by (exact .row (by repeat (first | exact .refl | refine .cons ?_)))) (fun _=>?_);refine jk 10 rfl rfl rfl rfl (Qt.assign rfl) ?_;refine jk 11 rfl rfl rfl rfl (Qt.assign rfl) ?_;refine jk 12 rfl rfl rfl rfl (Qt.assign rfl) ?_;refine bH ?_
   rotate_left
   refine JS.bp rfl rfl rfl (qb rfl) (Ld.ff (qb rfl) rfl rfl rfl rfl rfl) .none (fun _=>?_);refine jl 3 rfl rfl rfl rfl (Ld.bY (qb rfl) rfl rfl .read (by (simp;omega))) (by (exact .row (by repeat (first | exact .refl | refine .cons ?_)))) (fun _=>?_);refine jl 6 rfl rfl rfl rfl (Ld.fK (qb rfl) rfl rfl .cR (by (simp;omega))) (by (exact .row (by repeat (first | exact .refl | refine .cons ?_)))) (fun _=>?_);refine jk 10 rfl rfl rfl rfl (Qt.assign rfl) ?_;refine jk 11 rfl rfl rfl rfl (Qt.assign rfl) ?_;refine jk 12 rfl rfl rfl rfl (Qt.assign rfl) ?_;refine bH ?_
   rotate_left
   refine JS.bp rfl rfl rfl (qb rfl) (Ld.ff (qb rfl) rfl rfl rfl rfl rfl) .none (fun _=>?_);refine jl 0 rfl rfl rfl rfl (Ld.gL (qb rfl)) .none (fun _=>?_);refine jl 3 rfl rfl rfl rfl (Ld.bY (qb rfl) rfl rfl .read (by (simp;omega))) (by (exact .row (by repeat (first | exact .refl | refine .cons ?_)))) (fun _=>?_);refine jl 6 rfl rfl rfl rfl (Ld.fK (qb rfl) rfl rfl .cR (by (simp;omega))) (by (exact .row (by repeat (first | exact .refl | refine .cons ?_)))) (fun _=>?_);refine jk 10 rfl rfl rfl rfl (Qt.assign rfl) ?_;refine jk 11 rfl rfl rfl rfl (Qt.assign rfl) ?_;refine jk 12 rfl rfl rfl rfl (Qt.assign rfl) ?_;refine bH ?_
   rotate_left
   all_goals
    repeat (fail)
    exact J.ret Tryz.func173 rfl (.cons (.tmp rfl) (.cons (.tmp rfl) (.cons (.tmp rfl) .nil))) () (by (exact .aV (by repeat (first | exact .nil | refine .cons .refl ?_ | refine .cons (.c .snoc) ?_)))) [] .nil rfl rfl
theorem dm.of {s s':Sx.St} {i:Int} (h:dm s i) (e1:s'.aB=s.aB) (e2:s'.gs.length=s.gs.length):dm s' i:=by
 obtain ⟨a,b,c,d⟩:=h;have e3:su s' i=su s i:=by unfold su;rw [e1]
 exact ⟨a,by rw [e1];exact b,by rw [e3];exact c,by rw [e3,e2];exact d⟩
theorem Few.of {s s':Sx.St} (h:Few s) (e1:s'.gs.length=s.gs.length) (e2:s'.an.length=s.an.length) (e3:s'.aB.length=s.aB.length):Few s':=⟨by rw [e1];exact h.1,by rw [e2];exact h.2.1,by rw [e3];exact h.2.2⟩
theorem fL (s:Sx.St) (i:Int):(Sx.drop s i).gs=s.gs:=by unfold Sx.drop;split <;> rfl
theorem uK (s:Sx.St) (i:Int):(Sx.drop s i).aB=s.aB:=by unfold Sx.drop;split <;> rfl
theorem F0 (s:Sx.St) (i:Int):(Sx.drop s i).an.length=s.an.length:=by unfold Sx.drop;split <;> simp [Sx.av]
theorem wB (s:Sx.St) (g:Nat) (i:Int):(Sx.pair s g i).gs.length=s.gs.length:=by simp [Sx.pair,Sx.aa]
theorem BZ (s:Sx.St) (g:Nat) (i wi ha:Int) (hg:g < s.gs.length) (hi:dm s i) (hb:Fit s) :
  Pure Tryz.prog 112 [.agg (ay s),.c (nI g),.c (nI i),.c (nI wi),.c (nI ha)] (.agg (ay (taken s g i wi ha))):=by
 obtain ⟨fV,dI,dA,gP⟩:=id hi;have hf:Few s:=hb.toAnd;refine aq.intro Tryz.func112 rfl rfl rfl (fun ok e=>?_)
 cases h1:decide ((su s i).cs ≥ 0) with
 | true =>
  have er:taken s g i wi ha=Sx.aE (Sx.aa s g { Sx.gr s g with hold:=i }) g wi:=by unfold taken;rw [if_pos (by simpa using h1)]
  rw [er]
  repeat (first | (refine K.indexAddr ?_;refine jx rfl rfl rfl rfl (by omega) (ic fV dI) ?_) | refine aJ (cE s g { Sx.gr s g with hold:=i } hg hf.1) ?_ | refine aJ (fG (Sx.aa s g { Sx.gr s g with hold:=i }) g wi (by rw [bV];exact hg) (by rw [bV];exact hf.1)) ?_ | refine au ?_ | intro _)
  exact az Tryz.func112
 | false =>
  have er:taken s g i wi ha=Sx.aE (Sx.pair (Sx.drop (Sx.aa s g { Sx.gr s g with hold:=i,t:=s.step }) i) g i) g ha:=by unfold taken;rw [if_neg (by simpa using h1)]
  have f1:Few (Sx.aa s g { Sx.gr s g with hold:=i,t:=s.step }):=hf.of (bV _ _ _) rfl rfl;have k1:dm (Sx.aa s g { Sx.gr s g with hold:=i,t:=s.step }) i:=hi.of rfl (bV _ _ _);have g1:g < (Sx.aa s g { Sx.gr s g with hold:=i,t:=s.step }).gs.length:=by rw [bV];exact hg
  have C1:=cE s g { Sx.gr s g with hold:=i,t:=s.step } hg hf.1;have C2:=tr (Sx.aa s g { Sx.gr s g with hold:=i,t:=s.step }) i fV dI (Nat.le_trans (hb.rv (su s i).ch) (by omega)) (Nat.le_trans (hb.sd (su s i).ch) (by omega)) hf.2.1;rw [er];generalize Sx.aa s g { Sx.gr s g with hold:=i,t:=s.step }=s1 at *;have g2:g < (Sx.drop s1 i).gs.length:=by rw [fL];exact g1
  have C3:=FM (Sx.drop s1 i) g i g2 (k1.of (uK _ _) (by rw [fL])) (f1.of (by rw [fL]) (F0 _ _) (by rw [uK]));have C4:=fG (Sx.pair (Sx.drop s1 i) g i) g ha (by rw [wB];exact g2) (by rw [wB,fL];exact f1.1)
  repeat (first | (refine K.indexAddr ?_;refine jx rfl rfl rfl rfl (by omega) (ic fV dI) ?_) | refine au ?_ | intro _)
  exact az Tryz.func112
end Fl
open Go.RowKit
namespace Fl
open Sx
set_option maxRecDepth 100000
theorem F6 (s:Sx.St) (g:Nat) (back on:Int) (hg:g < s.gs.length) (hi:dm s (Sx.gr s g).hold) (hb:Fit s) :
  Pure Tryz.prog 158 [.agg (ay s),.c (nI g),.c (nI back),.c (nI on)] (.agg (ay (dy s g back on))):=by
 obtain ⟨fV,dI,dA,gP⟩:=id hi;have hf:Few s:=hb.toAnd;have W8:=hi.gr;refine aq.intro Tryz.func158 rfl rfl rfl (fun ok e=>?_)
 cases h1:(Sx.gr s (su s (Sx.gr s g).hold).g.toNat).aX with
 | true =>
  have er:dy s g back on=Sx.aa (Sx.drop s (Sx.gr s g).hold) g { Sx.gr s g with hold:=-1,place:=back }:=by unfold dy;simp only;rw [if_pos h1]
  have C1:=tr s (Sx.gr s g).hold fV dI (Nat.le_trans (hb.rv _) (by omega)) (Nat.le_trans (hb.sd _) (by omega)) hf.2.1;have C2:=cE (Sx.drop s (Sx.gr s g).hold) g { Sx.gr s g with hold:=-1,place:=back } (by rw [fL];exact hg) (by rw [fL];exact hf.1);rw [er]
  repeat (first | refine J.eN (congrArg (fun b=>some (D.c (bI b))) h1) ?_ | (refine K.indexAddr ?_;refine jx rfl rfl rfl rfl (by omega) (ic fV dI) ?_) | refine au ?_ | intro _)
  exact az Tryz.func158
 | false =>
  have er:dy s g back on=Sx.aE (Sx.pair (Sx.aa (Sx.aa s g { Sx.gr s g with t:=s.step }) (su s (Sx.gr s g).hold).g.toNat { Sx.gr s (su s (Sx.gr s g).hold).g.toNat with aX:=true }) g (Sx.gr s g).hold) g on:=by unfold dy;simp only;rw [if_neg (by rw [h1];simp)]
  have C1:=cE s g { Sx.gr s g with t:=s.step } hg hf.1;have f1:Few (Sx.aa s g { Sx.gr s g with t:=s.step }):=hf.of (bV _ _ _) rfl rfl;have k1:dm (Sx.aa s g { Sx.gr s g with t:=s.step }) (Sx.gr s g).hold:=hi.of rfl (bV _ _ _);have g1:g < (Sx.aa s g { Sx.gr s g with t:=s.step }).gs.length:=by rw [bV];exact hg
  have q1:(su s (Sx.gr s g).hold).g < (Sx.aa s g { Sx.gr s g with t:=s.step }).gs.length:=by rw [bV];exact gP
  rw [er];generalize Sx.aa s g { Sx.gr s g with t:=s.step }=s1 at *;have C2:=zc s1 (su s (Sx.gr s g).hold).g { Sx.gr s (su s (Sx.gr s g).hold).g.toNat with aX:=true } dA q1 f1.1;have f2:Few (Sx.aa s1 (su s (Sx.gr s g).hold).g.toNat { Sx.gr s (su s (Sx.gr s g).hold).g.toNat with aX:=true }):=f1.of (bV _ _ _) rfl rfl;have k2:dm (Sx.aa s1 (su s (Sx.gr s g).hold).g.toNat { Sx.gr s (su s (Sx.gr s g).hold).g.toNat with aX:=true }) (Sx.gr s g).hold:=k1.of rfl (bV _ _ _);have g2:g < (Sx.aa s1 (su s (Sx.gr s g).hold).g.toNat { Sx.gr s (su s (Sx.gr s g).hold).g.toNat with aX:=true }).gs.length:=by rw [bV];exact g1
  generalize Sx.aa s1 (su s (Sx.gr s g).hold).g.toNat { Sx.gr s (su s (Sx.gr s g).hold).g.toNat with aX:=true }=s2 at *;have C3:=FM s2 g (Sx.gr s g).hold g2 k2 f2;have C4:=fG (Sx.pair s2 g (Sx.gr s g).hold) g on (by rw [wB];exact g2) (by rw [wB];exact f2.1)
  repeat (first | refine J.ez (congrArg (fun b=>some (D.c (bI b))) h1) ?_ | (refine K.indexAddr ?_;refine jx rfl rfl rfl rfl (by omega) (ic fV dI) ?_) | refine au ?_ | intro _)
  refine J.draw (by kernel_rfl) rfl ?_;refine JW.base (some 7) ?_;refine tk 0 ?_;refine tk 1 ?_;refine tk 2 ?_;refine tk 4 ?_;refine tk 5 ?_;refine cU 3 (C1) ?_;refine cU 6 (C2) ?_;refine jt 7 rfl rfl (Ld.aP rfl rfl rfl (by exact rfl) (by exact rfl)) (fun _=>?_);refine bJ ?_
  repeat (refine gn ?_)
  exact az Tryz.func158
theorem B0 (s:Sx.St) (g:Nat):(bu s g).1.gs=s.gs:=by unfold bu;split;split <;> rfl;rfl
theorem F7 (s:Sx.St) (g:Nat):(bu s g).1.aB=s.aB:=by unfold bu;split;split <;> rfl;rfl
theorem MF (s:Sx.St) (g:Nat) (d:Su) (hg:g < s.gs.length) (hb:Few s) (hp:ot s) (hc:g < s.cache.length) (hd:(bu s g).2.2=true→0≤(bu s g).2.1∧(bu s g).2.1 < s.aB.length) :
  Pure Tryz.prog 161 [.agg (ay s),.c (nI g),.agg (eS d)] (.agg (ay (Sx.aK s g d))):=by
 have C1:=MA s g hc hp;refine aq.intro Tryz.func161 rfl rfl rfl (fun ok e=>?_);have g1:g < (bu s g).1.gs.length:=by rw [B0];exact hg
 have b1:(bu s g).1.gs.length≤100000:=by rw [B0];exact hb.1
 cases h1:(bu s g).2.2 with
 | true =>
  obtain ⟨d1,d2⟩:=hd h1;have er:Sx.aK s g d=Sx.aa (Sx.aF (bu s g).1 (bu s g).2.1 d) g { Sx.gr s g with aK:=(bu s g).2.1,place:=11 }:=by unfold Sx.aK;rw [if_pos h1]
  rw [er];rw [h1] at C1;have C2:=wu (bu s g).1 (bu s g).2.1 d d1 (by rw [F7];exact d2) (by rw [F7];exact hb.2.2);have C3:=cE (Sx.aF (bu s g).1 (bu s g).2.1 d) g { Sx.gr s g with aK:=(bu s g).2.1,place:=11 } g1 b1
  repeat (first | refine au ?_ | intro _)
  refine J.draw (by kernel_rfl) rfl ?_;refine JW.base (some 7) ?_;refine tk 0 ?_;refine tk 1 ?_;refine tk 2 ?_;refine tk 4 ?_;refine tk 5 ?_;refine cU 3 (C2) ?_;refine cU 6 (C3) ?_;refine jt 7 rfl rfl (Ld.aP rfl rfl rfl (by exact rfl) (by exact rfl)) (fun _=>?_);refine bJ ?_
  repeat (fail)
  exact az Tryz.func161
 | false =>
  have er:Sx.aK s g d=Sx.aa (bu s g).1 g { Sx.gr s g with res:={ (Sx.gr s g).res with code:=6 },place:=16 }:=by unfold Sx.aK;rw [if_neg (by rw [h1];simp)]
  rw [er];rw [h1] at C1
  repeat (first | refine aJ (cE (bu s g).1 g { Sx.gr s g with res:={ (Sx.gr s g).res with code:=6 },place:=16 } g1 b1) ?_ | refine au ?_ | intro _)
  exact az Tryz.func161
end Fl
end Go.Proofs.YtofnbflkhgammaaGreat
