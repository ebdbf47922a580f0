/-
  What the laws need, part A31.
  Conditions: none.
-/
import Derived.Test.YtdjhhbpedllnhaaGreatA30
set_option linter.unusedVariables false
set_option linter.unusedSimpArgs false
set_option linter.unnecessarySimpa false
set_option maxHeartbeats 2000000
namespace Go.Proofs.YtdjhhbpedllnhaaGreat
open Go.RowKit
namespace Fl
open Sx Go.Proofs.Tryz
set_option maxRecDepth 100000
theorem X6 (s:ah) (g:Nat) (o:Pn.Op) (h:AB s g o) (hi:dL s (aa s g).hold) :
  Pure prog 158 [.agg (aD s),.c (nI g),.agg (eL o)] (.agg (aD (kH s g o))):=by
 have hg:=h.ca.lt;have hf:Few s:=h.ca.fit.toAnd;have hb:=hf.1;have dM:=hf.2.1;have k0:=h.ca.k0;have k1:=h.ca.k1;have hm:=h.ca.md;have I1:=oO k0 k1;have i0:=h.i0;have i1:=h.i1;have J1:=AA i0 i1;have aj:kH s g o=kH s g o:=rfl
 conv at aj=>rhs;unfold kH;simp only
 obtain ⟨gG,dY,fo,iD⟩:=id hi;have D1:=ue s (aa s g).hold gG dY (Nat.le_trans (h.ca.fit.rv _) (by omega)) (Nat.le_trans (h.ca.fit.sd _) (by omega)) dM;have q1:dL (aT s (aa s g).hold) (aa s g).hold:=hi.of (vL _ _) (by rw [gf]);have f1:=h.ca.fit.drop (aa s g).hold;have g1:g < (aT s (aa s g).hold).gs.length:=by rw [gf];exact hg
 have m1:aL (aT s (aa s g).hold) (cD o (aE (aa s g).order (aa s g).k)).ch=true:=by rw [Nz];exact hm
 generalize aE (aa s g).order (aa s g).k=i at *;generalize cD o i=kk at *;generalize aT s (aa s g).hold=s1 at *;refine av.intro func158 rfl rfl rfl (fun ok e=>?_)
 cases hs:kk.send with
 | true =>
  simp only [hs,if_true] at aj;have a1:=iB q1.1 q1.2.1;have D2:=wY s1 (aa s g).hold { su s1 (aa s g).hold with v:=kk.v } q1.1 q1.2.1 f1.1.2.2;have q2:dL (aN s1 (aa s g).hold { su s1 (aa s g).hold with v:=kk.v }) (aa s g).hold:=q1.hJ rfl;have f2:=f1.hJ (aa s g).hold { su s1 (aa s g).hold with v:=kk.v };have g2:g < (aN s1 (aa s g).hold { su s1 (aa s g).hold with v:=kk.v }).gs.length:=g1;generalize aN s1 (aa s g).hold { su s1 (aa s g).hold with v:=kk.v }=s2 at *;have D3:=An s2 g (aa s g).hold true g2 q2 f2;have g3:g < (Sx.serve s2 g (aa s g).hold true).gs.length:=by rw [sS];exact g2
  have b3:(Sx.serve s2 g (aa s g).hold true).gs.length≤100000:=by rw [sS];exact f2.1.1
  generalize Sx.serve s2 g (aa s g).hold true=s3 at *;have D4:=cS s3 g { aa s3 g with res:=⟨1,i,0,true,0⟩ } g3 b3;have D5:=vO (ai s3 g { aa s3 g with res:=⟨1,i,0,true,0⟩ }) g 30 (by rw [cz];exact g3) (by rw [cz];exact b3);rw [aj]
  repeat (first | refine J.iy (congrArg (fun b=>some (D.c (bI b))) hs) ?_ | refine aR (Am ⟨1,0,0,true,0⟩ i) ?_ | refine ay ?_ | intro _)
  exact aC func158
 | false =>
  simp only [hs,Bool.false_eq_true,if_false] at aj;have D2:=Nx s1 kk.ch (aa s g).hold m1 f1.1.2.1 q1.1 q1.2.1 (f1.bf _);have q2:dL (Sx.hand s1 kk.ch (aa s g).hold).1 (aa s g).hold:=q1.of (Ny _ _ _) (by rw [C8]);have f2:=f1.hand kk.ch (aa s g).hold;have g2:g < (Sx.hand s1 kk.ch (aa s g).hold).1.gs.length:=by rw [C8];exact g1
  generalize Sx.hand s1 kk.ch (aa s g).hold=n at *;have D3:=An n.1 g (aa s g).hold true g2 q2 f2;have g3:g < (Sx.serve n.1 g (aa s g).hold true).gs.length:=by rw [sS];exact g2
  have b3:(Sx.serve n.1 g (aa s g).hold true).gs.length≤100000:=by rw [sS];exact f2.1.1
  generalize Sx.serve n.1 g (aa s g).hold true=s3 at *;have D4:=cS s3 g { aa s3 g with res:={ cZ n.2 true with cs:=i } } g3 b3;have D5:=vO (ai s3 g { aa s3 g with res:={ cZ n.2 true with cs:=i } }) g 30 (by rw [cz];exact g3) (by rw [cz];exact b3);rw [aj]
  repeat (first | refine J.gK (congrArg (fun b=>some (D.c (bI b))) hs) ?_ | refine aR (lR n.2 true) ?_ | refine aR (Am (cZ n.2 true) i) ?_ | refine ay ?_ | intro _)
  exact aC func158
theorem NI (s:ah) (g:Nat):(aQ s g).1.gs.length=s.gs.length:=by rw [pX]
theorem X7 (s:ah) (g:Nat) (o:Pn.Op) (h:AB s g o) (hp:oN s) (hc:g < s.cache.length) (hd:(aQ s g).2.2=true→0≤(aQ s g).2.1∧(aQ s g).2.1 < s.aB.length) (hl:(aa s g).ax.length=o.cases.length) :
  Pure prog 159 [.agg (aD s),.c (nI g),.agg (eL o)] (.agg (aD (aB s g o))):=by
 have hg:=h.ca.lt;have hf:Few s:=h.ca.fit.toAnd;have hb:=hf.1;have k0:=h.ca.k0;have k1:=h.ca.k1;have kb:=h.ca.fit.od g;have I1:=oO k0 k1;have i0:=h.i0;have i1:=h.i1;have J1:=AA i0 i1;have cl:=h.cl;have aj:aB s g o=aB s g o:=rfl
 conv at aj=>rhs;unfold aB;simp only
 have C1:=Nn s g hc hp;have g1:g < (aQ s g).1.gs.length:=by rw [NI];exact hg
 have b1:(aQ s g).1.gs.length≤100000:=by rw [NI];exact hb
 have eg:aa (aQ s g).1 g=aa s g:=uh (pX s g) g;have u1:=GQ s g;generalize aE (aa s g).order (aa s g).k=i at *;generalize cD o i=kk at *;refine av.intro func159 rfl rfl rfl (fun ok e=>?_)
 cases hs:(aQ s g).2.2 with
 | false =>
  rw [if_neg (by rw [hs];simp)] at aj;rw [hs] at C1;rw [aj];generalize (aQ s g).1=s1 at *;have A1:=gZ g1;rw [eg] at A1;have D1:=cS s1 g { aa s g with res:={ (aa s g).res with code:=6 } } g1 b1;have D2:=vO (ai s1 g { aa s g with res:={ (aa s g).res with code:=6 } }) g 30 (by rw [cz];exact g1) (by rw [cz];exact b1)
  repeat (first | refine ay ?_ | intro _)
  exact aC func159
 | true =>
  obtain ⟨d1,d2⟩:=hd hs;rw [if_pos hs] at aj;rw [hs] at C1;rw [aj];have d3:(aQ s g).2.1 < (aQ s g).1.aB.length:=by rw [u1];exact d2
  have d4:(aQ s g).1.aB.length≤100000:=by rw [u1];exact hf.2.2
  clear hd hs;generalize (aQ s g).1=s1 at *;generalize (aQ s g).2.1=d at *;have A1:=gZ g1;rw [eg] at A1;have D1:=wY s1 d ⟨true,g,kk.ch,i,kk.send,kk.v,false⟩ d1 d3 d4;have g2:g < (aN s1 d ⟨true,g,kk.ch,i,kk.send,kk.v,false⟩).gs.length:=g1;have b2:(aN s1 d ⟨true,g,kk.ch,i,kk.send,kk.v,false⟩).gs.length≤100000:=b1;generalize aN s1 d ⟨true,g,kk.ch,i,kk.send,kk.v,false⟩=s2 at *;have D2:=cS s2 g { aa s g with ax:=(aa s g).ax.set i.toNat d } g2 b2;have kx:(aa (ai s2 g { aa s g with ax:=(aa s g).ax.set i.toNat d }) g)={ aa s g with ax:=(aa s g).ax.set i.toNat d }:=by
   unfold aa ai;simp [g2]
  have D3:=qU (ai s2 g { aa s g with ax:=(aa s g).ax.set i.toNat d }) g 29 (by rw [cz];exact g2) (by rw [cz];exact b2) (by rw [kx];exact k0) (by rw [kx];simp only;omega);have e1:([] ++ List.map (fun n=>[nI n]) (aa s g).ax).set i.toNat [nI d]=((aa s g).ax.set i.toNat d).map (fun n=>[nI n]):=by simp
  have wl:i < (([] ++ List.map (fun n=>[nI n]) (aa s g).ax).length:Int):=by simp;omega
  have wb:=h.ca.fit.sg g;have wn:i.toNat < ([] ++ List.map (fun n=>[nI n]) (aa s g).ax).length:=by simp;omega
  repeat (first | (refine K.bi ?_;refine JO.ld (Ld.cB (qb rfl) rfl rfl .read (by (simp;omega))) rfl (fun _=>?_)) | refine ay ?_ | intro _)
  repeat (first | (refine K.store ?_;refine JO.ld (Ld.gz rfl rfl rfl (by exact rfl) (by exact wn)) rfl (fun _=>?_)) | (refine K.indexAddr ?_;refine jq rfl rfl rfl (Qt.aV rfl rfl (by omega) (by omega)) ?_))
  refine JO.nil ?_;refine J.nF 0 2 22 rfl rfl rfl ?_;rw [e1]
  repeat (refine gn ?_)
  exact aC func159
theorem X8 (s:ah) (g:Nat) (o:Pn.Op) (h:AB s g o) (hl:(aa s g).ax.length=o.cases.length) :
  Pure prog 160 [.agg (aD s),.c (nI g),.agg (eL o)] (.agg (aD (mj s g o))):=by
 have hg:=h.ca.lt;have hf:Few s:=h.ca.fit.toAnd;have hb:=hf.1;have dM:=hf.2.1;have k0:=h.ca.k0;have k1:=h.ca.k1;have kb:=h.ca.fit.od g;have I1:=oO k0 k1;have i0:=h.i0;have i1:=h.i1;have J1:=AA i0 i1;have cl:=h.cl;have hm:=h.ca.md;have gQ:=fh hm;have rb:=h.ca.fit.rv (cD o (aE (aa s g).order (aa s g).k)).ch;have sb:=h.ca.fit.sd (cD o (aE (aa s g).order (aa s g).k)).ch;have aj:mj s g o=mj s g o:=rfl
 conv at aj=>rhs;unfold mj;simp only
 generalize aE (aa s g).order (aa s g).k=i at *;generalize cD o i=kk at *;have I2:=oO (l:=(aa s g).ax) i0 (by rw [hl];exact i1);refine av.intro func160 rfl rfl rfl (fun ok e=>?_);have W:∀ c:Cn,Pure prog 215 [.agg (aD s),.c (nI kk.ch),.agg (eC c)] (.agg (aD (aA s kk.ch c))):=fun c=>nL s kk.ch c hm dM
 have gx:∀ c:Cn,aa (aA s kk.ch c) g=aa s g:=fun c=>rfl
 cases hs:kk.send with
 | true =>
  simp only [hs,if_true] at aj;have D1:=W { cn s kk.ch with send:=(cn s kk.ch).send ++ [aE (aa s g).ax i] };have g1:g < (aA s kk.ch { cn s kk.ch with send:=(cn s kk.ch).send ++ [aE (aa s g).ax i] }).gs.length:=hg;have b1:(aA s kk.ch { cn s kk.ch with send:=(cn s kk.ch).send ++ [aE (aa s g).ax i] }).gs.length≤100000:=hb;have t1:=gx { cn s kk.ch with send:=(cn s kk.ch).send ++ [aE (aa s g).ax i] };generalize aA s kk.ch { cn s kk.ch with send:=(cn s kk.ch).send ++ [aE (aa s g).ax i] }=s1 at *
  by_cases hk:(aa s g).k + 1 < (aa s g).order.length
  ·rw [if_pos hk] at aj;rw [aj];have bZ:(decide ((aa s g).k + 1 < ((aa s g).order.length:Int)))=true:=decide_eq_true hk;have D2:=qU s1 g 29 g1 b1 (by rw [t1];exact k0) (by rw [t1];omega)
   repeat (first | refine J.iy (congrArg (fun b=>some (D.c (bI b))) hs) ?_ | refine ay ?_ | intro _)
   refine J.draw (by kernel_rfl) rfl ?_;refine JW.base (some 12) ?_;refine tk 1 ?_;refine tk 2 ?_;refine tk 4 ?_;refine tk 5 ?_;refine tk 6 ?_;refine JD.take 7 rfl rfl (by kernel_rfl) rfl (qb rfl) (Qt.dc rfl rfl i0 I2) rfl ?_;refine tk 8 ?_;refine JD.dA (i:=0) (j:=9) (by kernel_rfl) ?_ ?_;refine JS.cK rfl rfl rfl (qb rfl) (Ld.gR (qb rfl)) .none (fun _=>?_);refine JD.dA (i:=3) (j:=9) (by kernel_rfl) ?_ ?_;refine JS.cK rfl rfl rfl (qb rfl) (Ld.cB (qb rfl) rfl rfl .read (by (simp;omega))) (by (exact .row (by repeat ((exact .refl))))) (fun _=>?_);refine jl 9 rfl rfl rfl rfl (Ld.fO (qb rfl) rfl rfl rfl rfl rfl) .none (fun _=>?_);refine jl 10 rfl rfl rfl rfl (Ld.fP (qb rfl) rfl rfl .de (by (simp;omega))) (by (exact .row (by repeat (first | exact .refl | refine .cons ?_)))) (fun _=>?_);refine jk 11 rfl rfl rfl rfl (Qt.fieldAddr rfl rfl) ?_;refine jt 12 rfl rfl (Ld.di rfl rfl (by exact rfl)) (fun _=>?_);refine cu ?_
   rotate_left
   refine JS.cK rfl rfl rfl (qb rfl) (Ld.fO (qb rfl) rfl rfl rfl rfl rfl) .none (fun _=>?_);refine jl 3 rfl rfl rfl rfl (Ld.cB (qb rfl) rfl rfl .read (by (simp;omega))) (by (exact .row (by repeat (first | exact .refl | refine .cons ?_)))) (fun _=>?_);refine jl 10 rfl rfl rfl rfl (Ld.fP (qb rfl) rfl rfl .de (by (simp;omega))) (by (exact .row (by repeat (first | exact .refl | refine .cons ?_)))) (fun _=>?_);refine jk 11 rfl rfl rfl rfl (Qt.fieldAddr rfl rfl) ?_;refine jt 12 rfl rfl (Ld.di rfl rfl (by exact rfl)) (fun _=>?_);refine cu ?_
   rotate_left
   refine JS.cK rfl rfl rfl (qb rfl) (Ld.fO (qb rfl) rfl rfl rfl rfl rfl) .none (fun _=>?_);refine jl 0 rfl rfl rfl rfl (Ld.gR (qb rfl)) .none (fun _=>?_);refine jl 3 rfl rfl rfl rfl (Ld.cB (qb rfl) rfl rfl .read (by (simp;omega))) (by (exact .row (by repeat (first | exact .refl | refine .cons ?_)))) (fun _=>?_);refine jl 10 rfl rfl rfl rfl (Ld.fP (qb rfl) rfl rfl .de (by (simp;omega))) (by (exact .row (by repeat (first | exact .refl | refine .cons ?_)))) (fun _=>?_);refine jk 11 rfl rfl rfl rfl (Qt.fieldAddr rfl rfl) ?_;refine jt 12 rfl rfl (Ld.di rfl rfl (by exact rfl)) (fun _=>?_);refine cu ?_
   rotate_left
   all_goals
    repeat (first | refine mM (D1) ?_ | refine gn ?_)
    exact aC func160
  ·rw [if_neg hk] at aj;rw [aj];have bZ:(decide ((aa s g).k + 1 < ((aa s g).order.length:Int)))=false:=decide_eq_false hk;have D2:=cS s1 g { aa s g with iJ:=s1.step } g1 b1;have D3:=vO (ai s1 g { aa s g with iJ:=s1.step }) g 30 (by rw [cz];exact g1) (by rw [cz];exact b1)
   repeat (first | refine J.iy (congrArg (fun b=>some (D.c (bI b))) hs) ?_ | refine ay ?_ | intro _)
   refine J.draw (by kernel_rfl) rfl ?_;refine JW.base (some 12) ?_;refine tk 1 ?_;refine tk 2 ?_;refine tk 4 ?_;refine tk 5 ?_;refine tk 6 ?_;refine JD.take 7 rfl rfl (by kernel_rfl) rfl (qb rfl) (Qt.dc rfl rfl i0 I2) rfl ?_;refine tk 8 ?_;refine JD.dA (i:=0) (j:=9) (by kernel_rfl) ?_ ?_;refine JS.cK rfl rfl rfl (qb rfl) (Ld.gR (qb rfl)) .none (fun _=>?_);refine JD.dA (i:=3) (j:=9) (by kernel_rfl) ?_ ?_;refine JS.cK rfl rfl rfl (qb rfl) (Ld.cB (qb rfl) rfl rfl .read (by (simp;omega))) (by (exact .row (by repeat ((exact .refl))))) (fun _=>?_);refine jl 9 rfl rfl rfl rfl (Ld.fO (qb rfl) rfl rfl rfl rfl rfl) .none (fun _=>?_);refine jl 10 rfl rfl rfl rfl (Ld.fP (qb rfl) rfl rfl .de (by (simp;omega))) (by (exact .row (by repeat (first | exact .refl | refine .cons ?_)))) (fun _=>?_);refine jk 11 rfl rfl rfl rfl (Qt.fieldAddr rfl rfl) ?_;refine jt 12 rfl rfl (Ld.di rfl rfl (by exact rfl)) (fun _=>?_);refine cu ?_
   rotate_left
   refine JS.cK rfl rfl rfl (qb rfl) (Ld.fO (qb rfl) rfl rfl rfl rfl rfl) .none (fun _=>?_);refine jl 3 rfl rfl rfl rfl (Ld.cB (qb rfl) rfl rfl .read (by (simp;omega))) (by (exact .row (by repeat (first | exact .refl | refine .cons ?_)))) (fun _=>?_);refine jl 10 rfl rfl rfl rfl (Ld.fP (qb rfl) rfl rfl .de (by (simp;omega))) (by (exact .row (by repeat (first | exact .refl | refine .cons ?_)))) (fun _=>?_);refine jk 11 rfl rfl rfl rfl (Qt.fieldAddr rfl rfl) ?_;refine jt 12 rfl rfl (Ld.di rfl rfl (by exact rfl)) (fun _=>?_);refine cu ?_
   rotate_left
   refine JS.cK rfl rfl rfl (qb rfl) (Ld.fO (qb rfl) rfl rfl rfl rfl rfl) .none (fun _=>?_);refine jl 0 rfl rfl rfl rfl (Ld.gR (qb rfl)) .none (fun _=>?_);refine jl 3 rfl rfl rfl rfl (Ld.cB (qb rfl) rfl rfl .read (by (simp;omega))) (by (exact .row (by repeat (first | exact .refl | refine .cons ?_)))) (fun _=>?_);refine jl 10 rfl rfl rfl rfl (Ld.fP (qb rfl) rfl rfl .de (by (simp;omega))) (by (exact .row (by repeat (first | exact .refl | refine .cons ?_)))) (fun _=>?_);refine jk 11 rfl rfl rfl rfl (Qt.fieldAddr rfl rfl) ?_;refine jt 12 rfl rfl (Ld.di rfl rfl (by exact rfl)) (fun _=>?_);refine cu ?_
   rotate_left
   all_goals
    repeat (first | refine mM (D1) ?_ | refine gn ?_)
    exact aC func160
 | false =>
  simp only [hs,Bool.false_eq_true,if_false] at aj;have D1:=W { cn s kk.ch with recv:=(cn s kk.ch).recv ++ [aE (aa s g).ax i] };have g1:g < (aA s kk.ch { cn s kk.ch with recv:=(cn s kk.ch).recv ++ [aE (aa s g).ax i] }).gs.length:=hg;have b1:(aA s kk.ch { cn s kk.ch with recv:=(cn s kk.ch).recv ++ [aE (aa s g).ax i] }).gs.length≤100000:=hb;have t1:=gx { cn s kk.ch with recv:=(cn s kk.ch).recv ++ [aE (aa s g).ax i] };generalize aA s kk.ch { cn s kk.ch with recv:=(cn s kk.ch).recv ++ [aE (aa s g).ax i] }=s1 at *
  by_cases hk:(aa s g).k + 1 < (aa s g).order.length
  ·rw [if_pos hk] at aj;rw [aj];have bZ:(decide ((aa s g).k + 1 < ((aa s g).order.length:Int)))=true:=decide_eq_true hk;have D2:=qU s1 g 29 g1 b1 (by rw [t1];exact k0) (by rw [t1];omega)
   repeat (first | refine J.gK (congrArg (fun b=>some (D.c (bI b))) hs) ?_ | refine ay ?_ | intro _)
   refine J.draw (by kernel_rfl) rfl ?_;refine JW.base (some 12) ?_;refine tk 1 ?_;refine tk 2 ?_;refine tk 4 ?_;refine tk 5 ?_;refine tk 6 ?_;refine JD.take 7 rfl rfl (by kernel_rfl) rfl (qb rfl) (Qt.dc rfl rfl i0 I2) rfl ?_;refine tk 8 ?_;refine JD.dA (i:=0) (j:=9) (by kernel_rfl) ?_ ?_;refine JS.cK rfl rfl rfl (qb rfl) (Ld.gR (qb rfl)) .none (fun _=>?_);refine JD.dA (i:=3) (j:=9) (by kernel_rfl) ?_ ?_;refine JS.cK rfl rfl rfl (qb rfl) (Ld.cB (qb rfl) rfl rfl .read (by (simp;omega))) (by (exact .row (by repeat ((exact .refl))))) (fun _=>?_);refine jl 9 rfl rfl rfl rfl (Ld.fO (qb rfl) rfl rfl rfl rfl rfl) .none (fun _=>?_);refine jl 10 rfl rfl rfl rfl (Ld.fP (qb rfl) rfl rfl .de (by (simp;omega))) (by (exact .row (by repeat (first | exact .refl | refine .cons ?_)))) (fun _=>?_);refine jk 11 rfl rfl rfl rfl (Qt.fieldAddr rfl rfl) ?_;refine jt 12 rfl rfl (Ld.di rfl rfl (by exact rfl)) (fun _=>?_);refine cu ?_
   rotate_left
   refine JS.cK rfl rfl rfl (qb rfl) (Ld.fO (qb rfl) rfl rfl rfl rfl rfl) .none (fun _=>?_);refine jl 3 rfl rfl rfl rfl (Ld.cB (qb rfl) rfl rfl .read (by (simp;omega))) (by (exact .row (by repeat (first | exact .refl | refine .cons ?_)))) (fun _=>?_);refine jl 10 rfl rfl rfl rfl (Ld.fP (qb rfl) rfl rfl .de (by (simp;omega))) (by (exact .row (by repeat (first | exact .refl | refine .cons ?_)))) (fun _=>?_);refine jk 11 rfl rfl rfl rfl (Qt.fieldAddr rfl rfl) ?_;refine jt 12 rfl rfl (Ld.di rfl rfl (by exact rfl)) (fun _=>?_);refine cu ?_
   rotate_left
   refine JS.cK rfl rfl rfl (qb rfl) (Ld.fO (qb rfl) rfl rfl rfl rfl rfl) .none (fun _=>?_);refine jl 0 rfl rfl rfl rfl (Ld.gR (qb rfl)) .none (fun _=>?_);refine jl 3 rfl rfl rfl rfl (Ld.cB (qb rfl) rfl rfl .read (by (simp;omega))) (by (exact .row (by repeat (first | exact .refl | refine .cons ?_)))) (fun _=>?_);refine jl 10 rfl rfl rfl rfl (Ld.fP (qb rfl) rfl rfl .de (by (simp;omega))) (by (exact .row (by repeat (first | exact .refl | refine .cons ?_)))) (fun _=>?_);refine jk 11 rfl rfl rfl rfl (Qt.fieldAddr rfl rfl) ?_;refine jt 12 rfl rfl (Ld.di rfl rfl (by exact rfl)) (fun _=>?_);refine cu ?_
   rotate_left
   all_goals
    repeat (first | refine mM (D1) ?_ | refine gn ?_)
    exact aC func160
  ·rw [if_neg hk] at aj;rw [aj];have bZ:(decide ((aa s g).k + 1 < ((aa s g).order.length:Int)))=false:=decide_eq_false hk;have D2:=cS s1 g { aa s g with iJ:=s1.step } g1 b1;have D3:=vO (ai s1 g { aa s g with iJ:=s1.step }) g 30 (by rw [cz];exact g1) (by rw [cz];exact b1)
   repeat (first | refine J.gK (congrArg (fun b=>some (D.c (bI b))) hs) ?_ | refine ay ?_ | intro _)
   refine J.draw (by kernel_rfl) rfl ?_;refine JW.base (some 12) ?_;refine tk 1 ?_;refine tk 2 ?_;refine tk 4 ?_;refine tk 5 ?_;refine tk 6 ?_;refine JD.take 7 rfl rfl (by kernel_rfl) rfl (qb rfl) (Qt.dc rfl rfl i0 I2) rfl ?_;refine tk 8 ?_;refine JD.dA (i:=0) (j:=9) (by kernel_rfl) ?_ ?_;refine JS.cK rfl rfl rfl (qb rfl) (Ld.gR (qb rfl)) .none (fun _=>?_);refine JD.dA (i:=3) (j:=9) (by kernel_rfl) ?_ ?_;refine JS.cK rfl rfl rfl (qb rfl) (Ld.cB (qb rfl) rfl rfl .read (by (simp;omega))) (by (exact .row (by repeat ((exact .refl))))) (fun _=>?_);refine jl 9 rfl rfl rfl rfl (Ld.fO (qb rfl) rfl rfl rfl rfl rfl) .none (fun _=>?_);refine jl 10 rfl rfl rfl rfl (Ld.fP (qb rfl) rfl rfl .de (by (simp;omega))) (by (exact .row (by repeat (first | exact .refl | refine .cons ?_)))) (fun _=>?_);refine jk 11 rfl rfl rfl rfl (Qt.fieldAddr rfl rfl) ?_;refine jt 12 rfl rfl (Ld.di rfl rfl (by exact rfl)) (fun _=>?_);refine cu ?_
   rotate_left
   refine JS.cK rfl rfl rfl (qb rfl) (Ld.fO (qb rfl) rfl rfl rfl rfl rfl) .none (fun _=>?_);refine jl 3 rfl rfl rfl rfl (Ld.cB (qb rfl) rfl rfl .read (by (simp;omega))) (by (exact .row (by repeat (first | exact .refl | refine .cons ?_)))) (fun _=>?_);refine jl 10 rfl rfl rfl rfl (Ld.fP (qb rfl) rfl rfl .de (by (simp;omega))) (by (exact .row (by repeat (first | exact .refl | refine .cons ?_)))) (fun _=>?_);refine jk 11 rfl rfl rfl rfl (Qt.fieldAddr rfl rfl) ?_;refine jt 12 rfl rfl (Ld.di rfl rfl (by exact rfl)) (fun _=>?_);refine cu ?_
   rotate_left
   refine JS.cK rfl rfl rfl (qb rfl) (Ld.fO (qb rfl) rfl rfl rfl rfl rfl) .none (fun _=>?_);refine jl 0 rfl rfl rfl rfl (Ld.gR (qb rfl)) .none (fun _=>?_);refine jl 3 rfl rfl rfl rfl (Ld.cB (qb rfl) rfl rfl .read (by (simp;omega))) (by (exact .row (by repeat (first | exact .refl | refine .cons ?_)))) (fun _=>?_);refine jl 10 rfl rfl rfl rfl (Ld.fP (qb rfl) rfl rfl .de (by (simp;omega))) (by (exact .row (by repeat (first | exact .refl | refine .cons ?_)))) (fun _=>?_);refine jk 11 rfl rfl rfl rfl (Qt.fieldAddr rfl rfl) ?_;refine jt 12 rfl rfl (Ld.di rfl rfl (by exact rfl)) (fun _=>?_);refine cu ?_
   rotate_left
   all_goals
    repeat (first | refine mM (D1) ?_ | refine gn ?_)
    exact aC func160
end Fl
open Go.RowKit
namespace Fl
open Sx Go.Proofs.Tryz
set_option maxRecDepth 100000
theorem NJ (s:ah) (g:Nat) (hg:g < s.gs.length) (hb:Few s) (k0:1≤(aa s g).k) (k1:(aa s g).k≤(aa s g).aF.length) (kb:(aa s g).aF.length≤100000) (hm:aL s (aE (aa s g).aF ((aa s g).k - 1))=true) :
  Pure prog 161 [.agg (aD s),.c (nI g)] (.aZ [.agg (aD (dy s g).1),.c (bI (dy s g).2)]):=by
 have j0:0≤(aa s g).k - 1:=by omega
 have j1:(aa s g).k - 1 < (aa s g).aF.length:=by omega
 have I1:=oO j0 j1;have D1:=FF s (aE (aa s g).aF ((aa s g).k - 1)) hm hb.2.1;have er:dy s g=(ai (Sx.free s (aE (aa s g).aF ((aa s g).k - 1))) g { aa s g with k:=(aa s g).k - 1 },decide (0 < (aa s g).k - 1)):=rfl;rw [er];have g1:g < (Sx.free s (aE (aa s g).aF ((aa s g).k - 1))).gs.length:=hg;have b1:(Sx.free s (aE (aa s g).aF ((aa s g).k - 1))).gs.length≤100000:=hb.1;generalize Sx.free s (aE (aa s g).aF ((aa s g).k - 1))=s1 at *;have D2:=cS s1 g { aa s g with k:=(aa s g).k - 1 } g1 b1;refine av.intro func161 rfl rfl rfl (fun ok e=>?_)
 repeat (first | refine ay ?_ | intro _)
 refine J.draw (by kernel_rfl) rfl ?_;refine JW.yE none (.tmp 4) rfl ?_;refine tk 0 ?_;refine tk 1 ?_;refine tk 2 ?_;refine tk 3 ?_;refine tk 4 ?_;refine JD.take 5 rfl rfl (by kernel_rfl) rfl (qb rfl) (Qt.dc rfl rfl j0 I1) rfl ?_;refine tk 6 ?_;refine tk 8 ?_;refine tk 9 ?_;refine tk 11 ?_;refine tk 12 ?_;refine tk 13 ?_;refine c9 7 (D1) ?_;refine c9 10 (D2) ?_;refine JD.gD (i:=14) (by kernel_rfl) ?_
 (refine JS.st rfl rfl rfl (Ld.bh rfl rfl rfl (by exact rfl) (by exact rfl)) (.nu rfl) (fun _=>?_))
 refine jk 15 rfl rfl rfl rfl (Qt.assign rfl) ?_;refine bX ?_
 all_goals
  exact aC func161
theorem X9 (l:List Int) (hb:l.length≤100000) :
  Pure prog 163 [.c (ints l)] (.c (bI (oh l))):=by
 refine av.intro func163 rfl rfl rfl (fun ok e=>?_)
 repeat (refine gn ?_)
 refine J.loop (ι:={ k:Nat // k≤l.length∧∀ (j:Nat) (x:Int),j < k→l[j]?=some x→x < 0 }) (fun p=>[(5,.c (ints l)),(6,.c (nI l.length)),(7,.c (nI p.1))]) (fun _=>[]) (fun p=>l.length - p.1) ⟨0,Nat.zero_le _,fun j x h=>absurd h (Nat.not_lt_zero _)⟩ (fun X h=>h.bO ⟨rfl,rfl,rfl,trivial⟩) (fun p ih=>?_);obtain ⟨k,AD,hk⟩:=p;simp only at ih ⊢
 by_cases fK:k < l.length
 ·obtain ⟨y,hy⟩:∃ y,l[k]?=some y:=⟨_,List.getElem?_eq_getElem fK⟩
  have h1:(decide ((k:Int) < (l.length:Int)))=true:=by simpa using fK
  by_cases h0:0≤y
  ·have h2:(decide (y ≥ 0))=true:=decide_eq_true h0;have e1:oh l=true:=by
    unfold oh;rw [List.any_eq_true];exact ⟨y,List.mem_of_getElem? hy,decide_eq_true h0⟩
   rw [e1]
   repeat (refine gn ?_)
   exact aC func163
  ·have h2:(decide (y ≥ 0))=false:=decide_eq_false h0
   repeat (refine gn ?_)
   exact (ih ⟨k + 1,by omega,fun j x hj hx=>by
    rcases Nat.lt_succ_iff_lt_or_eq.1 hj with h | h
    ·exact hk j x h hx
    ·subst h;rw [hy] at hx;cases hx;omega⟩ (by simp only;omega)).bO ⟨rfl,rfl,rfl,trivial⟩
 ·have h1:(decide ((k:Int) < (l.length:Int)))=false:=by simpa using fK
  have e1:oh l=false:=by
   unfold oh;rw [List.any_eq_false];intro x hx;obtain ⟨j,hj⟩:=List.getElem?_of_mem hx;have:=(List.getElem?_eq_some_iff.1 hj).1;have:=hk j x (by omega) hj;simp;omega
  rw [e1]
  repeat (refine gn ?_)
  exact aC func163
theorem Ya (s:ah) (g:Nat) (hg:g < s.gs.length) (hb:s.gs.length≤100000) (h0:0≤(aa s g).param) (h1:(aa s g).param < s.aB.length) :
  Pure prog 165 [.agg (aD s),.c (nI g)] (.agg (aD (mq s g))):=by
 have A1:=iB h0 h1;have aj:mq s g=mq s g:=rfl
 conv at aj=>rhs;unfold mq;simp only
 generalize su s (aa s g).param=d at *;rcases d with ⟨lv,dg,dch,xJ,ds,dv,dd⟩;have D1:=Am (cZ 0 false) xJ;have D2:=Am (cZ dv true) xJ;refine av.intro func165 rfl rfl rfl (fun ok e=>?_)
 cases dd with
 | true =>
  cases ds with
  | true =>
   simp only [if_true,and_self] at aj;rw [aj]
   repeat (first | refine ay ?_ | intro _)
   refine J.draw (by kernel_rfl) rfl ?_;refine JW.base (some 5) ?_;refine tk 1 ?_;refine tk 2 ?_;refine c9 0 (lR 0 false) ?_;refine c9 3 (D1) ?_;refine jk 4 rfl rfl rfl rfl (Qt.fieldAddr rfl rfl) ?_;refine jt 5 rfl rfl (Ld.rI rfl rfl rfl (by exact rfl) (by exact rfl)) (fun _=>?_);refine cu ?_
   all_goals
    repeat (refine gn ?_)
    refine J.draw (by kernel_rfl) rfl ?_;refine JW.base (some 7) ?_;refine tk 0 ?_;refine tk 1 ?_;refine tk 3 ?_;refine tk 4 ?_;refine c9 2 (lR dv true) ?_;refine c9 5 (D2) ?_;refine jk 6 rfl rfl rfl rfl (Qt.fieldAddr rfl rfl) ?_;refine jt 7 rfl rfl (Ld.rI rfl rfl rfl (by exact rfl) (by exact rfl)) (fun _=>?_);refine cu ?_
    all_goals
     repeat (first | refine aR (cS s g { aa s g with res:=⟨1,xJ,0,true,0⟩,param:=-1,k:=0,place:=31 } hg hb) ?_ | refine gn ?_)
     exact aC func165
  | false =>
   simp only [if_true,Bool.false_eq_true,false_and,if_false] at aj;rw [aj]
   repeat (first | refine ay ?_ | intro _)
   refine J.draw (by kernel_rfl) rfl ?_;refine JW.base (some 5) ?_;refine tk 1 ?_;refine tk 2 ?_;refine c9 0 (lR 0 false) ?_;refine c9 3 (D1) ?_;refine jk 4 rfl rfl rfl rfl (Qt.fieldAddr rfl rfl) ?_;refine jt 5 rfl rfl (Ld.rI rfl rfl rfl (by exact rfl) (by exact rfl)) (fun _=>?_);refine cu ?_
   all_goals
    repeat (refine gn ?_)
    refine J.draw (by kernel_rfl) rfl ?_;refine JW.base (some 7) ?_;refine tk 0 ?_;refine tk 1 ?_;refine tk 3 ?_;refine tk 4 ?_;refine c9 2 (lR dv true) ?_;refine c9 5 (D2) ?_;refine jk 6 rfl rfl rfl rfl (Qt.fieldAddr rfl rfl) ?_;refine jt 7 rfl rfl (Ld.rI rfl rfl rfl (by exact rfl) (by exact rfl)) (fun _=>?_);refine cu ?_
    all_goals
     repeat (first | refine aR (cS s g { aa s g with res:=⟨1,xJ,dv,true,0⟩,param:=-1,k:=0,place:=31 } hg hb) ?_ | refine gn ?_)
     exact aC func165
 | false =>
  cases ds with
  | true =>
   simp only [if_true,Bool.false_eq_true,and_false,if_false] at aj;rw [aj]
   repeat (first | refine ay ?_ | intro _)
   refine J.draw (by kernel_rfl) rfl ?_;refine JW.base (some 5) ?_;refine tk 1 ?_;refine tk 2 ?_;refine c9 0 (lR 0 false) ?_;refine c9 3 (D1) ?_;refine jk 4 rfl rfl rfl rfl (Qt.fieldAddr rfl rfl) ?_;refine jt 5 rfl rfl (Ld.rI rfl rfl rfl (by exact rfl) (by exact rfl)) (fun _=>?_);refine cu ?_
   all_goals
    repeat (first | refine aR (cS s g { aa s g with res:=⟨3,xJ,0,false,0⟩,param:=-1,k:=0,place:=31 } hg hb) ?_ | refine gn ?_)
    exact aC func165
  | false =>
   simp only [Bool.false_eq_true,and_false,if_false] at aj;rw [aj]
   repeat (first | refine ay ?_ | intro _)
   refine J.draw (by kernel_rfl) rfl ?_;refine JW.base (some 5) ?_;refine tk 1 ?_;refine tk 2 ?_;refine c9 0 (lR 0 false) ?_;refine c9 3 (D1) ?_;refine jk 4 rfl rfl rfl rfl (Qt.fieldAddr rfl rfl) ?_;refine jt 5 rfl rfl (Ld.rI rfl rfl rfl (by exact rfl) (by exact rfl)) (fun _=>?_);refine cu ?_
   all_goals
    repeat (first | refine aR (cS s g { aa s g with res:=⟨1,xJ,0,false,0⟩,param:=-1,k:=0,place:=31 } hg hb) ?_ | refine gn ?_)
    exact aC func165
theorem Yb (s:ah) (g:Nat) (hg:g < s.gs.length) (hb:Fit s) (k0:0≤(aa s g).k) (k1:(aa s g).k < (aa s g).order.length) (i0:0≤aE (aa s g).order (aa s g).k) (i1:aE (aa s g).order (aa s g).k < (aa s g).ax.length)
  (j0:0≤aE (aa s g).ax (aE (aa s g).order (aa s g).k)) (j1:aE (aa s g).ax (aE (aa s g).order (aa s g).k) < s.aB.length) :
  Pure prog 166 [.agg (aD s),.c (nI g)] (.agg (aD (mu s g))):=by
 have I1:=oO k0 k1;have I2:=oO i0 i1;have kb:=hb.od g;have aj:mu s g=mu s g:=rfl
 conv at aj=>rhs;unfold mu;simp only
 have D1:=ue s (aE (aa s g).ax (aE (aa s g).order (aa s g).k)) j0 j1 (Nat.le_trans (hb.rv _) (by omega)) (Nat.le_trans (hb.sd _) (by omega)) hb.1.2.1;have g1:g < (aT s (aE (aa s g).ax (aE (aa s g).order (aa s g).k))).gs.length:=by rw [gf];exact hg
 have b1:(aT s (aE (aa s g).ax (aE (aa s g).order (aa s g).k))).gs.length≤100000:=by rw [gf];exact hb.1.1
 have eg:aa (aT s (aE (aa s g).ax (aE (aa s g).order (aa s g).k))) g=aa s g:=uh (gf _ _) g;generalize aT s (aE (aa s g).ax (aE (aa s g).order (aa s g).k))=s1 at *;refine av.intro func166 rfl rfl rfl (fun ok e=>?_)
 by_cases hk:(aa s g).k + 1 < (aa s g).order.length
 ·rw [if_pos hk] at aj;rw [aj];have bZ:(decide ((aa s g).k + 1 < ((aa s g).order.length:Int)))=true:=decide_eq_true hk;have D2:=qU s1 g 32 g1 b1 (by rw [eg];exact k0) (by rw [eg];omega)
  repeat (first | refine ay ?_ | intro _)
  refine J.draw (by kernel_rfl) rfl ?_;refine JW.base (some 12) ?_;refine tk 0 ?_;refine tk 1 ?_;refine tk 2 ?_;refine tk 3 ?_;refine tk 4 ?_;refine tk 5 ?_;refine tk 6 ?_;refine JD.take 7 rfl rfl (by kernel_rfl) rfl (qb rfl) (Qt.dc rfl rfl k0 I1) rfl ?_;refine tk 8 ?_;refine JD.take 9 rfl rfl (by kernel_rfl) rfl (qb rfl) (Qt.dc rfl rfl i0 I2) rfl ?_;refine tk 10 ?_;refine c9 11 (D1) ?_;refine jt 12 rfl rfl (Ld.bh rfl rfl rfl (by exact rfl) (by exact rfl)) (fun _=>?_);refine cu ?_
  all_goals
   repeat (refine gn ?_)
   exact aC func166
 ·rw [if_neg hk] at aj;rw [aj];have bZ:(decide ((aa s g).k + 1 < ((aa s g).order.length:Int)))=false:=decide_eq_false hk;have D2:=vO s1 g 33 g1 b1
  repeat (first | refine ay ?_ | intro _)
  refine J.draw (by kernel_rfl) rfl ?_;refine JW.base (some 12) ?_;refine tk 0 ?_;refine tk 1 ?_;refine tk 2 ?_;refine tk 3 ?_;refine tk 4 ?_;refine tk 5 ?_;refine tk 6 ?_;refine JD.take 7 rfl rfl (by kernel_rfl) rfl (qb rfl) (Qt.dc rfl rfl k0 I1) rfl ?_;refine tk 8 ?_;refine JD.take 9 rfl rfl (by kernel_rfl) rfl (qb rfl) (Qt.dc rfl rfl i0 I2) rfl ?_;refine tk 10 ?_;refine c9 11 (D1) ?_;refine jt 12 rfl rfl (Ld.bh rfl rfl rfl (by exact rfl) (by exact rfl)) (fun _=>?_);refine cu ?_
  all_goals
   repeat (refine gn ?_)
   exact aC func166
end Fl
end Go.Proofs.YtdjhhbpedllnhaaGreat
