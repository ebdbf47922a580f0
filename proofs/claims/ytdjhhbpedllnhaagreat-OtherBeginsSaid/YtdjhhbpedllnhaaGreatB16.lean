/-
  What the laws need, part B16.
  Conditions: none.
-/
import Derived.Test.YtdjhhbpedllnhaaGreatB15
set_option linter.unusedVariables false
set_option linter.unusedSimpArgs false
set_option linter.unnecessarySimpa false
set_option maxHeartbeats 2000000
namespace Go.Proofs.YtdjhhbpedllnhaaGreat
open Go.RowKit
namespace Fl
open Sx Go.Proofs.Tryz
set_option maxRecDepth 100000
theorem TI (s:ah) (g:Nat) (o:Pn.Op) (h:zz s g o) (hi:dK s (aa s g).hold) :
  Pure prog 158 [.agg (aC s),.c (nI g),.agg (dH o)] (.agg (aC (gG s g o))):=by
 have hg:=h.ca.lt;have hf:Few s:=h.ca.fit.toAnd;have hb:=hf.1;have dL:=hf.2.1;have k0:=h.ca.k0;have k1:=h.ca.k1;have hm:=h.ca.md;have I1:=ov k0 k1;have i0:=h.i0;have i1:=h.i1;have J1:=zy i0 i1;have ak:gG s g o=gG s g o:=rfl
 conv at ak=>rhs;unfold gG;simp only
 obtain ⟨gz,eJ,dM,iY⟩:=id hi;have D1:=sW s (aa s g).hold gz eJ (Nat.le_trans (h.ca.fit.rv _) (by omega)) (Nat.le_trans (h.ca.fit.sd _) (by omega)) dL;have q1:dK (aZ s (aa s g).hold) (aa s g).hold:=hi.of (uK _ _) (by rw [fR]);have f1:=h.ca.fit.drop (aa s g).hold;have g1:g < (aZ s (aa s g).hold).gs.length:=by rw [fR];exact hg
 have m1:aT (aZ s (aa s g).hold) (aH o (ax (aa s g).order (aa s g).k)).ch=true:=by rw [KB];exact hm
 generalize ax (aa s g).order (aa s g).k=i at *;generalize aH o i=kk at *;generalize aZ s (aa s g).hold=s1 at *;refine an.intro func158 rfl rfl rfl (fun ok e=>?_)
 cases hs:kk.send with
 | true =>
  simp only [hs,if_true] at ak;have a1:=iC q1.1 q1.2.1;have D2:=vY s1 (aa s g).hold { su s1 (aa s g).hold with v:=kk.v } q1.1 q1.2.1 f1.1.2.2;have q2:dK (aV s1 (aa s g).hold { su s1 (aa s g).hold with v:=kk.v }) (aa s g).hold:=q1.gI rfl;have f2:=f1.gI (aa s g).hold { su s1 (aa s g).hold with v:=kk.v };have g2:g < (aV s1 (aa s g).hold { su s1 (aa s g).hold with v:=kk.v }).gs.length:=g1;generalize aV s1 (aa s g).hold { su s1 (aa s g).hold with v:=kk.v }=s2 at *;have D3:=zb s2 g (aa s g).hold true g2 q2 f2;have g3:g < (Sx.serve s2 g (aa s g).hold true).gs.length:=by rw [rX];exact g2
  have b3:(Sx.serve s2 g (aa s g).hold true).gs.length≤100000:=by rw [rX];exact f2.1.1
  generalize Sx.serve s2 g (aa s g).hold true=s3 at *;have D4:=cV s3 g { aa s3 g with res:=⟨1,i,0,true,0⟩ } g3 b3;have D5:=uM (ai s3 g { aa s3 g with res:=⟨1,i,0,true,0⟩ }) g 30 (by rw [cD];exact g3) (by rw [cD];exact b3);rw [ak]
  repeat (first | refine J.gK (congrArg (fun b=>some (D.c (bI b))) hs) ?_ | refine aX (za ⟨1,0,0,true,0⟩ i) ?_ | refine ay ?_ | intro _)
  exact aD func158
 | false =>
  simp only [hs,Bool.false_eq_true,if_false] at ak;have D2:=Ky s1 kk.ch (aa s g).hold m1 f1.1.2.1 q1.1 q1.2.1 (f1.bf _);have q2:dK (Sx.hand s1 kk.ch (aa s g).hold).1 (aa s g).hold:=q1.of (Kz _ _ _) (by rw [BN]);have f2:=f1.hand kk.ch (aa s g).hold;have g2:g < (Sx.hand s1 kk.ch (aa s g).hold).1.gs.length:=by rw [BN];exact g1
  generalize Sx.hand s1 kk.ch (aa s g).hold=n at *;have D3:=zb n.1 g (aa s g).hold true g2 q2 f2;have g3:g < (Sx.serve n.1 g (aa s g).hold true).gs.length:=by rw [rX];exact g2
  have b3:(Sx.serve n.1 g (aa s g).hold true).gs.length≤100000:=by rw [rX];exact f2.1.1
  generalize Sx.serve n.1 g (aa s g).hold true=s3 at *;have D4:=cV s3 g { aa s3 g with res:={ eB n.2 true with cs:=i } } g3 b3;have D5:=uM (ai s3 g { aa s3 g with res:={ eB n.2 true with cs:=i } }) g 30 (by rw [cD];exact g3) (by rw [cD];exact b3);rw [ak]
  repeat (first | refine J.fT (congrArg (fun b=>some (D.c (bI b))) hs) ?_ | refine aX (kU n.2 true) ?_ | refine aX (za (eB n.2 true) i) ?_ | refine ay ?_ | intro _)
  exact aD func158
theorem KL (s:ah) (g:Nat):(bn s g).1.gs.length=s.gs.length:=by rw [qp]
theorem TJ (s:ah) (g:Nat) (o:Pn.Op) (h:zz s g o) (hp:ou s) (hc:g < s.cache.length) (hd:(bn s g).2.2=true→0≤(bn s g).2.1∧(bn s g).2.1 < s.aA.length) (hl:(aa s g).aq.length=o.cases.length) :
  Pure prog 159 [.agg (aC s),.c (nI g),.agg (dH o)] (.agg (aC (aA s g o))):=by
 have hg:=h.ca.lt;have hf:Few s:=h.ca.fit.toAnd;have hb:=hf.1;have k0:=h.ca.k0;have k1:=h.ca.k1;have kb:=h.ca.fit.od g;have I1:=ov k0 k1;have i0:=h.i0;have i1:=h.i1;have J1:=zy i0 i1;have cl:=h.cl;have ak:aA s g o=aA s g o:=rfl
 conv at ak=>rhs;unfold aA;simp only
 have C1:=Ko s g hc hp;have g1:g < (bn s g).1.gs.length:=by rw [KL];exact hg
 have b1:(bn s g).1.gs.length≤100000:=by rw [KL];exact hb
 have eg:aa (bn s g).1 g=aa s g:=sY (qp s g) g;have u1:=Fj s g;generalize ax (aa s g).order (aa s g).k=i at *;generalize aH o i=kk at *;refine an.intro func159 rfl rfl rfl (fun ok e=>?_)
 cases hs:(bn s g).2.2 with
 | false =>
  rw [if_neg (by rw [hs];simp)] at ak;rw [hs] at C1;rw [ak];generalize (bn s g).1=s1 at *;have A1:=iB g1;rw [eg] at A1;have D1:=cV s1 g { aa s g with res:={ (aa s g).res with code:=6 } } g1 b1;have D2:=uM (ai s1 g { aa s g with res:={ (aa s g).res with code:=6 } }) g 30 (by rw [cD];exact g1) (by rw [cD];exact b1)
  repeat (first | refine ay ?_ | intro _)
  exact aD func159
 | true =>
  obtain ⟨d1,d2⟩:=hd hs;rw [if_pos hs] at ak;rw [hs] at C1;rw [ak];have d3:(bn s g).2.1 < (bn s g).1.aA.length:=by rw [u1];exact d2
  have d4:(bn s g).1.aA.length≤100000:=by rw [u1];exact hf.2.2
  clear hd hs;generalize (bn s g).1=s1 at *;generalize (bn s g).2.1=d at *;have A1:=iB g1;rw [eg] at A1;have D1:=vY s1 d ⟨true,g,kk.ch,i,kk.send,kk.v,false⟩ d1 d3 d4;have g2:g < (aV s1 d ⟨true,g,kk.ch,i,kk.send,kk.v,false⟩).gs.length:=g1;have b2:(aV s1 d ⟨true,g,kk.ch,i,kk.send,kk.v,false⟩).gs.length≤100000:=b1;generalize aV s1 d ⟨true,g,kk.ch,i,kk.send,kk.v,false⟩=s2 at *;have D2:=cV s2 g { aa s g with aq:=(aa s g).aq.set i.toNat d } g2 b2;have kx:(aa (ai s2 g { aa s g with aq:=(aa s g).aq.set i.toNat d }) g)={ aa s g with aq:=(aa s g).aq.set i.toNat d }:=by
   unfold aa ai;simp [g2]
  have D3:=qt (ai s2 g { aa s g with aq:=(aa s g).aq.set i.toNat d }) g 29 (by rw [cD];exact g2) (by rw [cD];exact b2) (by rw [kx];exact k0) (by rw [kx];simp only;omega);have e1:([] ++ List.map (fun n=>[nI n]) (aa s g).aq).set i.toNat [nI d]=((aa s g).aq.set i.toNat d).map (fun n=>[nI n]):=by simp
  have wl:i < (([] ++ List.map (fun n=>[nI n]) (aa s g).aq).length:Int):=by simp;omega
  have wb:=h.ca.fit.sg g;have wn:i.toNat < ([] ++ List.map (fun n=>[nI n]) (aa s g).aq).length:=by simp;omega
  repeat (first | (refine K.bi ?_;refine JO.ld (Ld.cy (qb rfl) rfl rfl .read (by (simp;omega))) rfl (fun _=>?_)) | refine ay ?_ | intro _)
  repeat (first | (refine K.store ?_;refine JO.ld (Ld.eK rfl rfl rfl (by exact rfl) (by exact wn)) rfl (fun _=>?_)) | (refine K.indexAddr ?_;refine jq rfl rfl rfl (Qt.aI rfl rfl (by omega) (by omega)) ?_))
  refine JO.nil ?_;refine J.mT 0 2 22 rfl rfl rfl ?_;rw [e1]
  repeat (refine gn ?_)
  exact aD func159
theorem TK (s:ah) (g:Nat) (o:Pn.Op) (h:zz s g o) (hl:(aa s g).aq.length=o.cases.length) :
  Pure prog 160 [.agg (aC s),.c (nI g),.agg (dH o)] (.agg (aC (iT s g o))):=by
 have hg:=h.ca.lt;have hf:Few s:=h.ca.fit.toAnd;have hb:=hf.1;have dL:=hf.2.1;have k0:=h.ca.k0;have k1:=h.ca.k1;have kb:=h.ca.fit.od g;have I1:=ov k0 k1;have i0:=h.i0;have i1:=h.i1;have J1:=zy i0 i1;have cl:=h.cl;have hm:=h.ca.md;have DD:=fD hm;have rb:=h.ca.fit.rv (aH o (ax (aa s g).order (aa s g).k)).ch;have sb:=h.ca.fit.sd (aH o (ax (aa s g).order (aa s g).k)).ch;have ak:iT s g o=iT s g o:=rfl
 conv at ak=>rhs;unfold iT;simp only
 generalize ax (aa s g).order (aa s g).k=i at *;generalize aH o i=kk at *;have I2:=ov (l:=(aa s g).aq) i0 (by rw [hl];exact i1);refine an.intro func160 rfl rfl rfl (fun ok e=>?_);have W:∀ c:Cn,Pure prog 215 [.agg (aC s),.c (nI kk.ch),.agg (eC c)] (.agg (aC (aE s kk.ch c))):=fun c=>m9 s kk.ch c hm dL
 have gx:∀ c:Cn,aa (aE s kk.ch c) g=aa s g:=fun c=>rfl
 cases hs:kk.send with
 | true =>
  simp only [hs,if_true] at ak;have D1:=W { cn s kk.ch with send:=(cn s kk.ch).send ++ [ax (aa s g).aq i] };have g1:g < (aE s kk.ch { cn s kk.ch with send:=(cn s kk.ch).send ++ [ax (aa s g).aq i] }).gs.length:=hg;have b1:(aE s kk.ch { cn s kk.ch with send:=(cn s kk.ch).send ++ [ax (aa s g).aq i] }).gs.length≤100000:=hb;have t1:=gx { cn s kk.ch with send:=(cn s kk.ch).send ++ [ax (aa s g).aq i] };generalize aE s kk.ch { cn s kk.ch with send:=(cn s kk.ch).send ++ [ax (aa s g).aq i] }=s1 at *
  by_cases hk:(aa s g).k + 1 < (aa s g).order.length
  ·rw [if_pos hk] at ak;rw [ak];have bF:(decide ((aa s g).k + 1 < ((aa s g).order.length:Int)))=true:=decide_eq_true hk;have D2:=qt s1 g 29 g1 b1 (by rw [t1];exact k0) (by rw [t1];omega)
   repeat (first | refine J.gK (congrArg (fun b=>some (D.c (bI b))) hs) ?_ | refine ay ?_ | intro _)
   refine J.draw (by kernel_rfl) rfl ?_;refine JW.base (some 12) ?_;refine tk 1 ?_;refine tk 2 ?_;refine tk 4 ?_;refine tk 5 ?_;refine tk 6 ?_;refine JD.take 7 rfl rfl (by kernel_rfl) rfl (qb rfl) (Qt.cI rfl rfl i0 I2) rfl ?_;refine tk 8 ?_;refine JD.cU (i:=0) (j:=9) (by kernel_rfl) ?_ ?_;refine JS.bZ rfl rfl rfl (qb rfl) (Ld.gJ (qb rfl)) .none (fun _=>?_);refine JD.cU (i:=3) (j:=9) (by kernel_rfl) ?_ ?_;refine JS.bZ rfl rfl rfl (qb rfl) (Ld.cy (qb rfl) rfl rfl .read (by (simp;omega))) (by (exact .row (by repeat ((exact .refl))))) (fun _=>?_);refine jl 9 rfl rfl rfl rfl (Ld.fM (qb rfl) rfl rfl rfl rfl rfl) .none (fun _=>?_);refine jl 10 rfl rfl rfl rfl (Ld.fO (qb rfl) rfl rfl .dj (by (simp;omega))) (by (exact .row (by repeat (first | exact .refl | refine .cons ?_)))) (fun _=>?_);refine jk 11 rfl rfl rfl rfl (Qt.fieldAddr rfl rfl) ?_;refine jt 12 rfl rfl (Ld.cY rfl rfl (by exact rfl)) (fun _=>?_);refine bR ?_
   rotate_left
   refine JS.bZ rfl rfl rfl (qb rfl) (Ld.fM (qb rfl) rfl rfl rfl rfl rfl) .none (fun _=>?_);refine jl 3 rfl rfl rfl rfl (Ld.cy (qb rfl) rfl rfl .read (by (simp;omega))) (by (exact .row (by repeat (first | exact .refl | refine .cons ?_)))) (fun _=>?_);refine jl 10 rfl rfl rfl rfl (Ld.fO (qb rfl) rfl rfl .dj (by (simp;omega))) (by (exact .row (by repeat (first | exact .refl | refine .cons ?_)))) (fun _=>?_);refine jk 11 rfl rfl rfl rfl (Qt.fieldAddr rfl rfl) ?_;refine jt 12 rfl rfl (Ld.cY rfl rfl (by exact rfl)) (fun _=>?_);refine bR ?_
   rotate_left
   refine JS.bZ rfl rfl rfl (qb rfl) (Ld.fM (qb rfl) rfl rfl rfl rfl rfl) .none (fun _=>?_);refine jl 0 rfl rfl rfl rfl (Ld.gJ (qb rfl)) .none (fun _=>?_);refine jl 3 rfl rfl rfl rfl (Ld.cy (qb rfl) rfl rfl .read (by (simp;omega))) (by (exact .row (by repeat (first | exact .refl | refine .cons ?_)))) (fun _=>?_);refine jl 10 rfl rfl rfl rfl (Ld.fO (qb rfl) rfl rfl .dj (by (simp;omega))) (by (exact .row (by repeat (first | exact .refl | refine .cons ?_)))) (fun _=>?_);refine jk 11 rfl rfl rfl rfl (Qt.fieldAddr rfl rfl) ?_;refine jt 12 rfl rfl (Ld.cY rfl rfl (by exact rfl)) (fun _=>?_);refine bR ?_
   rotate_left
   all_goals
    repeat (first | refine kN (D1) ?_ | refine gn ?_)
    exact aD func160
  ·rw [if_neg hk] at ak;rw [ak];have bF:(decide ((aa s g).k + 1 < ((aa s g).order.length:Int)))=false:=decide_eq_false hk;have D2:=cV s1 g { aa s g with iy:=s1.step } g1 b1;have D3:=uM (ai s1 g { aa s g with iy:=s1.step }) g 30 (by rw [cD];exact g1) (by rw [cD];exact b1)
   repeat (first | refine J.gK (congrArg (fun b=>some (D.c (bI b))) hs) ?_ | refine ay ?_ | intro _)
   refine J.draw (by kernel_rfl) rfl ?_;refine JW.base (some 12) ?_;refine tk 1 ?_;refine tk 2 ?_;refine tk 4 ?_;refine tk 5 ?_;refine tk 6 ?_;refine JD.take 7 rfl rfl (by kernel_rfl) rfl (qb rfl) (Qt.cI rfl rfl i0 I2) rfl ?_;refine tk 8 ?_;refine JD.cU (i:=0) (j:=9) (by kernel_rfl) ?_ ?_;refine JS.bZ rfl rfl rfl (qb rfl) (Ld.gJ (qb rfl)) .none (fun _=>?_);refine JD.cU (i:=3) (j:=9) (by kernel_rfl) ?_ ?_;refine JS.bZ rfl rfl rfl (qb rfl) (Ld.cy (qb rfl) rfl rfl .read (by (simp;omega))) (by (exact .row (by repeat ((exact .refl))))) (fun _=>?_);refine jl 9 rfl rfl rfl rfl (Ld.fM (qb rfl) rfl rfl rfl rfl rfl) .none (fun _=>?_);refine jl 10 rfl rfl rfl rfl (Ld.fO (qb rfl) rfl rfl .dj (by (simp;omega))) (by (exact .row (by repeat (first | exact .refl | refine .cons ?_)))) (fun _=>?_);refine jk 11 rfl rfl rfl rfl (Qt.fieldAddr rfl rfl) ?_;refine jt 12 rfl rfl (Ld.cY rfl rfl (by exact rfl)) (fun _=>?_);refine bR ?_
   rotate_left
   refine JS.bZ rfl rfl rfl (qb rfl) (Ld.fM (qb rfl) rfl rfl rfl rfl rfl) .none (fun _=>?_);refine jl 3 rfl rfl rfl rfl (Ld.cy (qb rfl) rfl rfl .read (by (simp;omega))) (by (exact .row (by repeat (first | exact .refl | refine .cons ?_)))) (fun _=>?_);refine jl 10 rfl rfl rfl rfl (Ld.fO (qb rfl) rfl rfl .dj (by (simp;omega))) (by (exact .row (by repeat (first | exact .refl | refine .cons ?_)))) (fun _=>?_);refine jk 11 rfl rfl rfl rfl (Qt.fieldAddr rfl rfl) ?_;refine jt 12 rfl rfl (Ld.cY rfl rfl (by exact rfl)) (fun _=>?_);refine bR ?_
   rotate_left
   refine JS.bZ rfl rfl rfl (qb rfl) (Ld.fM (qb rfl) rfl rfl rfl rfl rfl) .none (fun _=>?_);refine jl 0 rfl rfl rfl rfl (Ld.gJ (qb rfl)) .none (fun _=>?_);refine jl 3 rfl rfl rfl rfl (Ld.cy (qb rfl) rfl rfl .read (by (simp;omega))) (by (exact .row (by repeat (first | exact .refl | refine .cons ?_)))) (fun _=>?_);refine jl 10 rfl rfl rfl rfl (Ld.fO (qb rfl) rfl rfl .dj (by (simp;omega))) (by (exact .row (by repeat (first | exact .refl | refine .cons ?_)))) (fun _=>?_);refine jk 11 rfl rfl rfl rfl (Qt.fieldAddr rfl rfl) ?_;refine jt 12 rfl rfl (Ld.cY rfl rfl (by exact rfl)) (fun _=>?_);refine bR ?_
   rotate_left
   all_goals
    repeat (first | refine kN (D1) ?_ | refine gn ?_)
    exact aD func160
 | false =>
  simp only [hs,Bool.false_eq_true,if_false] at ak;have D1:=W { cn s kk.ch with recv:=(cn s kk.ch).recv ++ [ax (aa s g).aq i] };have g1:g < (aE s kk.ch { cn s kk.ch with recv:=(cn s kk.ch).recv ++ [ax (aa s g).aq i] }).gs.length:=hg;have b1:(aE s kk.ch { cn s kk.ch with recv:=(cn s kk.ch).recv ++ [ax (aa s g).aq i] }).gs.length≤100000:=hb;have t1:=gx { cn s kk.ch with recv:=(cn s kk.ch).recv ++ [ax (aa s g).aq i] };generalize aE s kk.ch { cn s kk.ch with recv:=(cn s kk.ch).recv ++ [ax (aa s g).aq i] }=s1 at *
  by_cases hk:(aa s g).k + 1 < (aa s g).order.length
  ·rw [if_pos hk] at ak;rw [ak];have bF:(decide ((aa s g).k + 1 < ((aa s g).order.length:Int)))=true:=decide_eq_true hk;have D2:=qt s1 g 29 g1 b1 (by rw [t1];exact k0) (by rw [t1];omega)
   repeat (first | refine J.fT (congrArg (fun b=>some (D.c (bI b))) hs) ?_ | refine ay ?_ | intro _)
   refine J.draw (by kernel_rfl) rfl ?_;refine JW.base (some 12) ?_;refine tk 1 ?_;refine tk 2 ?_;refine tk 4 ?_;refine tk 5 ?_;refine tk 6 ?_;refine JD.take 7 rfl rfl (by kernel_rfl) rfl (qb rfl) (Qt.cI rfl rfl i0 I2) rfl ?_;refine tk 8 ?_;refine JD.cU (i:=0) (j:=9) (by kernel_rfl) ?_ ?_;refine JS.bZ rfl rfl rfl (qb rfl) (Ld.gJ (qb rfl)) .none (fun _=>?_);refine JD.cU (i:=3) (j:=9) (by kernel_rfl) ?_ ?_;refine JS.bZ rfl rfl rfl (qb rfl) (Ld.cy (qb rfl) rfl rfl .read (by (simp;omega))) (by (exact .row (by repeat ((exact .refl))))) (fun _=>?_);refine jl 9 rfl rfl rfl rfl (Ld.fM (qb rfl) rfl rfl rfl rfl rfl) .none (fun _=>?_);refine jl 10 rfl rfl rfl rfl (Ld.fO (qb rfl) rfl rfl .dj (by (simp;omega))) (by (exact .row (by repeat (first | exact .refl | refine .cons ?_)))) (fun _=>?_);refine jk 11 rfl rfl rfl rfl (Qt.fieldAddr rfl rfl) ?_;refine jt 12 rfl rfl (Ld.cY rfl rfl (by exact rfl)) (fun _=>?_);refine bR ?_
   rotate_left
   refine JS.bZ rfl rfl rfl (qb rfl) (Ld.fM (qb rfl) rfl rfl rfl rfl rfl) .none (fun _=>?_);refine jl 3 rfl rfl rfl rfl (Ld.cy (qb rfl) rfl rfl .read (by (simp;omega))) (by (exact .row (by repeat (first | exact .refl | refine .cons ?_)))) (fun _=>?_);refine jl 10 rfl rfl rfl rfl (Ld.fO (qb rfl) rfl rfl .dj (by (simp;omega))) (by (exact .row (by repeat (first | exact .refl | refine .cons ?_)))) (fun _=>?_);refine jk 11 rfl rfl rfl rfl (Qt.fieldAddr rfl rfl) ?_;refine jt 12 rfl rfl (Ld.cY rfl rfl (by exact rfl)) (fun _=>?_);refine bR ?_
   rotate_left
   refine JS.bZ rfl rfl rfl (qb rfl) (Ld.fM (qb rfl) rfl rfl rfl rfl rfl) .none (fun _=>?_);refine jl 0 rfl rfl rfl rfl (Ld.gJ (qb rfl)) .none (fun _=>?_);refine jl 3 rfl rfl rfl rfl (Ld.cy (qb rfl) rfl rfl .read (by (simp;omega))) (by (exact .row (by repeat (first | exact .refl | refine .cons ?_)))) (fun _=>?_);refine jl 10 rfl rfl rfl rfl (Ld.fO (qb rfl) rfl rfl .dj (by (simp;omega))) (by (exact .row (by repeat (first | exact .refl | refine .cons ?_)))) (fun _=>?_);refine jk 11 rfl rfl rfl rfl (Qt.fieldAddr rfl rfl) ?_;refine jt 12 rfl rfl (Ld.cY rfl rfl (by exact rfl)) (fun _=>?_);refine bR ?_
   rotate_left
   all_goals
    repeat (first | refine kN (D1) ?_ | refine gn ?_)
    exact aD func160
  ·rw [if_neg hk] at ak;rw [ak];have bF:(decide ((aa s g).k + 1 < ((aa s g).order.length:Int)))=false:=decide_eq_false hk;have D2:=cV s1 g { aa s g with iy:=s1.step } g1 b1;have D3:=uM (ai s1 g { aa s g with iy:=s1.step }) g 30 (by rw [cD];exact g1) (by rw [cD];exact b1)
   repeat (first | refine J.fT (congrArg (fun b=>some (D.c (bI b))) hs) ?_ | refine ay ?_ | intro _)
   refine J.draw (by kernel_rfl) rfl ?_;refine JW.base (some 12) ?_;refine tk 1 ?_;refine tk 2 ?_;refine tk 4 ?_;refine tk 5 ?_;refine tk 6 ?_;refine JD.take 7 rfl rfl (by kernel_rfl) rfl (qb rfl) (Qt.cI rfl rfl i0 I2) rfl ?_;refine tk 8 ?_;refine JD.cU (i:=0) (j:=9) (by kernel_rfl) ?_ ?_;refine JS.bZ rfl rfl rfl (qb rfl) (Ld.gJ (qb rfl)) .none (fun _=>?_);refine JD.cU (i:=3) (j:=9) (by kernel_rfl) ?_ ?_;refine JS.bZ rfl rfl rfl (qb rfl) (Ld.cy (qb rfl) rfl rfl .read (by (simp;omega))) (by (exact .row (by repeat ((exact .refl))))) (fun _=>?_);refine jl 9 rfl rfl rfl rfl (Ld.fM (qb rfl) rfl rfl rfl rfl rfl) .none (fun _=>?_);refine jl 10 rfl rfl rfl rfl (Ld.fO (qb rfl) rfl rfl .dj (by (simp;omega))) (by (exact .row (by repeat (first | exact .refl | refine .cons ?_)))) (fun _=>?_);refine jk 11 rfl rfl rfl rfl (Qt.fieldAddr rfl rfl) ?_;refine jt 12 rfl rfl (Ld.cY rfl rfl (by exact rfl)) (fun _=>?_);refine bR ?_
   rotate_left
   refine JS.bZ rfl rfl rfl (qb rfl) (Ld.fM (qb rfl) rfl rfl rfl rfl rfl) .none (fun _=>?_);refine jl 3 rfl rfl rfl rfl (Ld.cy (qb rfl) rfl rfl .read (by (simp;omega))) (by (exact .row (by repeat (first | exact .refl | refine .cons ?_)))) (fun _=>?_);refine jl 10 rfl rfl rfl rfl (Ld.fO (qb rfl) rfl rfl .dj (by (simp;omega))) (by (exact .row (by repeat (first | exact .refl | refine .cons ?_)))) (fun _=>?_);refine jk 11 rfl rfl rfl rfl (Qt.fieldAddr rfl rfl) ?_;refine jt 12 rfl rfl (Ld.cY rfl rfl (by exact rfl)) (fun _=>?_);refine bR ?_
   rotate_left
   refine JS.bZ rfl rfl rfl (qb rfl) (Ld.fM (qb rfl) rfl rfl rfl rfl rfl) .none (fun _=>?_);refine jl 0 rfl rfl rfl rfl (Ld.gJ (qb rfl)) .none (fun _=>?_);refine jl 3 rfl rfl rfl rfl (Ld.cy (qb rfl) rfl rfl .read (by (simp;omega))) (by (exact .row (by repeat (first | exact .refl | refine .cons ?_)))) (fun _=>?_);refine jl 10 rfl rfl rfl rfl (Ld.fO (qb rfl) rfl rfl .dj (by (simp;omega))) (by (exact .row (by repeat (first | exact .refl | refine .cons ?_)))) (fun _=>?_);refine jk 11 rfl rfl rfl rfl (Qt.fieldAddr rfl rfl) ?_;refine jt 12 rfl rfl (Ld.cY rfl rfl (by exact rfl)) (fun _=>?_);refine bR ?_
   rotate_left
   all_goals
    repeat (first | refine kN (D1) ?_ | refine gn ?_)
    exact aD func160
end Fl
open Go.RowKit
namespace Fl
open Sx Go.Proofs.Tryz
set_option maxRecDepth 100000
theorem KM (s:ah) (g:Nat) (hg:g < s.gs.length) (hb:Few s) (k0:1≤(aa s g).k) (k1:(aa s g).k≤(aa s g).aB.length) (kb:(aa s g).aB.length≤100000) (hm:aT s (ax (aa s g).aB ((aa s g).k - 1))=true) :
  Pure prog 161 [.agg (aC s),.c (nI g)] (.bp [.agg (aC (Sx.ck s g).1),.c (bI (Sx.ck s g).2)]):=by
 have j0:0≤(aa s g).k - 1:=by omega
 have j1:(aa s g).k - 1 < (aa s g).aB.length:=by omega
 have I1:=ov j0 j1;have D1:=Em s (ax (aa s g).aB ((aa s g).k - 1)) hm hb.2.1;have er:Sx.ck s g=(ai (Sx.free s (ax (aa s g).aB ((aa s g).k - 1))) g { aa s g with k:=(aa s g).k - 1 },decide (0 < (aa s g).k - 1)):=rfl;rw [er];have g1:g < (Sx.free s (ax (aa s g).aB ((aa s g).k - 1))).gs.length:=hg;have b1:(Sx.free s (ax (aa s g).aB ((aa s g).k - 1))).gs.length≤100000:=hb.1;generalize Sx.free s (ax (aa s g).aB ((aa s g).k - 1))=s1 at *;have D2:=cV s1 g { aa s g with k:=(aa s g).k - 1 } g1 b1;refine an.intro func161 rfl rfl rfl (fun ok e=>?_)
 repeat (first | refine ay ?_ | intro _)
 refine J.draw (by kernel_rfl) rfl ?_;refine JW.sv none (.tmp 4) rfl ?_;refine tk 0 ?_;refine tk 1 ?_;refine tk 2 ?_;refine tk 3 ?_;refine tk 4 ?_;refine JD.take 5 rfl rfl (by kernel_rfl) rfl (qb rfl) (Qt.cI rfl rfl j0 I1) rfl ?_;refine tk 6 ?_;refine tk 8 ?_;refine tk 9 ?_;refine tk 11 ?_;refine tk 12 ?_;refine tk 13 ?_;refine dA 7 (D1) ?_;refine dA 10 (D2) ?_;refine JD.gU (i:=14) (by kernel_rfl) ?_
 (refine JS.st rfl rfl rfl (Ld.bq rfl rfl rfl (by exact rfl) (by exact rfl)) (.lA rfl) (fun _=>?_))
 refine jk 15 rfl rfl rfl rfl (Qt.assign rfl) ?_;refine bE ?_
 all_goals
  exact aD func161
theorem TM (l:List Int) (hb:l.length≤100000) :
  Pure prog 163 [.c (ints l)] (.c (bI (jT l))):=by
 refine an.intro func163 rfl rfl rfl (fun ok e=>?_)
 repeat (refine gn ?_)
 refine J.loop (ι:={ k:Nat // k≤l.length∧∀ (j:Nat) (x:Int),j < k→l[j]?=some x→x < 0 }) (fun p=>[(5,.c (ints l)),(6,.c (nI l.length)),(7,.c (nI p.1))]) (fun _=>[]) (fun p=>l.length - p.1) ⟨0,Nat.zero_le _,fun j x h=>absurd h (Nat.not_lt_zero _)⟩ (fun X h=>h.aW ⟨rfl,rfl,rfl,trivial⟩) (fun p ih=>?_);obtain ⟨k,zA,hk⟩:=p;simp only at ih ⊢
 by_cases kJ:k < l.length
 ·obtain ⟨y,hy⟩:∃ y,l[k]?=some y:=⟨_,List.getElem?_eq_getElem kJ⟩
  have h1:(decide ((k:Int) < (l.length:Int)))=true:=by simpa using kJ
  by_cases h0:0≤y
  ·have h2:(decide (y ≥ 0))=true:=decide_eq_true h0;have e1:jT l=true:=by
    unfold jT;rw [List.any_eq_true];exact ⟨y,List.mem_of_getElem? hy,decide_eq_true h0⟩
   rw [e1]
   repeat (refine gn ?_)
   exact aD func163
  ·have h2:(decide (y ≥ 0))=false:=decide_eq_false h0
   repeat (refine gn ?_)
   exact (ih ⟨k + 1,by omega,fun j x hj hx=>by
    rcases Nat.lt_succ_iff_lt_or_eq.1 hj with h | h
    ·exact hk j x h hx
    ·subst h;rw [hy] at hx;cases hx;omega⟩ (by simp only;omega)).aW ⟨rfl,rfl,rfl,trivial⟩
 ·have h1:(decide ((k:Int) < (l.length:Int)))=false:=by simpa using kJ
  have e1:jT l=false:=by
   unfold jT;rw [List.any_eq_false];intro x hx;obtain ⟨j,hj⟩:=List.getElem?_of_mem hx;have:=(List.getElem?_eq_some_iff.1 hj).1;have:=hk j x (by omega) hj;simp;omega
  rw [e1]
  repeat (refine gn ?_)
  exact aD func163
theorem TN (s:ah) (g:Nat) (hg:g < s.gs.length) (hb:s.gs.length≤100000) (h0:0≤(aa s g).param) (h1:(aa s g).param < s.aA.length) :
  Pure prog 165 [.agg (aC s),.c (nI g)] (.agg (aC (Sx.kj s g))):=by
 have A1:=iC h0 h1;have ak:Sx.kj s g=Sx.kj s g:=rfl
 conv at ak=>rhs;unfold Sx.kj;simp only
 generalize su s (aa s g).param=d at *;rcases d with ⟨lv,dg,Yi,pF,ds,dv,dd⟩;have D1:=za (eB 0 false) pF;have D2:=za (eB dv true) pF;refine an.intro func165 rfl rfl rfl (fun ok e=>?_)
 cases dd with
 | true =>
  cases ds with
  | true =>
   simp only [if_true,and_self] at ak;rw [ak]
   repeat (first | refine ay ?_ | intro _)
   refine J.draw (by kernel_rfl) rfl ?_;refine JW.base (some 5) ?_;refine tk 1 ?_;refine tk 2 ?_;refine dA 0 (kU 0 false) ?_;refine dA 3 (D1) ?_;refine jk 4 rfl rfl rfl rfl (Qt.fieldAddr rfl rfl) ?_;refine jt 5 rfl rfl (Ld.qT rfl rfl rfl (by exact rfl) (by exact rfl)) (fun _=>?_);refine bR ?_
   all_goals
    repeat (refine gn ?_)
    refine J.draw (by kernel_rfl) rfl ?_;refine JW.base (some 7) ?_;refine tk 0 ?_;refine tk 1 ?_;refine tk 3 ?_;refine tk 4 ?_;refine dA 2 (kU dv true) ?_;refine dA 5 (D2) ?_;refine jk 6 rfl rfl rfl rfl (Qt.fieldAddr rfl rfl) ?_;refine jt 7 rfl rfl (Ld.qT rfl rfl rfl (by exact rfl) (by exact rfl)) (fun _=>?_);refine bR ?_
    all_goals
     repeat (first | refine aX (cV s g { aa s g with res:=⟨1,pF,0,true,0⟩,param:=-1,k:=0,place:=31 } hg hb) ?_ | refine gn ?_)
     exact aD func165
  | false =>
   simp only [if_true,Bool.false_eq_true,false_and,if_false] at ak;rw [ak]
   repeat (first | refine ay ?_ | intro _)
   refine J.draw (by kernel_rfl) rfl ?_;refine JW.base (some 5) ?_;refine tk 1 ?_;refine tk 2 ?_;refine dA 0 (kU 0 false) ?_;refine dA 3 (D1) ?_;refine jk 4 rfl rfl rfl rfl (Qt.fieldAddr rfl rfl) ?_;refine jt 5 rfl rfl (Ld.qT rfl rfl rfl (by exact rfl) (by exact rfl)) (fun _=>?_);refine bR ?_
   all_goals
    repeat (refine gn ?_)
    refine J.draw (by kernel_rfl) rfl ?_;refine JW.base (some 7) ?_;refine tk 0 ?_;refine tk 1 ?_;refine tk 3 ?_;refine tk 4 ?_;refine dA 2 (kU dv true) ?_;refine dA 5 (D2) ?_;refine jk 6 rfl rfl rfl rfl (Qt.fieldAddr rfl rfl) ?_;refine jt 7 rfl rfl (Ld.qT rfl rfl rfl (by exact rfl) (by exact rfl)) (fun _=>?_);refine bR ?_
    all_goals
     repeat (first | refine aX (cV s g { aa s g with res:=⟨1,pF,dv,true,0⟩,param:=-1,k:=0,place:=31 } hg hb) ?_ | refine gn ?_)
     exact aD func165
 | false =>
  cases ds with
  | true =>
   simp only [if_true,Bool.false_eq_true,and_false,if_false] at ak;rw [ak]
   repeat (first | refine ay ?_ | intro _)
   refine J.draw (by kernel_rfl) rfl ?_;refine JW.base (some 5) ?_;refine tk 1 ?_;refine tk 2 ?_;refine dA 0 (kU 0 false) ?_;refine dA 3 (D1) ?_;refine jk 4 rfl rfl rfl rfl (Qt.fieldAddr rfl rfl) ?_;refine jt 5 rfl rfl (Ld.qT rfl rfl rfl (by exact rfl) (by exact rfl)) (fun _=>?_);refine bR ?_
   all_goals
    repeat (first | refine aX (cV s g { aa s g with res:=⟨3,pF,0,false,0⟩,param:=-1,k:=0,place:=31 } hg hb) ?_ | refine gn ?_)
    exact aD func165
  | false =>
   simp only [Bool.false_eq_true,and_false,if_false] at ak;rw [ak]
   repeat (first | refine ay ?_ | intro _)
   refine J.draw (by kernel_rfl) rfl ?_;refine JW.base (some 5) ?_;refine tk 1 ?_;refine tk 2 ?_;refine dA 0 (kU 0 false) ?_;refine dA 3 (D1) ?_;refine jk 4 rfl rfl rfl rfl (Qt.fieldAddr rfl rfl) ?_;refine jt 5 rfl rfl (Ld.qT rfl rfl rfl (by exact rfl) (by exact rfl)) (fun _=>?_);refine bR ?_
   all_goals
    repeat (first | refine aX (cV s g { aa s g with res:=⟨1,pF,0,false,0⟩,param:=-1,k:=0,place:=31 } hg hb) ?_ | refine gn ?_)
    exact aD func165
theorem TO (s:ah) (g:Nat) (hg:g < s.gs.length) (hb:Fit s) (k0:0≤(aa s g).k) (k1:(aa s g).k < (aa s g).order.length) (i0:0≤ax (aa s g).order (aa s g).k) (i1:ax (aa s g).order (aa s g).k < (aa s g).aq.length)
  (j0:0≤ax (aa s g).aq (ax (aa s g).order (aa s g).k)) (j1:ax (aa s g).aq (ax (aa s g).order (aa s g).k) < s.aA.length) :
  Pure prog 166 [.agg (aC s),.c (nI g)] (.agg (aC (iU s g))):=by
 have I1:=ov k0 k1;have I2:=ov i0 i1;have kb:=hb.od g;have ak:iU s g=iU s g:=rfl
 conv at ak=>rhs;unfold iU;simp only
 have D1:=sW s (ax (aa s g).aq (ax (aa s g).order (aa s g).k)) j0 j1 (Nat.le_trans (hb.rv _) (by omega)) (Nat.le_trans (hb.sd _) (by omega)) hb.1.2.1;have g1:g < (aZ s (ax (aa s g).aq (ax (aa s g).order (aa s g).k))).gs.length:=by rw [fR];exact hg
 have b1:(aZ s (ax (aa s g).aq (ax (aa s g).order (aa s g).k))).gs.length≤100000:=by rw [fR];exact hb.1.1
 have eg:aa (aZ s (ax (aa s g).aq (ax (aa s g).order (aa s g).k))) g=aa s g:=sY (fR _ _) g;generalize aZ s (ax (aa s g).aq (ax (aa s g).order (aa s g).k))=s1 at *;refine an.intro func166 rfl rfl rfl (fun ok e=>?_)
 by_cases hk:(aa s g).k + 1 < (aa s g).order.length
 ·rw [if_pos hk] at ak;rw [ak];have bF:(decide ((aa s g).k + 1 < ((aa s g).order.length:Int)))=true:=decide_eq_true hk;have D2:=qt s1 g 32 g1 b1 (by rw [eg];exact k0) (by rw [eg];omega)
  repeat (first | refine ay ?_ | intro _)
  refine J.draw (by kernel_rfl) rfl ?_;refine JW.base (some 12) ?_;refine tk 0 ?_;refine tk 1 ?_;refine tk 2 ?_;refine tk 3 ?_;refine tk 4 ?_;refine tk 5 ?_;refine tk 6 ?_;refine JD.take 7 rfl rfl (by kernel_rfl) rfl (qb rfl) (Qt.cI rfl rfl k0 I1) rfl ?_;refine tk 8 ?_;refine JD.take 9 rfl rfl (by kernel_rfl) rfl (qb rfl) (Qt.cI rfl rfl i0 I2) rfl ?_;refine tk 10 ?_;refine dA 11 (D1) ?_;refine jt 12 rfl rfl (Ld.bq rfl rfl rfl (by exact rfl) (by exact rfl)) (fun _=>?_);refine bR ?_
  all_goals
   repeat (refine gn ?_)
   exact aD func166
 ·rw [if_neg hk] at ak;rw [ak];have bF:(decide ((aa s g).k + 1 < ((aa s g).order.length:Int)))=false:=decide_eq_false hk;have D2:=uM s1 g 33 g1 b1
  repeat (first | refine ay ?_ | intro _)
  refine J.draw (by kernel_rfl) rfl ?_;refine JW.base (some 12) ?_;refine tk 0 ?_;refine tk 1 ?_;refine tk 2 ?_;refine tk 3 ?_;refine tk 4 ?_;refine tk 5 ?_;refine tk 6 ?_;refine JD.take 7 rfl rfl (by kernel_rfl) rfl (qb rfl) (Qt.cI rfl rfl k0 I1) rfl ?_;refine tk 8 ?_;refine JD.take 9 rfl rfl (by kernel_rfl) rfl (qb rfl) (Qt.cI rfl rfl i0 I2) rfl ?_;refine tk 10 ?_;refine dA 11 (D1) ?_;refine jt 12 rfl rfl (Ld.bq rfl rfl rfl (by exact rfl) (by exact rfl)) (fun _=>?_);refine bR ?_
  all_goals
   repeat (refine gn ?_)
   exact aD func166
end Fl
end Go.Proofs.YtdjhhbpedllnhaaGreat
