/-
  What the laws need, part A36.
  Conditions: none.
-/
import Derived.Test.YtofnbflkhgammaaGreatA35
set_option linter.unusedVariables false
set_option linter.unusedSimpArgs false
set_option linter.unnecessarySimpa false
set_option maxHeartbeats 2000000
namespace Go.Proofs.YtofnbflkhgammaaGreat
open Go.RowKit
namespace Fl
open Sx
set_option maxRecDepth 100000
theorem XJ (s:Sx.St) (g:Nat) (o:Pn.Op) (h:zz s g o) (hi:dm s (Sx.gr s g).hold) :
  Pure Tryz.prog 204 [.agg (ay s),.c (nI g),.agg (dO o)] (.agg (ay (j4 s g o))):=by
 have hg:=h.ca.lt;have hf:Few s:=h.ca.fit.toAnd;have hb:=hf.1;have dz:=hf.2.1;have k0:=h.ca.k0;have k1:=h.ca.k1;have hm:=h.ca.md;have I1:=ou k0 k1;have i0:=h.i0;have i1:=h.i1;have J1:=zy i0 i1;have ag:j4 s g o=j4 s g o:=rfl
 conv at ag=>rhs;unfold j4;simp only
 obtain ⟨fV,dI,dA,gP⟩:=id hi;have D1:=tr s (Sx.gr s g).hold fV dI (Nat.le_trans (h.ca.fit.rv _) (by omega)) (Nat.le_trans (h.ca.fit.sd _) (by omega)) dz;have q1:dm (Sx.drop s (Sx.gr s g).hold) (Sx.gr s g).hold:=hi.of (uK _ _) (by rw [fL]);have f1:=h.ca.fit.drop (Sx.gr s g).hold;have g1:g < (Sx.drop s (Sx.gr s g).hold).gs.length:=by rw [fL];exact hg
 have m1:Sx.made (Sx.drop s (Sx.gr s g).hold) (bZ o (aA (Sx.gr s g).order (Sx.gr s g).k)).ch=true:=by rw [MM];exact hm
 generalize aA (Sx.gr s g).order (Sx.gr s g).k=i at *;generalize bZ o i=kk at *;generalize Sx.drop s (Sx.gr s g).hold=s1 at *;refine aq.intro Tryz.func204 rfl rfl rfl (fun ok e=>?_)
 cases hs:kk.send with
 | true =>
  simp only [hs,if_true] at ag;have a1:=ic q1.1 q1.2.1;have D2:=wu s1 (Sx.gr s g).hold { su s1 (Sx.gr s g).hold with v:=kk.v } q1.1 q1.2.1 f1.1.2.2;have q2:dm (Sx.aF s1 (Sx.gr s g).hold { su s1 (Sx.gr s g).hold with v:=kk.v }) (Sx.gr s g).hold:=q1.aF rfl;have f2:=f1.aF (Sx.gr s g).hold { su s1 (Sx.gr s g).hold with v:=kk.v };have g2:g < (Sx.aF s1 (Sx.gr s g).hold { su s1 (Sx.gr s g).hold with v:=kk.v }).gs.length:=g1;generalize Sx.aF s1 (Sx.gr s g).hold { su s1 (Sx.gr s g).hold with v:=kk.v }=s2 at *;have D3:=wv s2 g (Sx.gr s g).hold true g2 q2 f2;have g3:g < (Sx.serve s2 g (Sx.gr s g).hold true).gs.length:=by rw [rP];exact g2
  have b3:(Sx.serve s2 g (Sx.gr s g).hold true).gs.length≤100000:=by rw [rP];exact f2.1.1
  generalize Sx.serve s2 g (Sx.gr s g).hold true=s3 at *;have D4:=cE s3 g { Sx.gr s3 g with res:=⟨1,i,0,true,0⟩ } g3 b3;have D5:=uO (Sx.aa s3 g { Sx.gr s3 g with res:=⟨1,i,0,true,0⟩ }) g 30 (by rw [bV];exact g3) (by rw [bV];exact b3);rw [ag]
  repeat (first | refine J.eN (congrArg (fun b=>some (D.c (bI b))) hs) ?_ | refine aJ (ze ⟨1,0,0,true,0⟩ i) ?_ | refine au ?_ | intro _)
  exact az Tryz.func204
 | false =>
  simp only [hs,Bool.false_eq_true,if_false] at ag;have D2:=MK s1 kk.ch (Sx.gr s g).hold m1 f1.1.2.1 q1.1 q1.2.1 (f1.bf _);have q2:dm (Sx.hand s1 kk.ch (Sx.gr s g).hold).1 (Sx.gr s g).hold:=q1.of (ML _ _ _) (by rw [B1]);have f2:=f1.hand kk.ch (Sx.gr s g).hold;have g2:g < (Sx.hand s1 kk.ch (Sx.gr s g).hold).1.gs.length:=by rw [B1];exact g1
  generalize Sx.hand s1 kk.ch (Sx.gr s g).hold=n at *;have D3:=wv n.1 g (Sx.gr s g).hold true g2 q2 f2;have g3:g < (Sx.serve n.1 g (Sx.gr s g).hold true).gs.length:=by rw [rP];exact g2
  have b3:(Sx.serve n.1 g (Sx.gr s g).hold true).gs.length≤100000:=by rw [rP];exact f2.1.1
  generalize Sx.serve n.1 g (Sx.gr s g).hold true=s3 at *;have D4:=cE s3 g { Sx.gr s3 g with res:={ ee n.2 true with cs:=i } } g3 b3;have D5:=uO (Sx.aa s3 g { Sx.gr s3 g with res:={ ee n.2 true with cs:=i } }) g 30 (by rw [bV];exact g3) (by rw [bV];exact b3);rw [ag]
  repeat (first | refine J.ez (congrArg (fun b=>some (D.c (bI b))) hs) ?_ | refine aJ (kQ n.2 true) ?_ | refine aJ (ze (ee n.2 true) i) ?_ | refine au ?_ | intro _)
  exact az Tryz.func204
theorem MV (s:Sx.St) (g:Nat):(bu s g).1.gs.length=s.gs.length:=by rw [B0]
theorem XK (s:Sx.St) (g:Nat) (o:Pn.Op) (h:zz s g o) (hp:ot s) (hc:g < s.cache.length) (hd:(bu s g).2.2=true→0≤(bu s g).2.1∧(bu s g).2.1 < s.aB.length) (hl:(Sx.gr s g).ak.length=o.cases.length) :
  Pure Tryz.prog 205 [.agg (ay s),.c (nI g),.agg (dO o)] (.agg (ay (aB s g o))):=by
 have hg:=h.ca.lt;have hf:Few s:=h.ca.fit.toAnd;have hb:=hf.1;have k0:=h.ca.k0;have k1:=h.ca.k1;have kb:=h.ca.fit.od g;have I1:=ou k0 k1;have i0:=h.i0;have i1:=h.i1;have J1:=zy i0 i1;have cl:=h.cl;have ag:aB s g o=aB s g o:=rfl
 conv at ag=>rhs;unfold aB;simp only
 have C1:=MA s g hc hp;have g1:g < (bu s g).1.gs.length:=by rw [MV];exact hg
 have b1:(bu s g).1.gs.length≤100000:=by rw [MV];exact hb
 have eg:Sx.gr (bu s g).1 g=Sx.gr s g:=tv (B0 s g) g;have u1:=F7 s g;generalize aA (Sx.gr s g).order (Sx.gr s g).k=i at *;generalize bZ o i=kk at *;refine aq.intro Tryz.func205 rfl rfl rfl (fun ok e=>?_)
 cases hs:(bu s g).2.2 with
 | false =>
  rw [if_neg (by rw [hs];simp)] at ag;rw [hs] at C1;rw [ag];generalize (bu s g).1=s1 at *;have A1:=iA g1;rw [eg] at A1;have D1:=cE s1 g { Sx.gr s g with res:={ (Sx.gr s g).res with code:=6 } } g1 b1;have D2:=uO (Sx.aa s1 g { Sx.gr s g with res:={ (Sx.gr s g).res with code:=6 } }) g 30 (by rw [bV];exact g1) (by rw [bV];exact b1)
  repeat (first | refine au ?_ | intro _)
  exact az Tryz.func205
 | true =>
  obtain ⟨d1,d2⟩:=hd hs;rw [if_pos hs] at ag;rw [hs] at C1;rw [ag];have d3:(bu s g).2.1 < (bu s g).1.aB.length:=by rw [u1];exact d2
  have d4:(bu s g).1.aB.length≤100000:=by rw [u1];exact hf.2.2
  clear hd hs;generalize (bu s g).1=s1 at *;generalize (bu s g).2.1=d at *;have A1:=iA g1;rw [eg] at A1;have D1:=wu s1 d ⟨true,g,kk.ch,i,kk.send,kk.v,false⟩ d1 d3 d4;have g2:g < (Sx.aF s1 d ⟨true,g,kk.ch,i,kk.send,kk.v,false⟩).gs.length:=g1;have b2:(Sx.aF s1 d ⟨true,g,kk.ch,i,kk.send,kk.v,false⟩).gs.length≤100000:=b1;generalize Sx.aF s1 d ⟨true,g,kk.ch,i,kk.send,kk.v,false⟩=s2 at *;have D2:=cE s2 g { Sx.gr s g with ak:=(Sx.gr s g).ak.set i.toNat d } g2 b2;have kx:(Sx.gr (Sx.aa s2 g { Sx.gr s g with ak:=(Sx.gr s g).ak.set i.toNat d }) g)={ Sx.gr s g with ak:=(Sx.gr s g).ak.set i.toNat d }:=by
   unfold Sx.gr Sx.aa;simp [g2]
  have D3:=qm (Sx.aa s2 g { Sx.gr s g with ak:=(Sx.gr s g).ak.set i.toNat d }) g 29 (by rw [bV];exact g2) (by rw [bV];exact b2) (by rw [kx];exact k0) (by rw [kx];simp only;omega);have e1:([] ++ List.map (fun n=>[nI n]) (Sx.gr s g).ak).set i.toNat [nI d]=((Sx.gr s g).ak.set i.toNat d).map (fun n=>[nI n]):=by simp
  have wl:i < (([] ++ List.map (fun n=>[nI n]) (Sx.gr s g).ak).length:Int):=by simp;omega
  have wb:=h.ca.fit.sg g;have wn:i.toNat < ([] ++ List.map (fun n=>[nI n]) (Sx.gr s g).ak).length:=by simp;omega
  repeat (first | (refine K.bi ?_;refine JO.ld (Ld.bY (qb rfl) rfl rfl .read (by (simp;omega))) rfl (fun _=>?_)) | refine au ?_ | intro _)
  repeat (first | (refine K.store ?_;refine JO.ld (Ld.fO rfl rfl rfl (by exact rfl) (by exact wn)) rfl (fun _=>?_)) | (refine K.indexAddr ?_;refine jq rfl rfl rfl (Qt.bF rfl rfl (by omega) (by omega)) ?_))
  refine JO.nil ?_;refine J.mF 0 2 22 rfl rfl rfl ?_;rw [e1]
  repeat (refine gn ?_)
  exact az Tryz.func205
theorem XL (s:Sx.St) (g:Nat) (o:Pn.Op) (h:zz s g o) (hl:(Sx.gr s g).ak.length=o.cases.length) :
  Pure Tryz.prog 206 [.agg (ay s),.c (nI g),.agg (dO o)] (.agg (ay (lA s g o))):=by
 have hg:=h.ca.lt;have hf:Few s:=h.ca.fit.toAnd;have hb:=hf.1;have dz:=hf.2.1;have k0:=h.ca.k0;have k1:=h.ca.k1;have kb:=h.ca.fit.od g;have I1:=ou k0 k1;have i0:=h.i0;have i1:=h.i1;have J1:=zy i0 i1;have cl:=h.cl;have hm:=h.ca.md;have ig:=eD hm;have rb:=h.ca.fit.rv (bZ o (aA (Sx.gr s g).order (Sx.gr s g).k)).ch;have sb:=h.ca.fit.sd (bZ o (aA (Sx.gr s g).order (Sx.gr s g).k)).ch;have ag:lA s g o=lA s g o:=rfl
 conv at ag=>rhs;unfold lA;simp only
 generalize aA (Sx.gr s g).order (Sx.gr s g).k=i at *;generalize bZ o i=kk at *;have I2:=ou (l:=(Sx.gr s g).ak) i0 (by rw [hl];exact i1);refine aq.intro Tryz.func206 rfl rfl rfl (fun ok e=>?_);have W:∀ c:Cn,Pure Tryz.prog 136 [.agg (ay s),.c (nI kk.ch),.agg (eC c)] (.agg (ay (Sx.av s kk.ch c))):=fun c=>mX s kk.ch c hm dz
 have gx:∀ c:Cn,Sx.gr (Sx.av s kk.ch c) g=Sx.gr s g:=fun c=>rfl
 cases hs:kk.send with
 | true =>
  simp only [hs,if_true] at ag;have D1:=W { cn s kk.ch with send:=(cn s kk.ch).send ++ [aA (Sx.gr s g).ak i] };have g1:g < (Sx.av s kk.ch { cn s kk.ch with send:=(cn s kk.ch).send ++ [aA (Sx.gr s g).ak i] }).gs.length:=hg;have b1:(Sx.av s kk.ch { cn s kk.ch with send:=(cn s kk.ch).send ++ [aA (Sx.gr s g).ak i] }).gs.length≤100000:=hb;have t1:=gx { cn s kk.ch with send:=(cn s kk.ch).send ++ [aA (Sx.gr s g).ak i] };generalize Sx.av s kk.ch { cn s kk.ch with send:=(cn s kk.ch).send ++ [aA (Sx.gr s g).ak i] }=s1 at *
  by_cases hk:(Sx.gr s g).k + 1 < (Sx.gr s g).order.length
  ·rw [if_pos hk] at ag;rw [ag];have aR:(decide ((Sx.gr s g).k + 1 < ((Sx.gr s g).order.length:Int)))=true:=decide_eq_true hk;have D2:=qm s1 g 29 g1 b1 (by rw [t1];exact k0) (by rw [t1];omega)
   repeat (first | refine J.eN (congrArg (fun b=>some (D.c (bI b))) hs) ?_ | refine au ?_ | intro _)
   refine J.draw (by kernel_rfl) rfl ?_;refine JW.base (some 12) ?_;refine tk 1 ?_;refine tk 2 ?_;refine tk 4 ?_;refine tk 5 ?_;refine tk 6 ?_;refine JD.take 7 rfl rfl (by kernel_rfl) rfl (qb rfl) (Qt.cq rfl rfl i0 I2) rfl ?_;refine tk 8 ?_;refine JD.cB (i:=0) (j:=9) (by kernel_rfl) ?_ ?_;refine JS.bp rfl rfl rfl (qb rfl) (Ld.gL (qb rfl)) .none (fun _=>?_);refine JD.cB (i:=3) (j:=9) (by kernel_rfl) ?_ ?_;refine JS.bp rfl rfl rfl (qb rfl) (Ld.bY (qb rfl) rfl rfl .read (by (simp;omega))) (by (exact .row (by repeat ((exact .refl))))) (fun _=>?_);refine jl 9 rfl rfl rfl rfl (Ld.ff (qb rfl) rfl rfl rfl rfl rfl) .none (fun _=>?_);refine jl 10 rfl rfl rfl rfl (Ld.fK (qb rfl) rfl rfl .cR (by (simp;omega))) (by (exact .row (by repeat (first | exact .refl | refine .cons ?_)))) (fun _=>?_);refine jk 11 rfl rfl rfl rfl (Qt.fieldAddr rfl rfl) ?_;refine jt 12 rfl rfl (Ld.cG rfl rfl (by exact rfl)) (fun _=>?_);refine bJ ?_
   rotate_left
   refine JS.bp rfl rfl rfl (qb rfl) (Ld.ff (qb rfl) rfl rfl rfl rfl rfl) .none (fun _=>?_);refine jl 3 rfl rfl rfl rfl (Ld.bY (qb rfl) rfl rfl .read (by (simp;omega))) (by (exact .row (by repeat (first | exact .refl | refine .cons ?_)))) (fun _=>?_);refine jl 10 rfl rfl rfl rfl (Ld.fK (qb rfl) rfl rfl .cR (by (simp;omega))) (by (exact .row (by repeat (first | exact .refl | refine .cons ?_)))) (fun _=>?_);refine jk 11 rfl rfl rfl rfl (Qt.fieldAddr rfl rfl) ?_;refine jt 12 rfl rfl (Ld.cG rfl rfl (by exact rfl)) (fun _=>?_);refine bJ ?_
   rotate_left
   refine JS.bp rfl rfl rfl (qb rfl) (Ld.ff (qb rfl) rfl rfl rfl rfl rfl) .none (fun _=>?_);refine jl 0 rfl rfl rfl rfl (Ld.gL (qb rfl)) .none (fun _=>?_);refine jl 3 rfl rfl rfl rfl (Ld.bY (qb rfl) rfl rfl .read (by (simp;omega))) (by (exact .row (by repeat (first | exact .refl | refine .cons ?_)))) (fun _=>?_);refine jl 10 rfl rfl rfl rfl (Ld.fK (qb rfl) rfl rfl .cR (by (simp;omega))) (by (exact .row (by repeat (first | exact .refl | refine .cons ?_)))) (fun _=>?_);refine jk 11 rfl rfl rfl rfl (Qt.fieldAddr rfl rfl) ?_;refine jt 12 rfl rfl (Ld.cG rfl rfl (by exact rfl)) (fun _=>?_);refine bJ ?_
   rotate_left
   all_goals
    repeat (first | refine ei (D1) ?_ | refine gn ?_)
    exact az Tryz.func206
  ·rw [if_neg hk] at ag;rw [ag];have aR:(decide ((Sx.gr s g).k + 1 < ((Sx.gr s g).order.length:Int)))=false:=decide_eq_false hk;have D2:=cE s1 g { Sx.gr s g with jn:=s1.step } g1 b1;have D3:=uO (Sx.aa s1 g { Sx.gr s g with jn:=s1.step }) g 30 (by rw [bV];exact g1) (by rw [bV];exact b1)
   repeat (first | refine J.eN (congrArg (fun b=>some (D.c (bI b))) hs) ?_ | refine au ?_ | intro _)
   refine J.draw (by kernel_rfl) rfl ?_;refine JW.base (some 12) ?_;refine tk 1 ?_;refine tk 2 ?_;refine tk 4 ?_;refine tk 5 ?_;refine tk 6 ?_;refine JD.take 7 rfl rfl (by kernel_rfl) rfl (qb rfl) (Qt.cq rfl rfl i0 I2) rfl ?_;refine tk 8 ?_;refine JD.cB (i:=0) (j:=9) (by kernel_rfl) ?_ ?_;refine JS.bp rfl rfl rfl (qb rfl) (Ld.gL (qb rfl)) .none (fun _=>?_);refine JD.cB (i:=3) (j:=9) (by kernel_rfl) ?_ ?_;refine JS.bp rfl rfl rfl (qb rfl) (Ld.bY (qb rfl) rfl rfl .read (by (simp;omega))) (by (exact .row (by repeat ((exact .refl))))) (fun _=>?_);refine jl 9 rfl rfl rfl rfl (Ld.ff (qb rfl) rfl rfl rfl rfl rfl) .none (fun _=>?_);refine jl 10 rfl rfl rfl rfl (Ld.fK (qb rfl) rfl rfl .cR (by (simp;omega))) (by (exact .row (by repeat (first | exact .refl | refine .cons ?_)))) (fun _=>?_);refine jk 11 rfl rfl rfl rfl (Qt.fieldAddr rfl rfl) ?_;refine jt 12 rfl rfl (Ld.cG rfl rfl (by exact rfl)) (fun _=>?_);refine bJ ?_
   rotate_left
   refine JS.bp rfl rfl rfl (qb rfl) (Ld.ff (qb rfl) rfl rfl rfl rfl rfl) .none (fun _=>?_);refine jl 3 rfl rfl rfl rfl (Ld.bY (qb rfl) rfl rfl .read (by (simp;omega))) (by (exact .row (by repeat (first | exact .refl | refine .cons ?_)))) (fun _=>?_);refine jl 10 rfl rfl rfl rfl (Ld.fK (qb rfl) rfl rfl .cR (by (simp;omega))) (by (exact .row (by repeat (first | exact .refl | refine .cons ?_)))) (fun _=>?_);refine jk 11 rfl rfl rfl rfl (Qt.fieldAddr rfl rfl) ?_;refine jt 12 rfl rfl (Ld.cG rfl rfl (by exact rfl)) (fun _=>?_);refine bJ ?_
   rotate_left
   refine JS.bp rfl rfl rfl (qb rfl) (Ld.ff (qb rfl) rfl rfl rfl rfl rfl) .none (fun _=>?_);refine jl 0 rfl rfl rfl rfl (Ld.gL (qb rfl)) .none (fun _=>?_);refine jl 3 rfl rfl rfl rfl (Ld.bY (qb rfl) rfl rfl .read (by (simp;omega))) (by (exact .row (by repeat (first | exact .refl | refine .cons ?_)))) (fun _=>?_);refine jl 10 rfl rfl rfl rfl (Ld.fK (qb rfl) rfl rfl .cR (by (simp;omega))) (by (exact .row (by repeat (first | exact .refl | refine .cons ?_)))) (fun _=>?_);refine jk 11 rfl rfl rfl rfl (Qt.fieldAddr rfl rfl) ?_;refine jt 12 rfl rfl (Ld.cG rfl rfl (by exact rfl)) (fun _=>?_);refine bJ ?_
   rotate_left
   all_goals
    repeat (first | refine ei (D1) ?_ | refine gn ?_)
    exact az Tryz.func206
 | false =>
  simp only [hs,Bool.false_eq_true,if_false] at ag;have D1:=W { cn s kk.ch with recv:=(cn s kk.ch).recv ++ [aA (Sx.gr s g).ak i] };have g1:g < (Sx.av s kk.ch { cn s kk.ch with recv:=(cn s kk.ch).recv ++ [aA (Sx.gr s g).ak i] }).gs.length:=hg;have b1:(Sx.av s kk.ch { cn s kk.ch with recv:=(cn s kk.ch).recv ++ [aA (Sx.gr s g).ak i] }).gs.length≤100000:=hb;have t1:=gx { cn s kk.ch with recv:=(cn s kk.ch).recv ++ [aA (Sx.gr s g).ak i] };generalize Sx.av s kk.ch { cn s kk.ch with recv:=(cn s kk.ch).recv ++ [aA (Sx.gr s g).ak i] }=s1 at *
  by_cases hk:(Sx.gr s g).k + 1 < (Sx.gr s g).order.length
  ·rw [if_pos hk] at ag;rw [ag];have aR:(decide ((Sx.gr s g).k + 1 < ((Sx.gr s g).order.length:Int)))=true:=decide_eq_true hk;have D2:=qm s1 g 29 g1 b1 (by rw [t1];exact k0) (by rw [t1];omega)
   repeat (first | refine J.ez (congrArg (fun b=>some (D.c (bI b))) hs) ?_ | refine au ?_ | intro _)
   refine J.draw (by kernel_rfl) rfl ?_;refine JW.base (some 12) ?_;refine tk 1 ?_;refine tk 2 ?_;refine tk 4 ?_;refine tk 5 ?_;refine tk 6 ?_;refine JD.take 7 rfl rfl (by kernel_rfl) rfl (qb rfl) (Qt.cq rfl rfl i0 I2) rfl ?_;refine tk 8 ?_;refine JD.cB (i:=0) (j:=9) (by kernel_rfl) ?_ ?_;refine JS.bp rfl rfl rfl (qb rfl) (Ld.gL (qb rfl)) .none (fun _=>?_);refine JD.cB (i:=3) (j:=9) (by kernel_rfl) ?_ ?_;refine JS.bp rfl rfl rfl (qb rfl) (Ld.bY (qb rfl) rfl rfl .read (by (simp;omega))) (by (exact .row (by repeat ((exact .refl))))) (fun _=>?_);refine jl 9 rfl rfl rfl rfl (Ld.ff (qb rfl) rfl rfl rfl rfl rfl) .none (fun _=>?_);refine jl 10 rfl rfl rfl rfl (Ld.fK (qb rfl) rfl rfl .cR (by (simp;omega))) (by (exact .row (by repeat (first | exact .refl | refine .cons ?_)))) (fun _=>?_);refine jk 11 rfl rfl rfl rfl (Qt.fieldAddr rfl rfl) ?_;refine jt 12 rfl rfl (Ld.cG rfl rfl (by exact rfl)) (fun _=>?_);refine bJ ?_
   rotate_left
   refine JS.bp rfl rfl rfl (qb rfl) (Ld.ff (qb rfl) rfl rfl rfl rfl rfl) .none (fun _=>?_);refine jl 3 rfl rfl rfl rfl (Ld.bY (qb rfl) rfl rfl .read (by (simp;omega))) (by (exact .row (by repeat (first | exact .refl | refine .cons ?_)))) (fun _=>?_);refine jl 10 rfl rfl rfl rfl (Ld.fK (qb rfl) rfl rfl .cR (by (simp;omega))) (by (exact .row (by repeat (first | exact .refl | refine .cons ?_)))) (fun _=>?_);refine jk 11 rfl rfl rfl rfl (Qt.fieldAddr rfl rfl) ?_;refine jt 12 rfl rfl (Ld.cG rfl rfl (by exact rfl)) (fun _=>?_);refine bJ ?_
   rotate_left
   refine JS.bp rfl rfl rfl (qb rfl) (Ld.ff (qb rfl) rfl rfl rfl rfl rfl) .none (fun _=>?_);refine jl 0 rfl rfl rfl rfl (Ld.gL (qb rfl)) .none (fun _=>?_);refine jl 3 rfl rfl rfl rfl (Ld.bY (qb rfl) rfl rfl .read (by (simp;omega))) (by (exact .row (by repeat (first | exact .refl | refine .cons ?_)))) (fun _=>?_);refine jl 10 rfl rfl rfl rfl (Ld.fK (qb rfl) rfl rfl .cR (by (simp;omega))) (by (exact .row (by repeat (first | exact .refl | refine .cons ?_)))) (fun _=>?_);refine jk 11 rfl rfl rfl rfl (Qt.fieldAddr rfl rfl) ?_;refine jt 12 rfl rfl (Ld.cG rfl rfl (by exact rfl)) (fun _=>?_);refine bJ ?_
   rotate_left
   all_goals
    repeat (first | refine ei (D1) ?_ | refine gn ?_)
    exact az Tryz.func206
  ·rw [if_neg hk] at ag;rw [ag];have aR:(decide ((Sx.gr s g).k + 1 < ((Sx.gr s g).order.length:Int)))=false:=decide_eq_false hk;have D2:=cE s1 g { Sx.gr s g with jn:=s1.step } g1 b1;have D3:=uO (Sx.aa s1 g { Sx.gr s g with jn:=s1.step }) g 30 (by rw [bV];exact g1) (by rw [bV];exact b1)
   repeat (first | refine J.ez (congrArg (fun b=>some (D.c (bI b))) hs) ?_ | refine au ?_ | intro _)
   refine J.draw (by kernel_rfl) rfl ?_;refine JW.base (some 12) ?_;refine tk 1 ?_;refine tk 2 ?_;refine tk 4 ?_;refine tk 5 ?_;refine tk 6 ?_;refine JD.take 7 rfl rfl (by kernel_rfl) rfl (qb rfl) (Qt.cq rfl rfl i0 I2) rfl ?_;refine tk 8 ?_;refine JD.cB (i:=0) (j:=9) (by kernel_rfl) ?_ ?_;refine JS.bp rfl rfl rfl (qb rfl) (Ld.gL (qb rfl)) .none (fun _=>?_);refine JD.cB (i:=3) (j:=9) (by kernel_rfl) ?_ ?_;refine JS.bp rfl rfl rfl (qb rfl) (Ld.bY (qb rfl) rfl rfl .read (by (simp;omega))) (by (exact .row (by repeat ((exact .refl))))) (fun _=>?_);refine jl 9 rfl rfl rfl rfl (Ld.ff (qb rfl) rfl rfl rfl rfl rfl) .none (fun _=>?_);refine jl 10 rfl rfl rfl rfl (Ld.fK (qb rfl) rfl rfl .cR (by (simp;omega))) (by (exact .row (by repeat (first | exact .refl | refine .cons ?_)))) (fun _=>?_);refine jk 11 rfl rfl rfl rfl (Qt.fieldAddr rfl rfl) ?_;refine jt 12 rfl rfl (Ld.cG rfl rfl (by exact rfl)) (fun _=>?_);refine bJ ?_
   rotate_left
   refine JS.bp rfl rfl rfl (qb rfl) (Ld.ff (qb rfl) rfl rfl rfl rfl rfl) .none (fun _=>?_);refine jl 3 rfl rfl rfl rfl (Ld.bY (qb rfl) rfl rfl .read (by (simp;omega))) (by (exact .row (by repeat (first | exact .refl | refine .cons ?_)))) (fun _=>?_);refine jl 10 rfl rfl rfl rfl (Ld.fK (qb rfl) rfl rfl .cR (by (simp;omega))) (by (exact .row (by repeat (first | exact .refl | refine .cons ?_)))) (fun _=>?_);refine jk 11 rfl rfl rfl rfl (Qt.fieldAddr rfl rfl) ?_;refine jt 12 rfl rfl (Ld.cG rfl rfl (by exact rfl)) (fun _=>?_);refine bJ ?_
   rotate_left
   refine JS.bp rfl rfl rfl (qb rfl) (Ld.ff (qb rfl) rfl rfl rfl rfl rfl) .none (fun _=>?_);refine jl 0 rfl rfl rfl rfl (Ld.gL (qb rfl)) .none (fun _=>?_);refine jl 3 rfl rfl rfl rfl (Ld.bY (qb rfl) rfl rfl .read (by (simp;omega))) (by (exact .row (by repeat (first | exact .refl | refine .cons ?_)))) (fun _=>?_);refine jl 10 rfl rfl rfl rfl (Ld.fK (qb rfl) rfl rfl .cR (by (simp;omega))) (by (exact .row (by repeat (first | exact .refl | refine .cons ?_)))) (fun _=>?_);refine jk 11 rfl rfl rfl rfl (Qt.fieldAddr rfl rfl) ?_;refine jt 12 rfl rfl (Ld.cG rfl rfl (by exact rfl)) (fun _=>?_);refine bJ ?_
   rotate_left
   all_goals
    repeat (first | refine ei (D1) ?_ | refine gn ?_)
    exact az Tryz.func206
end Fl
end Go.Proofs.YtofnbflkhgammaaGreat
