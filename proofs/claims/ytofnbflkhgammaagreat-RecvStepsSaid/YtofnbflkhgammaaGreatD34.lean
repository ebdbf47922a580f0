/-
  What the laws need, part D34.
  Conditions: none.
-/
import Derived.Test.YtofnbflkhgammaaGreatD33
set_option linter.unusedVariables false
set_option linter.unusedSimpArgs false
set_option linter.unnecessarySimpa false
set_option maxHeartbeats 2000000
namespace Go.Proofs.YtofnbflkhgammaaGreat
open Go.RowKit
namespace Fl
open Sx Go.Proofs.Tryz
set_option maxRecDepth 100000
theorem Yd (s:ah) (g:Nat) (o:Pn.Op) (h:AF s g o) (hi:dz s (aa s g).hold) :
  Pure prog 204 [.agg (az s),.c (nI g),.agg (dH o)] (.agg (az (kr s g o))):=by
 have hg:=h.ca.lt;have hf:Few s:=h.ca.fit.toAnd;have hb:=hf.1;have dF:=hf.2.1;have k0:=h.ca.k0;have k1:=h.ca.k1;have hm:=h.ca.md;have I1:=oO k0 k1;have i0:=h.i0;have i1:=h.i1;have J1:=AE i0 i1;have aj:kr s g o=kr s g o:=rfl
 conv at aj=>rhs;unfold kr;simp only
 obtain ⟨gq,dR,dx,iw⟩:=id hi;have D1:=ue s (aa s g).hold gq dR (Nat.le_trans (h.ca.fit.rv _) (by omega)) (Nat.le_trans (h.ca.fit.sd _) (by omega)) dF;have q1:dz (bq s (aa s g).hold) (aa s g).hold:=hi.of (vJ _ _) (by rw [fX]);have f1:=h.ca.fit.drop (aa s g).hold;have g1:g < (bq s (aa s g).hold).gs.length:=by rw [fX];exact hg
 have m1:aN (bq s (aa s g).hold) (cy o (aD (aa s g).order (aa s g).k)).ch=true:=by rw [N5];exact hm
 generalize aD (aa s g).order (aa s g).k=i at *;generalize cy o i=kk at *;generalize bq s (aa s g).hold=s1 at *;refine ax.intro func204 rfl rfl rfl (fun ok e=>?_)
 cases hs:kk.send with
 | true =>
  simp only [hs,if_true] at aj;have a1:=iu q1.1 q1.2.1;have D2:=w8 s1 (aa s g).hold { su s1 (aa s g).hold with v:=kk.v } q1.1 q1.2.1 f1.1.2.2;have q2:dz (aR s1 (aa s g).hold { su s1 (aa s g).hold with v:=kk.v }) (aa s g).hold:=q1.fW rfl;have f2:=f1.fW (aa s g).hold { su s1 (aa s g).hold with v:=kk.v };have g2:g < (aR s1 (aa s g).hold { su s1 (aa s g).hold with v:=kk.v }).gs.length:=g1;generalize aR s1 (aa s g).hold { su s1 (aa s g).hold with v:=kk.v }=s2 at *;have D3:=Ap s2 g (aa s g).hold true g2 q2 f2;have g3:g < (Sx.serve s2 g (aa s g).hold true).gs.length:=by rw [sR];exact g2
  have b3:(Sx.serve s2 g (aa s g).hold true).gs.length≤100000:=by rw [sR];exact f2.1.1
  generalize Sx.serve s2 g (aa s g).hold true=s3 at *;have D4:=cP s3 g { aa s3 g with res:=⟨1,i,0,true,0⟩ } g3 b3;have D5:=vL (ai s3 g { aa s3 g with res:=⟨1,i,0,true,0⟩ }) g 30 (by rw [cr];exact g3) (by rw [cr];exact b3);rw [aj]
  repeat (first | refine J.gZ (congrArg (fun b=>some (D.c (bI b))) hs) ?_ | refine aO (Ao ⟨1,0,0,true,0⟩ i) ?_ | refine av ?_ | intro _)
  exact aA func204
 | false =>
  simp only [hs,Bool.false_eq_true,if_false] at aj;have D2:=N3 s1 kk.ch (aa s g).hold m1 f1.1.2.1 q1.1 q1.2.1 (f1.bf _);have q2:dz (Sx.hand s1 kk.ch (aa s g).hold).1 (aa s g).hold:=q1.of (N4 _ _ _) (by rw [C7]);have f2:=f1.hand kk.ch (aa s g).hold;have g2:g < (Sx.hand s1 kk.ch (aa s g).hold).1.gs.length:=by rw [C7];exact g1
  generalize Sx.hand s1 kk.ch (aa s g).hold=n at *;have D3:=Ap n.1 g (aa s g).hold true g2 q2 f2;have g3:g < (Sx.serve n.1 g (aa s g).hold true).gs.length:=by rw [sR];exact g2
  have b3:(Sx.serve n.1 g (aa s g).hold true).gs.length≤100000:=by rw [sR];exact f2.1.1
  generalize Sx.serve n.1 g (aa s g).hold true=s3 at *;have D4:=cP s3 g { aa s3 g with res:={ eJ n.2 true with cs:=i } } g3 b3;have D5:=vL (ai s3 g { aa s3 g with res:={ eJ n.2 true with cs:=i } }) g 30 (by rw [cr];exact g3) (by rw [cr];exact b3);rw [aj]
  repeat (first | refine J.gw (congrArg (fun b=>some (D.c (bI b))) hs) ?_ | refine aO (lG n.2 true) ?_ | refine aO (Ao (eJ n.2 true) i) ?_ | refine av ?_ | intro _)
  exact aA func204
theorem Oe (s:ah) (g:Nat):(aS s g).1.gs.length=s.gs.length:=by rw [qc]
theorem Ye (s:ah) (g:Nat) (o:Pn.Op) (h:AF s g o) (hp:oN s) (hc:g < s.cache.length) (hd:(aS s g).2.2=true→0≤(aS s g).2.1∧(aS s g).2.1 < s.aC.length) (hl:(aa s g).ay.length=o.cases.length) :
  Pure prog 205 [.agg (az s),.c (nI g),.agg (dH o)] (.agg (az (aC s g o))):=by
 have hg:=h.ca.lt;have hf:Few s:=h.ca.fit.toAnd;have hb:=hf.1;have k0:=h.ca.k0;have k1:=h.ca.k1;have kb:=h.ca.fit.od g;have I1:=oO k0 k1;have i0:=h.i0;have i1:=h.i1;have J1:=AE i0 i1;have cl:=h.cl;have aj:aC s g o=aC s g o:=rfl
 conv at aj=>rhs;unfold aC;simp only
 have C1:=NS s g hc hp;have g1:g < (aS s g).1.gs.length:=by rw [Oe];exact hg
 have b1:(aS s g).1.gs.length≤100000:=by rw [Oe];exact hb
 have eg:aa (aS s g).1 g=aa s g:=uh (qc s g) g;have u1:=G0 s g;generalize aD (aa s g).order (aa s g).k=i at *;generalize cy o i=kk at *;refine ax.intro func205 rfl rfl rfl (fun ok e=>?_)
 cases hs:(aS s g).2.2 with
 | false =>
  rw [if_neg (by rw [hs];simp)] at aj;rw [hs] at C1;rw [aj];generalize (aS s g).1=s1 at *;have A1:=iz g1;rw [eg] at A1;have D1:=cP s1 g { aa s g with res:={ (aa s g).res with code:=6 } } g1 b1;have D2:=vL (ai s1 g { aa s g with res:={ (aa s g).res with code:=6 } }) g 30 (by rw [cr];exact g1) (by rw [cr];exact b1)
  repeat (first | refine av ?_ | intro _)
  exact aA func205
 | true =>
  obtain ⟨d1,d2⟩:=hd hs;rw [if_pos hs] at aj;rw [hs] at C1;rw [aj];have d3:(aS s g).2.1 < (aS s g).1.aC.length:=by rw [u1];exact d2
  have d4:(aS s g).1.aC.length≤100000:=by rw [u1];exact hf.2.2
  clear hd hs;generalize (aS s g).1=s1 at *;generalize (aS s g).2.1=d at *;have A1:=iz g1;rw [eg] at A1;have D1:=w8 s1 d ⟨true,g,kk.ch,i,kk.send,kk.v,false⟩ d1 d3 d4;have g2:g < (aR s1 d ⟨true,g,kk.ch,i,kk.send,kk.v,false⟩).gs.length:=g1;have b2:(aR s1 d ⟨true,g,kk.ch,i,kk.send,kk.v,false⟩).gs.length≤100000:=b1;generalize aR s1 d ⟨true,g,kk.ch,i,kk.send,kk.v,false⟩=s2 at *;have D2:=cP s2 g { aa s g with ay:=(aa s g).ay.set i.toNat d } g2 b2;have kx:(aa (ai s2 g { aa s g with ay:=(aa s g).ay.set i.toNat d }) g)={ aa s g with ay:=(aa s g).ay.set i.toNat d }:=by
   unfold aa ai;simp [g2]
  have D3:=qY (ai s2 g { aa s g with ay:=(aa s g).ay.set i.toNat d }) g 29 (by rw [cr];exact g2) (by rw [cr];exact b2) (by rw [kx];exact k0) (by rw [kx];simp only;omega);have e1:([] ++ List.map (fun n=>[nI n]) (aa s g).ay).set i.toNat [nI d]=((aa s g).ay.set i.toNat d).map (fun n=>[nI n]):=by simp
  have wl:i < (([] ++ List.map (fun n=>[nI n]) (aa s g).ay).length:Int):=by simp;omega
  have wb:=h.ca.fit.sg g;have wn:i.toNat < ([] ++ List.map (fun n=>[nI n]) (aa s g).ay).length:=by simp;omega
  repeat (first | (refine K.bi ?_;refine JO.ld (Ld.cA (qb rfl) rfl rfl .read (by (simp;omega))) rfl (fun _=>?_)) | refine av ?_ | intro _)
  repeat (first | (refine K.store ?_;refine JO.ld (Ld.fZ rfl rfl rfl (by exact rfl) (by exact wn)) rfl (fun _=>?_)) | (refine K.indexAddr ?_;refine jq rfl rfl rfl (Qt.bM rfl rfl (by omega) (by omega)) ?_))
  refine JO.nil ?_;refine J.nk 0 2 22 rfl rfl rfl ?_;rw [e1]
  repeat (refine gn ?_)
  exact aA func205
theorem Yf (s:ah) (g:Nat) (o:Pn.Op) (h:AF s g o) (hl:(aa s g).ay.length=o.cases.length) :
  Pure prog 206 [.agg (az s),.c (nI g),.agg (dH o)] (.agg (az (lX s g o))):=by
 have hg:=h.ca.lt;have hf:Few s:=h.ca.fit.toAnd;have hb:=hf.1;have dF:=hf.2.1;have k0:=h.ca.k0;have k1:=h.ca.k1;have kb:=h.ca.fit.od g;have I1:=oO k0 k1;have i0:=h.i0;have i1:=h.i1;have J1:=AE i0 i1;have cl:=h.cl;have hm:=h.ca.md;have gF:=eV hm;have rb:=h.ca.fit.rv (cy o (aD (aa s g).order (aa s g).k)).ch;have sb:=h.ca.fit.sd (cy o (aD (aa s g).order (aa s g).k)).ch;have aj:lX s g o=lX s g o:=rfl
 conv at aj=>rhs;unfold lX;simp only
 generalize aD (aa s g).order (aa s g).k=i at *;generalize cy o i=kk at *;have I2:=oO (l:=(aa s g).ay) i0 (by rw [hl];exact i1);refine ax.intro func206 rfl rfl rfl (fun ok e=>?_);have W:∀ c:Cn,Pure prog 136 [.agg (az s),.c (nI kk.ch),.agg (eC c)] (.agg (az (aE s kk.ch c))):=fun c=>nA s kk.ch c hm dF
 have gx:∀ c:Cn,aa (aE s kk.ch c) g=aa s g:=fun c=>rfl
 cases hs:kk.send with
 | true =>
  simp only [hs,if_true] at aj;have D1:=W { cn s kk.ch with send:=(cn s kk.ch).send ++ [aD (aa s g).ay i] };have g1:g < (aE s kk.ch { cn s kk.ch with send:=(cn s kk.ch).send ++ [aD (aa s g).ay i] }).gs.length:=hg;have b1:(aE s kk.ch { cn s kk.ch with send:=(cn s kk.ch).send ++ [aD (aa s g).ay i] }).gs.length≤100000:=hb;have t1:=gx { cn s kk.ch with send:=(cn s kk.ch).send ++ [aD (aa s g).ay i] };generalize aE s kk.ch { cn s kk.ch with send:=(cn s kk.ch).send ++ [aD (aa s g).ay i] }=s1 at *
  by_cases hk:(aa s g).k + 1 < (aa s g).order.length
  ·rw [if_pos hk] at aj;rw [aj];have aQ:(decide ((aa s g).k + 1 < ((aa s g).order.length:Int)))=true:=decide_eq_true hk;have D2:=qY s1 g 29 g1 b1 (by rw [t1];exact k0) (by rw [t1];omega)
   repeat (first | refine J.gZ (congrArg (fun b=>some (D.c (bI b))) hs) ?_ | refine av ?_ | intro _)
   refine J.draw (by kernel_rfl) rfl ?_;refine JW.base (some 12) ?_;refine tk 1 ?_;refine tk 2 ?_;refine tk 4 ?_;refine tk 5 ?_;refine tk 6 ?_;refine JD.take 7 rfl rfl (by kernel_rfl) rfl (qb rfl) (Qt.bw rfl rfl i0 I2) rfl ?_;refine tk 8 ?_;refine JD.cU (i:=0) (j:=9) (by kernel_rfl) ?_ ?_;refine JS.cz rfl rfl rfl (qb rfl) (Ld.ia (qb rfl)) .none (fun _=>?_);refine JD.cU (i:=3) (j:=9) (by kernel_rfl) ?_ ?_;refine JS.cz rfl rfl rfl (qb rfl) (Ld.cA (qb rfl) rfl rfl .read (by (simp;omega))) (by (exact .row (by repeat ((exact .refl))))) (fun _=>?_);refine jl 9 rfl rfl rfl rfl (Ld.fJ (qb rfl) rfl rfl rfl rfl rfl) .none (fun _=>?_);refine jl 10 rfl rfl rfl rfl (Ld.fz (qb rfl) rfl rfl .cY (by (simp;omega))) (by (exact .row (by repeat (first | exact .refl | refine .cons ?_)))) (fun _=>?_);refine jk 11 rfl rfl rfl rfl (Qt.fieldAddr rfl rfl) ?_;refine jt 12 rfl rfl (Ld.cZ rfl rfl (by exact rfl)) (fun _=>?_);refine bS ?_
   rotate_left
   refine JS.cz rfl rfl rfl (qb rfl) (Ld.fJ (qb rfl) rfl rfl rfl rfl rfl) .none (fun _=>?_);refine jl 3 rfl rfl rfl rfl (Ld.cA (qb rfl) rfl rfl .read (by (simp;omega))) (by (exact .row (by repeat (first | exact .refl | refine .cons ?_)))) (fun _=>?_);refine jl 10 rfl rfl rfl rfl (Ld.fz (qb rfl) rfl rfl .cY (by (simp;omega))) (by (exact .row (by repeat (first | exact .refl | refine .cons ?_)))) (fun _=>?_);refine jk 11 rfl rfl rfl rfl (Qt.fieldAddr rfl rfl) ?_;refine jt 12 rfl rfl (Ld.cZ rfl rfl (by exact rfl)) (fun _=>?_);refine bS ?_
   rotate_left
   refine JS.cz rfl rfl rfl (qb rfl) (Ld.fJ (qb rfl) rfl rfl rfl rfl rfl) .none (fun _=>?_);refine jl 0 rfl rfl rfl rfl (Ld.ia (qb rfl)) .none (fun _=>?_);refine jl 3 rfl rfl rfl rfl (Ld.cA (qb rfl) rfl rfl .read (by (simp;omega))) (by (exact .row (by repeat (first | exact .refl | refine .cons ?_)))) (fun _=>?_);refine jl 10 rfl rfl rfl rfl (Ld.fz (qb rfl) rfl rfl .cY (by (simp;omega))) (by (exact .row (by repeat (first | exact .refl | refine .cons ?_)))) (fun _=>?_);refine jk 11 rfl rfl rfl rfl (Qt.fieldAddr rfl rfl) ?_;refine jt 12 rfl rfl (Ld.cZ rfl rfl (by exact rfl)) (fun _=>?_);refine bS ?_
   rotate_left
   all_goals
    repeat (first | refine kU (D1) ?_ | refine gn ?_)
    exact aA func206
  ·rw [if_neg hk] at aj;rw [aj];have aQ:(decide ((aa s g).k + 1 < ((aa s g).order.length:Int)))=false:=decide_eq_false hk;have D2:=cP s1 g { aa s g with ic:=s1.step } g1 b1;have D3:=vL (ai s1 g { aa s g with ic:=s1.step }) g 30 (by rw [cr];exact g1) (by rw [cr];exact b1)
   repeat (first | refine J.gZ (congrArg (fun b=>some (D.c (bI b))) hs) ?_ | refine av ?_ | intro _)
   refine J.draw (by kernel_rfl) rfl ?_;refine JW.base (some 12) ?_;refine tk 1 ?_;refine tk 2 ?_;refine tk 4 ?_;refine tk 5 ?_;refine tk 6 ?_;refine JD.take 7 rfl rfl (by kernel_rfl) rfl (qb rfl) (Qt.bw rfl rfl i0 I2) rfl ?_;refine tk 8 ?_;refine JD.cU (i:=0) (j:=9) (by kernel_rfl) ?_ ?_;refine JS.cz rfl rfl rfl (qb rfl) (Ld.ia (qb rfl)) .none (fun _=>?_);refine JD.cU (i:=3) (j:=9) (by kernel_rfl) ?_ ?_;refine JS.cz rfl rfl rfl (qb rfl) (Ld.cA (qb rfl) rfl rfl .read (by (simp;omega))) (by (exact .row (by repeat ((exact .refl))))) (fun _=>?_);refine jl 9 rfl rfl rfl rfl (Ld.fJ (qb rfl) rfl rfl rfl rfl rfl) .none (fun _=>?_);refine jl 10 rfl rfl rfl rfl (Ld.fz (qb rfl) rfl rfl .cY (by (simp;omega))) (by (exact .row (by repeat (first | exact .refl | refine .cons ?_)))) (fun _=>?_);refine jk 11 rfl rfl rfl rfl (Qt.fieldAddr rfl rfl) ?_;refine jt 12 rfl rfl (Ld.cZ rfl rfl (by exact rfl)) (fun _=>?_);refine bS ?_
   rotate_left
   refine JS.cz rfl rfl rfl (qb rfl) (Ld.fJ (qb rfl) rfl rfl rfl rfl rfl) .none (fun _=>?_);refine jl 3 rfl rfl rfl rfl (Ld.cA (qb rfl) rfl rfl .read (by (simp;omega))) (by (exact .row (by repeat (first | exact .refl | refine .cons ?_)))) (fun _=>?_);refine jl 10 rfl rfl rfl rfl (Ld.fz (qb rfl) rfl rfl .cY (by (simp;omega))) (by (exact .row (by repeat (first | exact .refl | refine .cons ?_)))) (fun _=>?_);refine jk 11 rfl rfl rfl rfl (Qt.fieldAddr rfl rfl) ?_;refine jt 12 rfl rfl (Ld.cZ rfl rfl (by exact rfl)) (fun _=>?_);refine bS ?_
   rotate_left
   refine JS.cz rfl rfl rfl (qb rfl) (Ld.fJ (qb rfl) rfl rfl rfl rfl rfl) .none (fun _=>?_);refine jl 0 rfl rfl rfl rfl (Ld.ia (qb rfl)) .none (fun _=>?_);refine jl 3 rfl rfl rfl rfl (Ld.cA (qb rfl) rfl rfl .read (by (simp;omega))) (by (exact .row (by repeat (first | exact .refl | refine .cons ?_)))) (fun _=>?_);refine jl 10 rfl rfl rfl rfl (Ld.fz (qb rfl) rfl rfl .cY (by (simp;omega))) (by (exact .row (by repeat (first | exact .refl | refine .cons ?_)))) (fun _=>?_);refine jk 11 rfl rfl rfl rfl (Qt.fieldAddr rfl rfl) ?_;refine jt 12 rfl rfl (Ld.cZ rfl rfl (by exact rfl)) (fun _=>?_);refine bS ?_
   rotate_left
   all_goals
    repeat (first | refine kU (D1) ?_ | refine gn ?_)
    exact aA func206
 | false =>
  simp only [hs,Bool.false_eq_true,if_false] at aj;have D1:=W { cn s kk.ch with recv:=(cn s kk.ch).recv ++ [aD (aa s g).ay i] };have g1:g < (aE s kk.ch { cn s kk.ch with recv:=(cn s kk.ch).recv ++ [aD (aa s g).ay i] }).gs.length:=hg;have b1:(aE s kk.ch { cn s kk.ch with recv:=(cn s kk.ch).recv ++ [aD (aa s g).ay i] }).gs.length≤100000:=hb;have t1:=gx { cn s kk.ch with recv:=(cn s kk.ch).recv ++ [aD (aa s g).ay i] };generalize aE s kk.ch { cn s kk.ch with recv:=(cn s kk.ch).recv ++ [aD (aa s g).ay i] }=s1 at *
  by_cases hk:(aa s g).k + 1 < (aa s g).order.length
  ·rw [if_pos hk] at aj;rw [aj];have aQ:(decide ((aa s g).k + 1 < ((aa s g).order.length:Int)))=true:=decide_eq_true hk;have D2:=qY s1 g 29 g1 b1 (by rw [t1];exact k0) (by rw [t1];omega)
   repeat (first | refine J.gw (congrArg (fun b=>some (D.c (bI b))) hs) ?_ | refine av ?_ | intro _)
   refine J.draw (by kernel_rfl) rfl ?_;refine JW.base (some 12) ?_;refine tk 1 ?_;refine tk 2 ?_;refine tk 4 ?_;refine tk 5 ?_;refine tk 6 ?_;refine JD.take 7 rfl rfl (by kernel_rfl) rfl (qb rfl) (Qt.bw rfl rfl i0 I2) rfl ?_;refine tk 8 ?_;refine JD.cU (i:=0) (j:=9) (by kernel_rfl) ?_ ?_;refine JS.cz rfl rfl rfl (qb rfl) (Ld.ia (qb rfl)) .none (fun _=>?_);refine JD.cU (i:=3) (j:=9) (by kernel_rfl) ?_ ?_;refine JS.cz rfl rfl rfl (qb rfl) (Ld.cA (qb rfl) rfl rfl .read (by (simp;omega))) (by (exact .row (by repeat ((exact .refl))))) (fun _=>?_);refine jl 9 rfl rfl rfl rfl (Ld.fJ (qb rfl) rfl rfl rfl rfl rfl) .none (fun _=>?_);refine jl 10 rfl rfl rfl rfl (Ld.fz (qb rfl) rfl rfl .cY (by (simp;omega))) (by (exact .row (by repeat (first | exact .refl | refine .cons ?_)))) (fun _=>?_);refine jk 11 rfl rfl rfl rfl (Qt.fieldAddr rfl rfl) ?_;refine jt 12 rfl rfl (Ld.cZ rfl rfl (by exact rfl)) (fun _=>?_);refine bS ?_
   rotate_left
   refine JS.cz rfl rfl rfl (qb rfl) (Ld.fJ (qb rfl) rfl rfl rfl rfl rfl) .none (fun _=>?_);refine jl 3 rfl rfl rfl rfl (Ld.cA (qb rfl) rfl rfl .read (by (simp;omega))) (by (exact .row (by repeat (first | exact .refl | refine .cons ?_)))) (fun _=>?_);refine jl 10 rfl rfl rfl rfl (Ld.fz (qb rfl) rfl rfl .cY (by (simp;omega))) (by (exact .row (by repeat (first | exact .refl | refine .cons ?_)))) (fun _=>?_);refine jk 11 rfl rfl rfl rfl (Qt.fieldAddr rfl rfl) ?_;refine jt 12 rfl rfl (Ld.cZ rfl rfl (by exact rfl)) (fun _=>?_);refine bS ?_
   rotate_left
   refine JS.cz rfl rfl rfl (qb rfl) (Ld.fJ (qb rfl) rfl rfl rfl rfl rfl) .none (fun _=>?_);refine jl 0 rfl rfl rfl rfl (Ld.ia (qb rfl)) .none (fun _=>?_);refine jl 3 rfl rfl rfl rfl (Ld.cA (qb rfl) rfl rfl .read (by (simp;omega))) (by (exact .row (by repeat (first | exact .refl | refine .cons ?_)))) (fun _=>?_);refine jl 10 rfl rfl rfl rfl (Ld.fz (qb rfl) rfl rfl .cY (by (simp;omega))) (by (exact .row (by repeat (first | exact .refl | refine .cons ?_)))) (fun _=>?_);refine jk 11 rfl rfl rfl rfl (Qt.fieldAddr rfl rfl) ?_;refine jt 12 rfl rfl (Ld.cZ rfl rfl (by exact rfl)) (fun _=>?_);refine bS ?_
   rotate_left
   all_goals
    repeat (first | refine kU (D1) ?_ | refine gn ?_)
    exact aA func206
  ·rw [if_neg hk] at aj;rw [aj];have aQ:(decide ((aa s g).k + 1 < ((aa s g).order.length:Int)))=false:=decide_eq_false hk;have D2:=cP s1 g { aa s g with ic:=s1.step } g1 b1;have D3:=vL (ai s1 g { aa s g with ic:=s1.step }) g 30 (by rw [cr];exact g1) (by rw [cr];exact b1)
   repeat (first | refine J.gw (congrArg (fun b=>some (D.c (bI b))) hs) ?_ | refine av ?_ | intro _)
   refine J.draw (by kernel_rfl) rfl ?_;refine JW.base (some 12) ?_;refine tk 1 ?_;refine tk 2 ?_;refine tk 4 ?_;refine tk 5 ?_;refine tk 6 ?_;refine JD.take 7 rfl rfl (by kernel_rfl) rfl (qb rfl) (Qt.bw rfl rfl i0 I2) rfl ?_;refine tk 8 ?_;refine JD.cU (i:=0) (j:=9) (by kernel_rfl) ?_ ?_;refine JS.cz rfl rfl rfl (qb rfl) (Ld.ia (qb rfl)) .none (fun _=>?_);refine JD.cU (i:=3) (j:=9) (by kernel_rfl) ?_ ?_;refine JS.cz rfl rfl rfl (qb rfl) (Ld.cA (qb rfl) rfl rfl .read (by (simp;omega))) (by (exact .row (by repeat ((exact .refl))))) (fun _=>?_);refine jl 9 rfl rfl rfl rfl (Ld.fJ (qb rfl) rfl rfl rfl rfl rfl) .none (fun _=>?_);refine jl 10 rfl rfl rfl rfl (Ld.fz (qb rfl) rfl rfl .cY (by (simp;omega))) (by (exact .row (by repeat (first | exact .refl | refine .cons ?_)))) (fun _=>?_);refine jk 11 rfl rfl rfl rfl (Qt.fieldAddr rfl rfl) ?_;refine jt 12 rfl rfl (Ld.cZ rfl rfl (by exact rfl)) (fun _=>?_);refine bS ?_
   rotate_left
   refine JS.cz rfl rfl rfl (qb rfl) (Ld.fJ (qb rfl) rfl rfl rfl rfl rfl) .none (fun _=>?_);refine jl 3 rfl rfl rfl rfl (Ld.cA (qb rfl) rfl rfl .read (by (simp;omega))) (by (exact .row (by repeat (first | exact .refl | refine .cons ?_)))) (fun _=>?_);refine jl 10 rfl rfl rfl rfl (Ld.fz (qb rfl) rfl rfl .cY (by (simp;omega))) (by (exact .row (by repeat (first | exact .refl | refine .cons ?_)))) (fun _=>?_);refine jk 11 rfl rfl rfl rfl (Qt.fieldAddr rfl rfl) ?_;refine jt 12 rfl rfl (Ld.cZ rfl rfl (by exact rfl)) (fun _=>?_);refine bS ?_
   rotate_left
   refine JS.cz rfl rfl rfl (qb rfl) (Ld.fJ (qb rfl) rfl rfl rfl rfl rfl) .none (fun _=>?_);refine jl 0 rfl rfl rfl rfl (Ld.ia (qb rfl)) .none (fun _=>?_);refine jl 3 rfl rfl rfl rfl (Ld.cA (qb rfl) rfl rfl .read (by (simp;omega))) (by (exact .row (by repeat (first | exact .refl | refine .cons ?_)))) (fun _=>?_);refine jl 10 rfl rfl rfl rfl (Ld.fz (qb rfl) rfl rfl .cY (by (simp;omega))) (by (exact .row (by repeat (first | exact .refl | refine .cons ?_)))) (fun _=>?_);refine jk 11 rfl rfl rfl rfl (Qt.fieldAddr rfl rfl) ?_;refine jt 12 rfl rfl (Ld.cZ rfl rfl (by exact rfl)) (fun _=>?_);refine bS ?_
   rotate_left
   all_goals
    repeat (first | refine kU (D1) ?_ | refine gn ?_)
    exact aA func206
end Fl
end Go.Proofs.YtofnbflkhgammaaGreat
