/-
  What the laws need, part B16.
  Conditions: none.
-/
import Derived.Test.YtgjpdogjekmemaaGreatB15
set_option linter.unusedVariables false
set_option linter.unusedSimpArgs false
set_option linter.unnecessarySimpa false
set_option maxHeartbeats 2000000
namespace Go.Proofs.YtgjpdogjekmemaaGreat
open Go.RowKit
namespace Fl
open Sx Go.Proofs.Tryz
set_option maxRecDepth 100000
theorem Ks (s:ai) (g:Nat) (o:Pn.Op) (h:tW s g o) (hi:cP s (aa s g).hold) :
  Pure prog 125 [.agg (aC s),.c (nI g),.agg (gR o)] (.agg (aC (iy s g o))):=by
 have hg:=h.ca.lt;have hf:Few s:=h.ca.fit.toAnd;have hb:=hf.1;have cQ:=hf.2.1;have k0:=h.ca.k0;have k1:=h.ca.k1;have hm:=h.ca.md;have I1:=ku k0 k1;have i0:=h.i0;have i1:=h.i1;have J1:=tV i0 i1;have aj:iy s g o=iy s g o:=rfl
 conv at aj=>rhs;unfold iy;simp only
 obtain ⟨eH,ee,gi,ji⟩:=id hi;have D1:=nY s (aa s g).hold eH ee (Nat.le_trans (h.ca.fit.rv _) (by omega)) (Nat.le_trans (h.ca.fit.sd _) (by omega)) cQ;have q1:cP (bE s (aa s g).hold) (aa s g).hold:=hi.of (oR _ _) (by rw [eU]);have f1:=h.ca.fit.drop (aa s g).hold;have g1:g < (bE s (aa s g).hold).gs.length:=by rw [eU];exact hg
 have m1:aR (bE s (aa s g).hold) (bT o (aB (aa s g).order (aa s g).k)).ch=true:=by rw [Bf];exact hm
 generalize aB (aa s g).order (aa s g).k=i at *;generalize bT o i=kk at *;generalize bE s (aa s g).hold=s1 at *;refine aA.intro func125 rfl rfl rfl (fun ok e=>?_)
 cases hs:kk.send with
 | true =>
  simp only [hs,if_true] at aj;have a1:=fO q1.1 q1.2.1;have D2:=qv s1 (aa s g).hold { su s1 (aa s g).hold with v:=kk.v } q1.1 q1.2.1 f1.1.2.2;have q2:cP (bh s1 (aa s g).hold { su s1 (aa s g).hold with v:=kk.v }) (aa s g).hold:=q1.gF rfl;have f2:=f1.gF (aa s g).hold { su s1 (aa s g).hold with v:=kk.v };have g2:g < (bh s1 (aa s g).hold { su s1 (aa s g).hold with v:=kk.v }).gs.length:=g1;generalize bh s1 (aa s g).hold { su s1 (aa s g).hold with v:=kk.v }=s2 at *;have D3:=sJ s2 g (aa s g).hold true g2 q2 f2;have g3:g < (Sx.serve s2 g (aa s g).hold true).gs.length:=by rw [mI];exact g2
  have b3:(Sx.serve s2 g (aa s g).hold true).gs.length≤100000:=by rw [mI];exact f2.1.1
  generalize Sx.serve s2 g (aa s g).hold true=s3 at *;have D4:=cj s3 g { aa s3 g with res:=⟨1,i,0,true,0⟩ } g3 b3;have D5:=oT (ah s3 g { aa s3 g with res:=⟨1,i,0,true,0⟩ }) g 30 (by rw [bP];exact g3) (by rw [bP];exact b3);rw [aj]
  repeat (first | refine J.eZ (congrArg (fun b=>some (D.c (bI b))) hs) ?_ | refine aO (sI ⟨1,0,0,true,0⟩ i) ?_ | refine au ?_ | intro _)
  exact az func125
 | false =>
  simp only [hs,Bool.false_eq_true,if_false] at aj;have D2:=Bc s1 kk.ch (aa s g).hold m1 f1.1.2.1 q1.1 q1.2.1 (f1.bf _);have q2:cP (Sx.hand s1 kk.ch (aa s g).hold).1 (aa s g).hold:=q1.of (Be _ _ _) (by rw [uV]);have f2:=f1.hand kk.ch (aa s g).hold;have g2:g < (Sx.hand s1 kk.ch (aa s g).hold).1.gs.length:=by rw [uV];exact g1
  generalize Sx.hand s1 kk.ch (aa s g).hold=n at *;have D3:=sJ n.1 g (aa s g).hold true g2 q2 f2;have g3:g < (Sx.serve n.1 g (aa s g).hold true).gs.length:=by rw [mI];exact g2
  have b3:(Sx.serve n.1 g (aa s g).hold true).gs.length≤100000:=by rw [mI];exact f2.1.1
  generalize Sx.serve n.1 g (aa s g).hold true=s3 at *;have D4:=cj s3 g { aa s3 g with res:={ dA n.2 true with cs:=i } } g3 b3;have D5:=oT (ah s3 g { aa s3 g with res:={ dA n.2 true with cs:=i } }) g 30 (by rw [bP];exact g3) (by rw [bP];exact b3);rw [aj]
  repeat (first | refine J.eK (congrArg (fun b=>some (D.c (bI b))) hs) ?_ | refine aO (iQ n.2 true) ?_ | refine aO (sI (dA n.2 true) i) ?_ | refine au ?_ | intro _)
  exact az func125
theorem De (s:ai) (g:Nat):(bw s g).1.gs.length=s.gs.length:=by rw [uU]
theorem Kt (s:ai) (g:Nat) (o:Pn.Op) (h:tW s g o) (hp:kr s) (hc:g < s.cache.length) (hd:(bw s g).2.2=true→0≤(bw s g).2.1∧(bw s g).2.1 < s.aL.length) (hl:(aa s g).aq.length=o.cases.length) :
  Pure prog 126 [.agg (aC s),.c (nI g),.agg (gR o)] (.agg (aC (aL s g o))):=by
 have hg:=h.ca.lt;have hf:Few s:=h.ca.fit.toAnd;have hb:=hf.1;have k0:=h.ca.k0;have k1:=h.ca.k1;have kb:=h.ca.fit.od g;have I1:=ku k0 k1;have i0:=h.i0;have i1:=h.i1;have J1:=tV i0 i1;have cl:=h.cl;have aj:aL s g o=aL s g o:=rfl
 conv at aj=>rhs;unfold aL;simp only
 have C1:=AP s g hc hp;have g1:g < (bw s g).1.gs.length:=by rw [De];exact hg
 have b1:(bw s g).1.gs.length≤100000:=by rw [De];exact hb
 have eg:aa (bw s g).1 g=aa s g:=nZ (uU s g) g;have u1:=xX s g;generalize aB (aa s g).order (aa s g).k=i at *;generalize bT o i=kk at *;refine aA.intro func126 rfl rfl rfl (fun ok e=>?_)
 cases hs:(bw s g).2.2 with
 | false =>
  rw [if_neg (by rw [hs];simp)] at aj;rw [hs] at C1;rw [aj];generalize (bw s g).1=s1 at *;have A1:=fM g1;rw [eg] at A1;have D1:=cj s1 g { aa s g with res:={ (aa s g).res with code:=6 } } g1 b1;have D2:=oT (ah s1 g { aa s g with res:={ (aa s g).res with code:=6 } }) g 30 (by rw [bP];exact g1) (by rw [bP];exact b1)
  repeat (first | refine au ?_ | intro _)
  exact az func126
 | true =>
  obtain ⟨d1,d2⟩:=hd hs;rw [if_pos hs] at aj;rw [hs] at C1;rw [aj];have d3:(bw s g).2.1 < (bw s g).1.aL.length:=by rw [u1];exact d2
  have d4:(bw s g).1.aL.length≤100000:=by rw [u1];exact hf.2.2
  clear hd hs;generalize (bw s g).1=s1 at *;generalize (bw s g).2.1=d at *;have A1:=fM g1;rw [eg] at A1;have D1:=qv s1 d ⟨true,g,kk.ch,i,kk.send,kk.v,false⟩ d1 d3 d4;have g2:g < (bh s1 d ⟨true,g,kk.ch,i,kk.send,kk.v,false⟩).gs.length:=g1;have b2:(bh s1 d ⟨true,g,kk.ch,i,kk.send,kk.v,false⟩).gs.length≤100000:=b1;generalize bh s1 d ⟨true,g,kk.ch,i,kk.send,kk.v,false⟩=s2 at *;have D2:=cj s2 g { aa s g with aq:=(aa s g).aq.set i.toNat d } g2 b2;have kx:(aa (ah s2 g { aa s g with aq:=(aa s g).aq.set i.toNat d }) g)={ aa s g with aq:=(aa s g).aq.set i.toNat d }:=by
   unfold aa ah;simp [g2]
  have D3:=lV (ah s2 g { aa s g with aq:=(aa s g).aq.set i.toNat d }) g 29 (by rw [bP];exact g2) (by rw [bP];exact b2) (by rw [kx];exact k0) (by rw [kx];simp only;omega);have e1:([] ++ List.map (fun n=>[nI n]) (aa s g).aq).set i.toNat [nI d]=((aa s g).aq.set i.toNat d).map (fun n=>[nI n]):=by simp
  have wl:i < (([] ++ List.map (fun n=>[nI n]) (aa s g).aq).length:Int):=by simp;omega
  have wb:=h.ca.fit.sg g;have wn:i.toNat < ([] ++ List.map (fun n=>[nI n]) (aa s g).aq).length:=by simp;omega
  repeat (first | (refine K.bi ?_;refine JO.ld (Ld.bO (qb rfl) rfl rfl .read (by (simp;omega))) rfl (fun _=>?_)) | refine au ?_ | intro _)
  repeat (first | (refine K.store ?_;refine JO.ld (Ld.bM rfl rfl rfl (by exact rfl) (by exact wn)) rfl (fun _=>?_)) | (refine K.indexAddr ?_;refine jq rfl rfl rfl (Qt.aN rfl rfl (by omega) (by omega)) ?_))
  refine JO.nil ?_;refine J.lN 0 2 22 rfl rfl rfl ?_;rw [e1]
  repeat (refine gn ?_)
  exact az func126
theorem Ku (s:ai) (g:Nat) (o:Pn.Op) (h:tW s g o) (hl:(aa s g).aq.length=o.cases.length) :
  Pure prog 127 [.agg (aC s),.c (nI g),.agg (gR o)] (.agg (aC (ja s g o))):=by
 have hg:=h.ca.lt;have hf:Few s:=h.ca.fit.toAnd;have hb:=hf.1;have cQ:=hf.2.1;have k0:=h.ca.k0;have k1:=h.ca.k1;have kb:=h.ca.fit.od g;have I1:=ku k0 k1;have i0:=h.i0;have i1:=h.i1;have J1:=tV i0 i1;have cl:=h.cl;have hm:=h.ca.md;have GF:=dJ hm;have rb:=h.ca.fit.rv (bT o (aB (aa s g).order (aa s g).k)).ch;have sb:=h.ca.fit.sd (bT o (aB (aa s g).order (aa s g).k)).ch;have aj:ja s g o=ja s g o:=rfl
 conv at aj=>rhs;unfold ja;simp only
 generalize aB (aa s g).order (aa s g).k=i at *;generalize bT o i=kk at *;have I2:=ku (l:=(aa s g).aq) i0 (by rw [hl];exact i1);refine aA.intro func127 rfl rfl rfl (fun ok e=>?_);have W:∀ c:Cn,Pure prog 115 [.agg (aC s),.c (nI kk.ch),.agg (eC c)] (.agg (aC (aH s kk.ch c))):=fun c=>jR s kk.ch c hm cQ
 have gx:∀ c:Cn,aa (aH s kk.ch c) g=aa s g:=fun c=>rfl
 cases hs:kk.send with
 | true =>
  simp only [hs,if_true] at aj;have D1:=W { cn s kk.ch with send:=(cn s kk.ch).send ++ [aB (aa s g).aq i] };have g1:g < (aH s kk.ch { cn s kk.ch with send:=(cn s kk.ch).send ++ [aB (aa s g).aq i] }).gs.length:=hg;have b1:(aH s kk.ch { cn s kk.ch with send:=(cn s kk.ch).send ++ [aB (aa s g).aq i] }).gs.length≤100000:=hb;have t1:=gx { cn s kk.ch with send:=(cn s kk.ch).send ++ [aB (aa s g).aq i] };generalize aH s kk.ch { cn s kk.ch with send:=(cn s kk.ch).send ++ [aB (aa s g).aq i] }=s1 at *
  by_cases hk:(aa s g).k + 1 < (aa s g).order.length
  ·rw [if_pos hk] at aj;rw [aj];have gj:(decide ((aa s g).k + 1 < ((aa s g).order.length:Int)))=true:=decide_eq_true hk;have D2:=lV s1 g 29 g1 b1 (by rw [t1];exact k0) (by rw [t1];omega)
   repeat (first | refine J.eZ (congrArg (fun b=>some (D.c (bI b))) hs) ?_ | refine au ?_ | intro _)
   refine J.draw (by kernel_rfl) rfl ?_;refine JW.base (some 12) ?_;refine tk 1 ?_;refine tk 2 ?_;refine tk 4 ?_;refine tk 5 ?_;refine tk 6 ?_;refine JD.take 7 rfl rfl (by kernel_rfl) rfl (qb rfl) (Qt.dj rfl rfl i0 I2) rfl ?_;refine tk 8 ?_;refine JD.cF (i:=0) (j:=9) (by kernel_rfl) ?_ ?_;refine JS.cC rfl rfl rfl (qb rfl) (Ld.eJ (qb rfl)) .none (fun _=>?_);refine JD.cF (i:=3) (j:=9) (by kernel_rfl) ?_ ?_;refine JS.cC rfl rfl rfl (qb rfl) (Ld.bO (qb rfl) rfl rfl .read (by (simp;omega))) (by (exact .row (by repeat ((exact .refl))))) (fun _=>?_);refine jl 9 rfl rfl rfl rfl (Ld.dK (qb rfl) rfl rfl rfl rfl rfl) .none (fun _=>?_);refine jl 10 rfl rfl rfl rfl (Ld.dU (qb rfl) rfl rfl .cX (by (simp;omega))) (by (exact .row (by repeat (first | exact .refl | refine .cons ?_)))) (fun _=>?_);refine jk 11 rfl rfl rfl rfl (Qt.fieldAddr rfl rfl) ?_;refine jt 12 rfl rfl (Ld.cW rfl rfl (by exact rfl)) (fun _=>?_);refine cH ?_
   rotate_left
   refine JS.cC rfl rfl rfl (qb rfl) (Ld.dK (qb rfl) rfl rfl rfl rfl rfl) .none (fun _=>?_);refine jl 3 rfl rfl rfl rfl (Ld.bO (qb rfl) rfl rfl .read (by (simp;omega))) (by (exact .row (by repeat (first | exact .refl | refine .cons ?_)))) (fun _=>?_);refine jl 10 rfl rfl rfl rfl (Ld.dU (qb rfl) rfl rfl .cX (by (simp;omega))) (by (exact .row (by repeat (first | exact .refl | refine .cons ?_)))) (fun _=>?_);refine jk 11 rfl rfl rfl rfl (Qt.fieldAddr rfl rfl) ?_;refine jt 12 rfl rfl (Ld.cW rfl rfl (by exact rfl)) (fun _=>?_);refine cH ?_
   rotate_left
   refine JS.cC rfl rfl rfl (qb rfl) (Ld.dK (qb rfl) rfl rfl rfl rfl rfl) .none (fun _=>?_);refine jl 0 rfl rfl rfl rfl (Ld.eJ (qb rfl)) .none (fun _=>?_);refine jl 3 rfl rfl rfl rfl (Ld.bO (qb rfl) rfl rfl .read (by (simp;omega))) (by (exact .row (by repeat (first | exact .refl | refine .cons ?_)))) (fun _=>?_);refine jl 10 rfl rfl rfl rfl (Ld.dU (qb rfl) rfl rfl .cX (by (simp;omega))) (by (exact .row (by repeat (first | exact .refl | refine .cons ?_)))) (fun _=>?_);refine jk 11 rfl rfl rfl rfl (Qt.fieldAddr rfl rfl) ?_;refine jt 12 rfl rfl (Ld.cW rfl rfl (by exact rfl)) (fun _=>?_);refine cH ?_
   rotate_left
   all_goals
    repeat (first | refine ke (D1) ?_ | refine gn ?_)
    exact az func127
  ·rw [if_neg hk] at aj;rw [aj];have gj:(decide ((aa s g).k + 1 < ((aa s g).order.length:Int)))=false:=decide_eq_false hk;have D2:=cj s1 g { aa s g with fW:=s1.step } g1 b1;have D3:=oT (ah s1 g { aa s g with fW:=s1.step }) g 30 (by rw [bP];exact g1) (by rw [bP];exact b1)
   repeat (first | refine J.eZ (congrArg (fun b=>some (D.c (bI b))) hs) ?_ | refine au ?_ | intro _)
   refine J.draw (by kernel_rfl) rfl ?_;refine JW.base (some 12) ?_;refine tk 1 ?_;refine tk 2 ?_;refine tk 4 ?_;refine tk 5 ?_;refine tk 6 ?_;refine JD.take 7 rfl rfl (by kernel_rfl) rfl (qb rfl) (Qt.dj rfl rfl i0 I2) rfl ?_;refine tk 8 ?_;refine JD.cF (i:=0) (j:=9) (by kernel_rfl) ?_ ?_;refine JS.cC rfl rfl rfl (qb rfl) (Ld.eJ (qb rfl)) .none (fun _=>?_);refine JD.cF (i:=3) (j:=9) (by kernel_rfl) ?_ ?_;refine JS.cC rfl rfl rfl (qb rfl) (Ld.bO (qb rfl) rfl rfl .read (by (simp;omega))) (by (exact .row (by repeat ((exact .refl))))) (fun _=>?_);refine jl 9 rfl rfl rfl rfl (Ld.dK (qb rfl) rfl rfl rfl rfl rfl) .none (fun _=>?_);refine jl 10 rfl rfl rfl rfl (Ld.dU (qb rfl) rfl rfl .cX (by (simp;omega))) (by (exact .row (by repeat (first | exact .refl | refine .cons ?_)))) (fun _=>?_);refine jk 11 rfl rfl rfl rfl (Qt.fieldAddr rfl rfl) ?_;refine jt 12 rfl rfl (Ld.cW rfl rfl (by exact rfl)) (fun _=>?_);refine cH ?_
   rotate_left
   refine JS.cC rfl rfl rfl (qb rfl) (Ld.dK (qb rfl) rfl rfl rfl rfl rfl) .none (fun _=>?_);refine jl 3 rfl rfl rfl rfl (Ld.bO (qb rfl) rfl rfl .read (by (simp;omega))) (by (exact .row (by repeat (first | exact .refl | refine .cons ?_)))) (fun _=>?_);refine jl 10 rfl rfl rfl rfl (Ld.dU (qb rfl) rfl rfl .cX (by (simp;omega))) (by (exact .row (by repeat (first | exact .refl | refine .cons ?_)))) (fun _=>?_);refine jk 11 rfl rfl rfl rfl (Qt.fieldAddr rfl rfl) ?_;refine jt 12 rfl rfl (Ld.cW rfl rfl (by exact rfl)) (fun _=>?_);refine cH ?_
   rotate_left
   refine JS.cC rfl rfl rfl (qb rfl) (Ld.dK (qb rfl) rfl rfl rfl rfl rfl) .none (fun _=>?_);refine jl 0 rfl rfl rfl rfl (Ld.eJ (qb rfl)) .none (fun _=>?_);refine jl 3 rfl rfl rfl rfl (Ld.bO (qb rfl) rfl rfl .read (by (simp;omega))) (by (exact .row (by repeat (first | exact .refl | refine .cons ?_)))) (fun _=>?_);refine jl 10 rfl rfl rfl rfl (Ld.dU (qb rfl) rfl rfl .cX (by (simp;omega))) (by (exact .row (by repeat (first | exact .refl | refine .cons ?_)))) (fun _=>?_);refine jk 11 rfl rfl rfl rfl (Qt.fieldAddr rfl rfl) ?_;refine jt 12 rfl rfl (Ld.cW rfl rfl (by exact rfl)) (fun _=>?_);refine cH ?_
   rotate_left
   all_goals
    repeat (first | refine ke (D1) ?_ | refine gn ?_)
    exact az func127
 | false =>
  simp only [hs,Bool.false_eq_true,if_false] at aj;have D1:=W { cn s kk.ch with recv:=(cn s kk.ch).recv ++ [aB (aa s g).aq i] };have g1:g < (aH s kk.ch { cn s kk.ch with recv:=(cn s kk.ch).recv ++ [aB (aa s g).aq i] }).gs.length:=hg;have b1:(aH s kk.ch { cn s kk.ch with recv:=(cn s kk.ch).recv ++ [aB (aa s g).aq i] }).gs.length≤100000:=hb;have t1:=gx { cn s kk.ch with recv:=(cn s kk.ch).recv ++ [aB (aa s g).aq i] };generalize aH s kk.ch { cn s kk.ch with recv:=(cn s kk.ch).recv ++ [aB (aa s g).aq i] }=s1 at *
  by_cases hk:(aa s g).k + 1 < (aa s g).order.length
  ·rw [if_pos hk] at aj;rw [aj];have gj:(decide ((aa s g).k + 1 < ((aa s g).order.length:Int)))=true:=decide_eq_true hk;have D2:=lV s1 g 29 g1 b1 (by rw [t1];exact k0) (by rw [t1];omega)
   repeat (first | refine J.eK (congrArg (fun b=>some (D.c (bI b))) hs) ?_ | refine au ?_ | intro _)
   refine J.draw (by kernel_rfl) rfl ?_;refine JW.base (some 12) ?_;refine tk 1 ?_;refine tk 2 ?_;refine tk 4 ?_;refine tk 5 ?_;refine tk 6 ?_;refine JD.take 7 rfl rfl (by kernel_rfl) rfl (qb rfl) (Qt.dj rfl rfl i0 I2) rfl ?_;refine tk 8 ?_;refine JD.cF (i:=0) (j:=9) (by kernel_rfl) ?_ ?_;refine JS.cC rfl rfl rfl (qb rfl) (Ld.eJ (qb rfl)) .none (fun _=>?_);refine JD.cF (i:=3) (j:=9) (by kernel_rfl) ?_ ?_;refine JS.cC rfl rfl rfl (qb rfl) (Ld.bO (qb rfl) rfl rfl .read (by (simp;omega))) (by (exact .row (by repeat ((exact .refl))))) (fun _=>?_);refine jl 9 rfl rfl rfl rfl (Ld.dK (qb rfl) rfl rfl rfl rfl rfl) .none (fun _=>?_);refine jl 10 rfl rfl rfl rfl (Ld.dU (qb rfl) rfl rfl .cX (by (simp;omega))) (by (exact .row (by repeat (first | exact .refl | refine .cons ?_)))) (fun _=>?_);refine jk 11 rfl rfl rfl rfl (Qt.fieldAddr rfl rfl) ?_;refine jt 12 rfl rfl (Ld.cW rfl rfl (by exact rfl)) (fun _=>?_);refine cH ?_
   rotate_left
   refine JS.cC rfl rfl rfl (qb rfl) (Ld.dK (qb rfl) rfl rfl rfl rfl rfl) .none (fun _=>?_);refine jl 3 rfl rfl rfl rfl (Ld.bO (qb rfl) rfl rfl .read (by (simp;omega))) (by (exact .row (by repeat (first | exact .refl | refine .cons ?_)))) (fun _=>?_);refine jl 10 rfl rfl rfl rfl (Ld.dU (qb rfl) rfl rfl .cX (by (simp;omega))) (by (exact .row (by repeat (first | exact .refl | refine .cons ?_)))) (fun _=>?_);refine jk 11 rfl rfl rfl rfl (Qt.fieldAddr rfl rfl) ?_;refine jt 12 rfl rfl (Ld.cW rfl rfl (by exact rfl)) (fun _=>?_);refine cH ?_
   rotate_left
   refine JS.cC rfl rfl rfl (qb rfl) (Ld.dK (qb rfl) rfl rfl rfl rfl rfl) .none (fun _=>?_);refine jl 0 rfl rfl rfl rfl (Ld.eJ (qb rfl)) .none (fun _=>?_);refine jl 3 rfl rfl rfl rfl (Ld.bO (qb rfl) rfl rfl .read (by (simp;omega))) (by (exact .row (by repeat (first | exact .refl | refine .cons ?_)))) (fun _=>?_);refine jl 10 rfl rfl rfl rfl (Ld.dU (qb rfl) rfl rfl .cX (by (simp;omega))) (by (exact .row (by repeat (first | exact .refl | refine .cons ?_)))) (fun _=>?_);refine jk 11 rfl rfl rfl rfl (Qt.fieldAddr rfl rfl) ?_;refine jt 12 rfl rfl (Ld.cW rfl rfl (by exact rfl)) (fun _=>?_);refine cH ?_
   rotate_left
   all_goals
    repeat (first | refine ke (D1) ?_ | refine gn ?_)
    exact az func127
  ·rw [if_neg hk] at aj;rw [aj];have gj:(decide ((aa s g).k + 1 < ((aa s g).order.length:Int)))=false:=decide_eq_false hk;have D2:=cj s1 g { aa s g with fW:=s1.step } g1 b1;have D3:=oT (ah s1 g { aa s g with fW:=s1.step }) g 30 (by rw [bP];exact g1) (by rw [bP];exact b1)
   repeat (first | refine J.eK (congrArg (fun b=>some (D.c (bI b))) hs) ?_ | refine au ?_ | intro _)
   refine J.draw (by kernel_rfl) rfl ?_;refine JW.base (some 12) ?_;refine tk 1 ?_;refine tk 2 ?_;refine tk 4 ?_;refine tk 5 ?_;refine tk 6 ?_;refine JD.take 7 rfl rfl (by kernel_rfl) rfl (qb rfl) (Qt.dj rfl rfl i0 I2) rfl ?_;refine tk 8 ?_;refine JD.cF (i:=0) (j:=9) (by kernel_rfl) ?_ ?_;refine JS.cC rfl rfl rfl (qb rfl) (Ld.eJ (qb rfl)) .none (fun _=>?_);refine JD.cF (i:=3) (j:=9) (by kernel_rfl) ?_ ?_;refine JS.cC rfl rfl rfl (qb rfl) (Ld.bO (qb rfl) rfl rfl .read (by (simp;omega))) (by (exact .row (by repeat ((exact .refl))))) (fun _=>?_);refine jl 9 rfl rfl rfl rfl (Ld.dK (qb rfl) rfl rfl rfl rfl rfl) .none (fun _=>?_);refine jl 10 rfl rfl rfl rfl (Ld.dU (qb rfl) rfl rfl .cX (by (simp;omega))) (by (exact .row (by repeat (first | exact .refl | refine .cons ?_)))) (fun _=>?_);refine jk 11 rfl rfl rfl rfl (Qt.fieldAddr rfl rfl) ?_;refine jt 12 rfl rfl (Ld.cW rfl rfl (by exact rfl)) (fun _=>?_);refine cH ?_
   rotate_left
   refine JS.cC rfl rfl rfl (qb rfl) (Ld.dK (qb rfl) rfl rfl rfl rfl rfl) .none (fun _=>?_);refine jl 3 rfl rfl rfl rfl (Ld.bO (qb rfl) rfl rfl .read (by (simp;omega))) (by (exact .row (by repeat (first | exact .refl | refine .cons ?_)))) (fun _=>?_);refine jl 10 rfl rfl rfl rfl (Ld.dU (qb rfl) rfl rfl .cX (by (simp;omega))) (by (exact .row (by repeat (first | exact .refl | refine .cons ?_)))) (fun _=>?_);refine jk 11 rfl rfl rfl rfl (Qt.fieldAddr rfl rfl) ?_;refine jt 12 rfl rfl (Ld.cW rfl rfl (by exact rfl)) (fun _=>?_);refine cH ?_
   rotate_left
   refine JS.cC rfl rfl rfl (qb rfl) (Ld.dK (qb rfl) rfl rfl rfl rfl rfl) .none (fun _=>?_);refine jl 0 rfl rfl rfl rfl (Ld.eJ (qb rfl)) .none (fun _=>?_);refine jl 3 rfl rfl rfl rfl (Ld.bO (qb rfl) rfl rfl .read (by (simp;omega))) (by (exact .row (by repeat (first | exact .refl | refine .cons ?_)))) (fun _=>?_);refine jl 10 rfl rfl rfl rfl (Ld.dU (qb rfl) rfl rfl .cX (by (simp;omega))) (by (exact .row (by repeat (first | exact .refl | refine .cons ?_)))) (fun _=>?_);refine jk 11 rfl rfl rfl rfl (Qt.fieldAddr rfl rfl) ?_;refine jt 12 rfl rfl (Ld.cW rfl rfl (by exact rfl)) (fun _=>?_);refine cH ?_
   rotate_left
   all_goals
    repeat (first | refine ke (D1) ?_ | refine gn ?_)
    exact az func127
end Fl
open Go.RowKit
namespace Fl
open Sx Go.Proofs.Tryz
set_option maxRecDepth 100000
theorem Df (s:ai) (g:Nat) (hg:g < s.gs.length) (hb:Few s) (k0:1≤(aa s g).k) (k1:(aa s g).k≤(aa s g).aE.length) (kb:(aa s g).aE.length≤100000) (hm:aR s (aB (aa s g).aE ((aa s g).k - 1))=true) :
  Pure prog 128 [.agg (aC s),.c (nI g)] (.aU [.agg (aC (cI s g).1),.c (bI (cI s g).2)]):=by
 have j0:0≤(aa s g).k - 1:=by omega
 have j1:(aa s g).k - 1 < (aa s g).aE.length:=by omega
 have I1:=ku j0 j1;have D1:=xP s (aB (aa s g).aE ((aa s g).k - 1)) hm hb.2.1;have er:cI s g=(ah (Sx.free s (aB (aa s g).aE ((aa s g).k - 1))) g { aa s g with k:=(aa s g).k - 1 },decide (0 < (aa s g).k - 1)):=rfl;rw [er];have g1:g < (Sx.free s (aB (aa s g).aE ((aa s g).k - 1))).gs.length:=hg;have b1:(Sx.free s (aB (aa s g).aE ((aa s g).k - 1))).gs.length≤100000:=hb.1;generalize Sx.free s (aB (aa s g).aE ((aa s g).k - 1))=s1 at *;have D2:=cj s1 g { aa s g with k:=(aa s g).k - 1 } g1 b1;refine aA.intro func128 rfl rfl rfl (fun ok e=>?_)
 repeat (first | refine au ?_ | intro _)
 refine J.draw (by kernel_rfl) rfl ?_;refine JW.iu none (.tmp 4) rfl ?_;refine tk 0 ?_;refine tk 1 ?_;refine tk 2 ?_;refine tk 3 ?_;refine tk 4 ?_;refine JD.take 5 rfl rfl (by kernel_rfl) rfl (qb rfl) (Qt.dj rfl rfl j0 I1) rfl ?_;refine tk 6 ?_;refine tk 8 ?_;refine tk 9 ?_;refine tk 11 ?_;refine tk 12 ?_;refine tk 13 ?_;refine cz 7 (D1) ?_;refine cz 10 (D2) ?_;refine JD.cE (i:=14) (by kernel_rfl) ?_
 (refine JS.st rfl rfl rfl (Ld.bu rfl rfl rfl (by exact rfl) (by exact rfl)) (.uA rfl) (fun _=>?_))
 refine jk 15 rfl rfl rfl rfl (Qt.assign rfl) ?_;refine aX ?_
 all_goals
  exact az func128
theorem Kv (l:List Int) (hb:l.length≤100000) :
  Pure prog 129 [.c (ints l)] (.c (bI (j9 l))):=by
 refine aA.intro func129 rfl rfl rfl (fun ok e=>?_)
 repeat (refine gn ?_)
 refine J.loop (ι:={ k:Nat // k≤l.length∧∀ (j:Nat) (x:Int),j < k→l[j]?=some x→x < 0 }) (fun p=>[(5,.c (ints l)),(6,.c (nI l.length)),(7,.c (nI p.1))]) (fun _=>[]) (fun p=>l.length - p.1) ⟨0,Nat.zero_le _,fun j x h=>absurd h (Nat.not_lt_zero _)⟩ (fun X h=>h.aF ⟨rfl,rfl,rfl,trivial⟩) (fun p ih=>?_);obtain ⟨k,tX,hk⟩:=p;simp only at ih ⊢
 by_cases iH:k < l.length
 ·obtain ⟨y,hy⟩:∃ y,l[k]?=some y:=⟨_,List.getElem?_eq_getElem iH⟩
  have h1:(decide ((k:Int) < (l.length:Int)))=true:=by simpa using iH
  by_cases h0:0≤y
  ·have h2:(decide (y ≥ 0))=true:=decide_eq_true h0;have e1:j9 l=true:=by
    unfold j9;rw [List.any_eq_true];exact ⟨y,List.mem_of_getElem? hy,decide_eq_true h0⟩
   rw [e1]
   repeat (refine gn ?_)
   exact az func129
  ·have h2:(decide (y ≥ 0))=false:=decide_eq_false h0
   repeat (refine gn ?_)
   exact (ih ⟨k + 1,by omega,fun j x hj hx=>by
    rcases Nat.lt_succ_iff_lt_or_eq.1 hj with h | h
    ·exact hk j x h hx
    ·subst h;rw [hy] at hx;cases hx;omega⟩ (by simp only;omega)).aF ⟨rfl,rfl,rfl,trivial⟩
 ·have h1:(decide ((k:Int) < (l.length:Int)))=false:=by simpa using iH
  have e1:j9 l=false:=by
   unfold j9;rw [List.any_eq_false];intro x hx;obtain ⟨j,hj⟩:=List.getElem?_of_mem hx;have:=(List.getElem?_eq_some_iff.1 hj).1;have:=hk j x (by omega) hj;simp;omega
  rw [e1]
  repeat (refine gn ?_)
  exact az func129
theorem Kw (s:ai) (g:Nat) (hg:g < s.gs.length) (hb:s.gs.length≤100000) (h0:0≤(aa s g).param) (h1:(aa s g).param < s.aL.length) :
  Pure prog 131 [.agg (aC s),.c (nI g)] (.agg (aC (jP s g))):=by
 have A1:=fO h0 h1;have aj:jP s g=jP s g:=rfl
 conv at aj=>rhs;unfold jP;simp only
 generalize su s (aa s g).param=d at *;rcases d with ⟨lv,dg,Nb,qX,ds,dv,dd⟩;have D1:=sI (dA 0 false) qX;have D2:=sI (dA dv true) qX;refine aA.intro func131 rfl rfl rfl (fun ok e=>?_)
 cases dd with
 | true =>
  cases ds with
  | true =>
   simp only [if_true,and_self] at aj;rw [aj]
   repeat (first | refine au ?_ | intro _)
   refine J.draw (by kernel_rfl) rfl ?_;refine JW.base (some 5) ?_;refine tk 1 ?_;refine tk 2 ?_;refine cz 0 (iQ 0 false) ?_;refine cz 3 (D1) ?_;refine jk 4 rfl rfl rfl rfl (Qt.fieldAddr rfl rfl) ?_;refine jt 5 rfl rfl (Ld.mA rfl rfl rfl (by exact rfl) (by exact rfl)) (fun _=>?_);refine cH ?_
   all_goals
    repeat (refine gn ?_)
    refine J.draw (by kernel_rfl) rfl ?_;refine JW.base (some 7) ?_;refine tk 0 ?_;refine tk 1 ?_;refine tk 3 ?_;refine tk 4 ?_;refine cz 2 (iQ dv true) ?_;refine cz 5 (D2) ?_;refine jk 6 rfl rfl rfl rfl (Qt.fieldAddr rfl rfl) ?_;refine jt 7 rfl rfl (Ld.mA rfl rfl rfl (by exact rfl) (by exact rfl)) (fun _=>?_);refine cH ?_
    all_goals
     repeat (first | refine aO (cj s g { aa s g with res:=⟨1,qX,0,true,0⟩,param:=-1,k:=0,place:=31 } hg hb) ?_ | refine gn ?_)
     exact az func131
  | false =>
   simp only [if_true,Bool.false_eq_true,false_and,if_false] at aj;rw [aj]
   repeat (first | refine au ?_ | intro _)
   refine J.draw (by kernel_rfl) rfl ?_;refine JW.base (some 5) ?_;refine tk 1 ?_;refine tk 2 ?_;refine cz 0 (iQ 0 false) ?_;refine cz 3 (D1) ?_;refine jk 4 rfl rfl rfl rfl (Qt.fieldAddr rfl rfl) ?_;refine jt 5 rfl rfl (Ld.mA rfl rfl rfl (by exact rfl) (by exact rfl)) (fun _=>?_);refine cH ?_
   all_goals
    repeat (refine gn ?_)
    refine J.draw (by kernel_rfl) rfl ?_;refine JW.base (some 7) ?_;refine tk 0 ?_;refine tk 1 ?_;refine tk 3 ?_;refine tk 4 ?_;refine cz 2 (iQ dv true) ?_;refine cz 5 (D2) ?_;refine jk 6 rfl rfl rfl rfl (Qt.fieldAddr rfl rfl) ?_;refine jt 7 rfl rfl (Ld.mA rfl rfl rfl (by exact rfl) (by exact rfl)) (fun _=>?_);refine cH ?_
    all_goals
     repeat (first | refine aO (cj s g { aa s g with res:=⟨1,qX,dv,true,0⟩,param:=-1,k:=0,place:=31 } hg hb) ?_ | refine gn ?_)
     exact az func131
 | false =>
  cases ds with
  | true =>
   simp only [if_true,Bool.false_eq_true,and_false,if_false] at aj;rw [aj]
   repeat (first | refine au ?_ | intro _)
   refine J.draw (by kernel_rfl) rfl ?_;refine JW.base (some 5) ?_;refine tk 1 ?_;refine tk 2 ?_;refine cz 0 (iQ 0 false) ?_;refine cz 3 (D1) ?_;refine jk 4 rfl rfl rfl rfl (Qt.fieldAddr rfl rfl) ?_;refine jt 5 rfl rfl (Ld.mA rfl rfl rfl (by exact rfl) (by exact rfl)) (fun _=>?_);refine cH ?_
   all_goals
    repeat (first | refine aO (cj s g { aa s g with res:=⟨3,qX,0,false,0⟩,param:=-1,k:=0,place:=31 } hg hb) ?_ | refine gn ?_)
    exact az func131
  | false =>
   simp only [Bool.false_eq_true,and_false,if_false] at aj;rw [aj]
   repeat (first | refine au ?_ | intro _)
   refine J.draw (by kernel_rfl) rfl ?_;refine JW.base (some 5) ?_;refine tk 1 ?_;refine tk 2 ?_;refine cz 0 (iQ 0 false) ?_;refine cz 3 (D1) ?_;refine jk 4 rfl rfl rfl rfl (Qt.fieldAddr rfl rfl) ?_;refine jt 5 rfl rfl (Ld.mA rfl rfl rfl (by exact rfl) (by exact rfl)) (fun _=>?_);refine cH ?_
   all_goals
    repeat (first | refine aO (cj s g { aa s g with res:=⟨1,qX,0,false,0⟩,param:=-1,k:=0,place:=31 } hg hb) ?_ | refine gn ?_)
    exact az func131
theorem Kx (s:ai) (g:Nat) (hg:g < s.gs.length) (hb:Fit s) (k0:0≤(aa s g).k) (k1:(aa s g).k < (aa s g).order.length) (i0:0≤aB (aa s g).order (aa s g).k) (i1:aB (aa s g).order (aa s g).k < (aa s g).aq.length)
  (j0:0≤aB (aa s g).aq (aB (aa s g).order (aa s g).k)) (j1:aB (aa s g).aq (aB (aa s g).order (aa s g).k) < s.aL.length) :
  Pure prog 132 [.agg (aC s),.c (nI g)] (.agg (aC (jb s g))):=by
 have I1:=ku k0 k1;have I2:=ku i0 i1;have kb:=hb.od g;have aj:jb s g=jb s g:=rfl
 conv at aj=>rhs;unfold jb;simp only
 have D1:=nY s (aB (aa s g).aq (aB (aa s g).order (aa s g).k)) j0 j1 (Nat.le_trans (hb.rv _) (by omega)) (Nat.le_trans (hb.sd _) (by omega)) hb.1.2.1;have g1:g < (bE s (aB (aa s g).aq (aB (aa s g).order (aa s g).k))).gs.length:=by rw [eU];exact hg
 have b1:(bE s (aB (aa s g).aq (aB (aa s g).order (aa s g).k))).gs.length≤100000:=by rw [eU];exact hb.1.1
 have eg:aa (bE s (aB (aa s g).aq (aB (aa s g).order (aa s g).k))) g=aa s g:=nZ (eU _ _) g;generalize bE s (aB (aa s g).aq (aB (aa s g).order (aa s g).k))=s1 at *;refine aA.intro func132 rfl rfl rfl (fun ok e=>?_)
 by_cases hk:(aa s g).k + 1 < (aa s g).order.length
 ·rw [if_pos hk] at aj;rw [aj];have gj:(decide ((aa s g).k + 1 < ((aa s g).order.length:Int)))=true:=decide_eq_true hk;have D2:=lV s1 g 32 g1 b1 (by rw [eg];exact k0) (by rw [eg];omega)
  repeat (first | refine au ?_ | intro _)
  refine J.draw (by kernel_rfl) rfl ?_;refine JW.base (some 12) ?_;refine tk 0 ?_;refine tk 1 ?_;refine tk 2 ?_;refine tk 3 ?_;refine tk 4 ?_;refine tk 5 ?_;refine tk 6 ?_;refine JD.take 7 rfl rfl (by kernel_rfl) rfl (qb rfl) (Qt.dj rfl rfl k0 I1) rfl ?_;refine tk 8 ?_;refine JD.take 9 rfl rfl (by kernel_rfl) rfl (qb rfl) (Qt.dj rfl rfl i0 I2) rfl ?_;refine tk 10 ?_;refine cz 11 (D1) ?_;refine jt 12 rfl rfl (Ld.bu rfl rfl rfl (by exact rfl) (by exact rfl)) (fun _=>?_);refine cH ?_
  all_goals
   repeat (refine gn ?_)
   exact az func132
 ·rw [if_neg hk] at aj;rw [aj];have gj:(decide ((aa s g).k + 1 < ((aa s g).order.length:Int)))=false:=decide_eq_false hk;have D2:=oT s1 g 33 g1 b1
  repeat (first | refine au ?_ | intro _)
  refine J.draw (by kernel_rfl) rfl ?_;refine JW.base (some 12) ?_;refine tk 0 ?_;refine tk 1 ?_;refine tk 2 ?_;refine tk 3 ?_;refine tk 4 ?_;refine tk 5 ?_;refine tk 6 ?_;refine JD.take 7 rfl rfl (by kernel_rfl) rfl (qb rfl) (Qt.dj rfl rfl k0 I1) rfl ?_;refine tk 8 ?_;refine JD.take 9 rfl rfl (by kernel_rfl) rfl (qb rfl) (Qt.dj rfl rfl i0 I2) rfl ?_;refine tk 10 ?_;refine cz 11 (D1) ?_;refine jt 12 rfl rfl (Ld.bu rfl rfl rfl (by exact rfl) (by exact rfl)) (fun _=>?_);refine cH ?_
  all_goals
   repeat (refine gn ?_)
   exact az func132
end Fl
end Go.Proofs.YtgjpdogjekmemaaGreat
