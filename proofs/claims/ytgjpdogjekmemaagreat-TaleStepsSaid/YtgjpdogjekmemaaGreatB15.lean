/-
  What the laws need, part B15.
  Conditions: none.
-/
import Derived.Test.YtgjpdogjekmemaaGreatB11
set_option linter.unusedVariables false
set_option linter.unusedSimpArgs false
set_option linter.unnecessarySimpa false
set_option maxHeartbeats 2000000
namespace Go.Proofs.YtgjpdogjekmemaaGreat
open Go.RowKit
namespace Fl
open Sx Go.Proofs.Tryz
set_option maxRecDepth 100000
structure qV (s:ai) (g:Nat):Prop where
 co:qw s g
 fit:Fit s
 Da:(aa s g).place=22→(∀ i l,(cn s (ag s g).ch).recv=i :: l→cP s i)∧(∀ i l,(cn s (ag s g).ch).send=i :: l→cP s i)
 Kh:(aa s g).place=23→cP s (aa s g).hold
theorem Db {s:ai} {g:Nat} {x:Gr} (h:g < s.gs.length):aa (ah s g x) g=x:=by
 unfold aa ah;simp [h]
theorem Ki {s:ai} {o g:Nat} {x:Gr} (e:x.hold=(aa s o).hold):(aa (ah s o x) g).hold=(aa s g).hold:=by
 by_cases h:o=g
 ·subst h;rcases uW s o x o with e1 | e1
  ·rw [e1,e]
  ·rw [e1]
 ·have:aa (ah s o x) g=aa s g:=by
   unfold aa ah;simp only [List.getD_eq_getElem?_getD,List.getElem?_set];rw [if_neg h]
  rw [this]
theorem Dc (s:ai) (g:Nat):(gz s g).gs.length=s.gs.length:=by
 unfold gz;simp only [mI,bP,eU]
theorem Kj (s:ai) (g:Nat) (h:qV s g) (hk:(ag s g).kind=6) (hc:(common s g).2=false) (hm:aR s (ag s g).ch=true) (e0:(aa s g).place=21) :
  Pure prog 86 [.agg (aC s),.c (nI g)] (.aU [.agg (aC (c9 s g).1),.c (bI (c9 s g).2)]):=by
 have hg:=h.co.lt;have hf:Few s:=h.fit.toAnd;have hb:=hf.1;have cQ:=hf.2.1;have C0:=cO s g hg h.co.cJ;have C1:=dY s g h.co;have K6:((ag s g).kind != 6)=false:=by rw [hk];rfl
 have aZ:¬ ((ag s g).kind≠6):=by omega
 have bX:¬ (common s g).2=true:=by rw [hc];simp
 rw [hc] at C1;have CM:=dN s (ag s g).ch;have bY:¬ aR s (ag s g).ch=false:=by rw [hm];simp
 have hl:=dJ hm;rw [hm] at CM;have aj:c9 s g=c9 s g:=rfl
 conv at aj=>rhs;unfold c9;simp only;rw [if_neg aZ,if_neg bX,if_neg bY]
 have P:∀ c,((aa s g).place == c)=((21:Int) == c):=fun c=>by rw [e0]
 refine aA.intro func86 rfl rfl rfl (fun ok e=>?_);rw [if_pos e0] at aj
 cases bZ:(cn s (ag s g).ch).closed with
 | true =>
  rw [if_pos bZ] at aj;rw [aj]
  repeat (first | refine J.eZ (congrArg (fun b=>some (D.c (bI b))) bZ) ?_ | refine aM (P _) ?_ | refine aO (gE s g (res 4) 16 hg hb) ?_ | refine au ?_ | intro _)
  exact az func86
 | false =>
  rw [if_neg (by rw [bZ];simp)] at aj;rw [aj]
  repeat (first | refine J.eK (congrArg (fun b=>some (D.c (bI b))) bZ) ?_ | refine aM (P _) ?_ | refine aO (jR s (ag s g).ch { (cn s (ag s g).ch) with closed:=true } hm cQ) ?_ | refine aO (gE (aH s (ag s g).ch { (cn s (ag s g).ch) with closed:=true }) g kP 22 hg hb) ?_ | refine au ?_ | intro _)
  exact az func86
theorem Kk (s:ai) (g:Nat) (h:qV s g) (hk:(ag s g).kind=6) (hc:(common s g).2=false) (hm:aR s (ag s g).ch=true) (e0:(aa s g).place=22) :
  Pure prog 86 [.agg (aC s),.c (nI g)] (.aU [.agg (aC (c9 s g).1),.c (bI (c9 s g).2)]):=by
 have hg:=h.co.lt;have hf:Few s:=h.fit.toAnd;have hb:=hf.1;have cQ:=hf.2.1;have C0:=cO s g hg h.co.cJ;have C1:=dY s g h.co;have K6:((ag s g).kind != 6)=false:=by rw [hk];rfl
 have aZ:¬ ((ag s g).kind≠6):=by omega
 have bX:¬ (common s g).2=true:=by rw [hc];simp
 rw [hc] at C1;have CM:=dN s (ag s g).ch;have bY:¬ aR s (ag s g).ch=false:=by rw [hm];simp
 have hl:=dJ hm;rw [hm] at CM;have aj:c9 s g=c9 s g:=rfl
 conv at aj=>rhs;unfold c9;simp only;rw [if_neg aZ,if_neg bX,if_neg bY]
 have P:∀ c,((aa s g).place == c)=((22:Int) == c):=fun c=>by rw [e0]
 refine aA.intro func86 rfl rfl rfl (fun ok e=>?_);rw [av] at aj;rw [if_pos e0] at aj
 cases hr:(cn s (ag s g).ch).recv with
 | cons a l =>
  have hz:(decide (((cn s (ag s g).ch).recv.length:Int) > 0))=true:=by rw [hr];simp
  have w0:((cn s (ag s g).ch).recv.map fun n=>[nI n])[(0:Int).toNat]?=some [nI a]:=by rw [hr];rfl
  rw [if_pos (by rw [hr];simp),hr] at aj;dsimp only [List.headD_cons] at aj;have k0:cP s a:=(h.Da e0).1 a l hr;have k1:cP (ah s g { aa s g with hold:=a }) a:=k0.of rfl (bP _ _ _);have g1:g < (ah s g { aa s g with hold:=a }).gs.length:=by rw [bP];exact hg
  have f1:=h.fit.ff g { aa s g with hold:=a } ⟨h.fit.wk g,h.fit.od g,h.fit.sg g⟩;have hh:(aa (ah s g { aa s g with hold:=a }) g).hold=a:=by rw [Db hg]
  have D1:=cj s g { aa s g with hold:=a } hg hb;have D2:=dX (ah s g { aa s g with hold:=a }) g 23 g1 f1.1.1;have D3:=x9 (ah s g { aa s g with hold:=a }) g g1 (by rw [hh];exact k1) f1;have oD:ju s g a=if 0≤(su (ah s g { aa s g with hold:=a }) a).cs then aT (ah s g { aa s g with hold:=a }) g 23 else gz (ah s g { aa s g with hold:=a }) g:=rfl
  rw [oD] at aj;clear oD hh;generalize ah s g { aa s g with hold:=a }=s1 at *;have q0:=k1.1
  cases lu:decide ((su s1 a).cs ≥ 0) with
  | true =>
   rw [if_pos (by simpa using lu)] at aj;rw [aj]
   repeat (first | (refine K.indexAddr ?_;refine jx rfl rfl rfl rfl (by omega) (fO k1.1 k1.2.1) ?_) | refine aM (P _) ?_ | refine au ?_ | intro _)
   exact az func86
  | false =>
   rw [if_neg (by simpa using lu)] at aj;rw [aj]
   repeat (first | (refine K.indexAddr ?_;refine jx rfl rfl rfl rfl (by omega) (fO k1.1 k1.2.1) ?_) | refine aM (P _) ?_ | refine au ?_ | intro _)
   exact az func86
 | nil =>
  have hz:(decide (((cn s (ag s g).ch).recv.length:Int) > 0))=false:=by rw [hr];rfl
  rw [if_neg (by rw [hr];simp)] at aj
  cases hs:(cn s (ag s g).ch).send with
  | cons a l =>
   have hy:(decide (((cn s (ag s g).ch).send.length:Int) > 0))=true:=by rw [hs];simp
   have w0:((cn s (ag s g).ch).send.map fun n=>[nI n])[(0:Int).toNat]?=some [nI a]:=by rw [hs];rfl
   rw [if_pos (by rw [hs];simp),hs] at aj;dsimp only [List.headD_cons] at aj;have k0:cP s a:=(h.Da e0).2 a l hs;have k1:cP (ah s g { aa s g with hold:=a }) a:=k0.of rfl (bP _ _ _);have g1:g < (ah s g { aa s g with hold:=a }).gs.length:=by rw [bP];exact hg
   have f1:=h.fit.ff g { aa s g with hold:=a } ⟨h.fit.wk g,h.fit.od g,h.fit.sg g⟩;have hh:(aa (ah s g { aa s g with hold:=a }) g).hold=a:=by rw [Db hg]
   have D1:=cj s g { aa s g with hold:=a } hg hb;have D2:=dX (ah s g { aa s g with hold:=a }) g 23 g1 f1.1.1;have D3:=x9 (ah s g { aa s g with hold:=a }) g g1 (by rw [hh];exact k1) f1;have oD:ju s g a=if 0≤(su (ah s g { aa s g with hold:=a }) a).cs then aT (ah s g { aa s g with hold:=a }) g 23 else gz (ah s g { aa s g with hold:=a }) g:=rfl
   rw [oD] at aj;clear oD hh;generalize ah s g { aa s g with hold:=a }=s1 at *;have q0:=k1.1
   cases lu:decide ((su s1 a).cs ≥ 0) with
   | true =>
    rw [if_pos (by simpa using lu)] at aj;rw [aj]
    repeat (first | (refine K.indexAddr ?_;refine jx rfl rfl rfl rfl (by omega) (fO k1.1 k1.2.1) ?_) | refine aM (P _) ?_ | refine au ?_ | intro _)
    exact az func86
   | false =>
    rw [if_neg (by simpa using lu)] at aj;rw [aj]
    repeat (first | (refine K.indexAddr ?_;refine jx rfl rfl rfl rfl (by omega) (fO k1.1 k1.2.1) ?_) | refine aM (P _) ?_ | refine au ?_ | intro _)
    exact az func86
  | nil =>
   have hy:(decide (((cn s (ag s g).ch).send.length:Int) > 0))=false:=by rw [hs];rfl
   rw [if_neg (by rw [hs];simp)] at aj;rw [aj]
   repeat (first | refine aM (P _) ?_ | refine aO (dX s g 16 hg hb) ?_ | refine au ?_ | intro _)
   exact az func86
theorem Kl (s:ai) (g:Nat) (h:qV s g) (hk:(ag s g).kind=6) (hc:(common s g).2=false) (hm:aR s (ag s g).ch=true) (e0:(aa s g).place=23) :
  Pure prog 86 [.agg (aC s),.c (nI g)] (.aU [.agg (aC (c9 s g).1),.c (bI (c9 s g).2)]):=by
 have hg:=h.co.lt;have hf:Few s:=h.fit.toAnd;have hb:=hf.1;have cQ:=hf.2.1;have C0:=cO s g hg h.co.cJ;have C1:=dY s g h.co;have K6:((ag s g).kind != 6)=false:=by rw [hk];rfl
 have aZ:¬ ((ag s g).kind≠6):=by omega
 have bX:¬ (common s g).2=true:=by rw [hc];simp
 rw [hc] at C1;have CM:=dN s (ag s g).ch;have bY:¬ aR s (ag s g).ch=false:=by rw [hm];simp
 have hl:=dJ hm;rw [hm] at CM;have aj:c9 s g=c9 s g:=rfl
 conv at aj=>rhs;unfold c9;simp only;rw [if_neg aZ,if_neg bX,if_neg bY]
 have P:∀ c,((aa s g).place == c)=((23:Int) == c):=fun c=>by rw [e0]
 refine aA.intro func86 rfl rfl rfl (fun ok e=>?_);rw [av,av] at aj;rw [if_pos e0] at aj;have hi:=h.Kh e0;obtain ⟨eH,ee,gi,ji⟩:=id hi;have Gm:=hi.gr;have oD:j8 s g=if (aa s (su s (aa s g).hold).g.toNat).br=true then ah (bE s (aa s g).hold) g { aa s g with hold:=-1,place:=22 } else aT (gz (ah s (su s (aa s g).hold).g.toNat { aa s (su s (aa s g).hold).g.toNat with br:=true }) g) g 22:=rfl
 rw [oD] at aj;clear oD
 cases hp:(aa s (su s (aa s g).hold).g.toNat).br with
 | true =>
  rw [if_pos hp] at aj;have D1:=nY s (aa s g).hold eH ee (Nat.le_trans (h.fit.rv _) (by omega)) (Nat.le_trans (h.fit.sd _) (by omega)) cQ;have D2:=cj (bE s (aa s g).hold) g { aa s g with hold:=-1,place:=22 } (by rw [eU];exact hg) (by rw [eU];exact hb);rw [aj]
  repeat (first | refine J.eZ (congrArg (fun b=>some (D.c (bI b))) hp) ?_ | (refine K.indexAddr ?_;refine jx rfl rfl rfl rfl (by omega) (fO eH ee) ?_) | refine aM (P _) ?_ | refine au ?_ | intro _)
  exact az func86
 | false =>
  rw [if_neg (by rw [hp];simp)] at aj;have D1:=sH s (su s (aa s g).hold).g { aa s (su s (aa s g).hold).g.toNat with br:=true } gi ji hb;have f1:=h.fit.ff (su s (aa s g).hold).g.toNat { aa s (su s (aa s g).hold).g.toNat with br:=true } ⟨h.fit.wk _,h.fit.od _,h.fit.sg _⟩;have k1:cP (ah s (su s (aa s g).hold).g.toNat { aa s (su s (aa s g).hold).g.toNat with br:=true }) (aa s g).hold:=hi.of rfl (bP _ _ _);have g1:g < (ah s (su s (aa s g).hold).g.toNat { aa s (su s (aa s g).hold).g.toNat with br:=true }).gs.length:=by rw [bP];exact hg
  have hh:(aa (ah s (su s (aa s g).hold).g.toNat { aa s (su s (aa s g).hold).g.toNat with br:=true }) g).hold=(aa s g).hold:=Ki rfl;have D2:=x9 _ g g1 (by rw [hh];exact k1) f1;generalize ah s (su s (aa s g).hold).g.toNat { aa s (su s (aa s g).hold).g.toNat with br:=true }=s1 at *;have D3:=dX (gz s1 g) g 22 (by rw [Dc];exact g1) (by rw [Dc];exact f1.1.1);rw [aj]
  repeat (first | refine J.eK (congrArg (fun b=>some (D.c (bI b))) hp) ?_ | (refine K.indexAddr ?_;refine jx rfl rfl rfl rfl (by omega) (fO eH ee) ?_) | refine aM (P _) ?_ | refine au ?_ | intro _)
  exact az func86
theorem Km (s:ai) (g:Nat) (h:qV s g) (hk:(ag s g).kind=6) (hc:(common s g).2=false) (hm:aR s (ag s g).ch=true) (e0:¬ ((aa s g).place=21∨(aa s g).place=22∨(aa s g).place=23)) :
  Pure prog 86 [.agg (aC s),.c (nI g)] (.aU [.agg (aC (c9 s g).1),.c (bI (c9 s g).2)]):=by
 have hg:=h.co.lt;have hf:Few s:=h.fit.toAnd;have hb:=hf.1;have cQ:=hf.2.1;have C0:=cO s g hg h.co.cJ;have C1:=dY s g h.co;have K6:((ag s g).kind != 6)=false:=by rw [hk];rfl
 have aZ:¬ ((ag s g).kind≠6):=by omega
 have bX:¬ (common s g).2=true:=by rw [hc];simp
 rw [hc] at C1;have CM:=dN s (ag s g).ch;have bY:¬ aR s (ag s g).ch=false:=by rw [hm];simp
 have hl:=dJ hm;rw [hm] at CM;have aj:c9 s g=c9 s g:=rfl
 conv at aj=>rhs;unfold c9;simp only;rw [if_neg aZ,if_neg bX,if_neg bY]
 refine aA.intro func86 rfl rfl rfl (fun ok e=>?_);rw [av,av,av] at aj;have M7:((aa s g).place == 21)=false:=by simp;omega
 have M8:((aa s g).place == 22)=false:=by simp;omega
 have M9:((aa s g).place == 23)=false:=by simp;omega
 rw [aj]
 repeat (first | refine au ?_ | intro _)
 exact az func86
theorem Kn (s:ai) (g:Nat) (h:qV s g) :
  Pure prog 86 [.agg (aC s),.c (nI g)] (.aU [.agg (aC (c9 s g).1),.c (bI (c9 s g).2)]):=by
 have hg:=h.co.lt;have C0:=cO s g hg h.co.cJ;have C1:=dY s g h.co
 by_cases hk:(ag s g).kind=6
 case neg =>
  refine aA.intro func86 rfl rfl rfl (fun ok e=>?_);have K6:((ag s g).kind != 6)=true:=by simp;omega
  have er:c9 s g=(s,false):=by unfold c9;simp only;rw [if_pos (by omega)]
  rw [er]
  repeat (first | refine au ?_ | intro _)
  exact az func86
 case pos =>
 have aZ:¬ ((ag s g).kind≠6):=by omega
 have K6:((ag s g).kind != 6)=false:=by rw [hk];rfl
 cases hc:(common s g).2 with
 | true =>
  refine aA.intro func86 rfl rfl rfl (fun ok e=>?_);have er:c9 s g=((common s g).1,true):=by unfold c9;simp only;rw [if_neg aZ,if_pos hc]
  rw [er];rw [hc] at C1
  repeat (first | refine au ?_ | intro _)
  exact az func86
 | false =>
 cases hm:aR s (ag s g).ch with
 | false =>
  have CM:=dN s (ag s g).ch;have bX:¬ (common s g).2=true:=by rw [hc];simp
  refine aA.intro func86 rfl rfl rfl (fun ok e=>?_);have er:c9 s g=(s,false):=by unfold c9;simp only;rw [if_neg aZ,if_neg bX,if_pos hm]
  rw [er];rw [hc] at C1;rw [hm] at CM
  repeat (first | refine au ?_ | intro _)
  exact az func86
 | true =>
  by_cases Ko:(aa s g).place=21
  ·exact Kj s g h hk hc hm Ko
  by_cases Kp:(aa s g).place=22
  ·exact Kk s g h hk hc hm Kp
  by_cases Kq:(aa s g).place=23
  ·exact Kl s g h hk hc hm Kq
  exact Km s g h hk hc hm (by omega)
end Fl
open Go.RowKit
namespace Fl
open Sx Go.Proofs.Tryz
set_option maxRecDepth 100000
theorem tV {o:Pn.Op} {i:Int} (h0:0≤i) (h:i < o.cases.length):(o.cases.map nE)[i.toNat]?=some (nE (bT o i)):=by
 have:i.toNat < o.cases.length:=by omega
 exact at_map (by unfold bT;rw [List.getD_eq_getElem?_getD,List.getElem?_eq_getElem this];rfl)
structure tW (s:ai) (g:Nat) (o:Pn.Op):Prop where
 i0:0≤aB (aa s g).order (aa s g).k
 i1:aB (aa s g).order (aa s g).k < o.cases.length
 ca:sR s g (bT o (aB (aa s g).order (aa s g).k))
 cl:o.cases.length≤50000
theorem Kr (s:ai) (g:Nat) (o:Pn.Op) (h:tW s g o) :
  Pure prog 123 [.agg (aC s),.c (nI g),.agg (gR o)] (.agg (aC (iw s g o))):=by
 have hg:=h.ca.lt;have hb:=h.ca.fit.1.1;have k0:=h.ca.k0;have k1:=h.ca.k1;have ob:=h.ca.fit.od g;have I1:=ku k0 k1;have i0:=h.i0;have i1:=h.i1;have cl:=h.cl;have J1:=tV i0 i1;have C1:=GX s g (aB (aa s g).order (aa s g).k) _ h.ca;have C2:=GW s g (aB (aa s g).order (aa s g).k) _ h.ca;have aj:iw s g o=iw s g o:=rfl
 conv at aj=>rhs;unfold iw;simp only
 refine aA.intro func123 rfl rfl rfl (fun ok e=>?_)
 repeat (first | refine au ?_ | intro _)
 refine J.draw (by kernel_rfl) rfl ?_;refine JW.base none ?_;refine tk 0 ?_;refine tk 1 ?_;refine tk 2 ?_;refine JD.take 3 rfl rfl (by kernel_rfl) rfl (qb rfl) (Qt.dj rfl rfl (by omega) (fM hg)) rfl ?_;refine tk 4 ?_;refine tk 5 ?_;refine tk 6 ?_;refine tk 7 ?_;refine tk 8 ?_;refine JD.take 9 rfl rfl (by kernel_rfl) rfl (qb rfl) (Qt.dj rfl rfl (by omega) (fM hg)) rfl ?_;refine tk 10 ?_;refine tk 11 ?_;refine JD.take 12 rfl rfl (by kernel_rfl) rfl (qb rfl) (Qt.dj rfl rfl k0 I1) rfl ?_;refine tk 13 ?_;refine tk 14 ?_;refine aX ?_;generalize aB (aa s g).order (aa s g).k=i at *;generalize bV:bT o i=kk at *;have key:∃ R:ai × Bool,R=(if kk.send=true then gB s g i kk else gZ s g i kk)∧((kk.send=true∧R=gB s g i kk)∨(kk.send=false∧R=gZ s g i kk)):=by
  cases hs:kk.send with
  | true=>exact ⟨_,rfl,.inl ⟨rfl,by simp⟩⟩
  | false=>exact ⟨_,rfl,.inr ⟨rfl,by simp⟩⟩
 obtain ⟨R,hR,hW⟩:=key;rw [← hR] at aj;clear hR
 by_cases hr:R.2=true
 case pos =>
  rw [if_pos hr] at aj;rw [aj];rcases hW with ⟨hs,rfl⟩ | ⟨hs,rfl⟩
  ·rw [hr] at C2
   repeat (first | refine J.eZ (congrArg (fun b=>some (D.c (bI b))) hs) ?_ | (refine K.store ?_;refine JO.ld (Ld.bu rfl rfl rfl (by exact rfl) (by exact rfl)) rfl (fun _=>?_)) | refine au ?_ | intro _)
   exact az func123
  ·rw [hr] at C1
   repeat (first | refine J.eK (congrArg (fun b=>some (D.c (bI b))) hs) ?_ | (refine K.store ?_;refine JO.ld (Ld.bu rfl rfl rfl (by exact rfl) (by exact rfl)) rfl (fun _=>?_)) | refine au ?_ | intro _)
   exact az func123
 case neg =>
 have iq:R.2=false:=by simpa using hr
 rw [if_neg hr] at aj
 by_cases hk:(aa s g).k + 1 < (aa s g).order.length
 case pos =>
  rw [if_pos hk] at aj;rw [aj];have gj:(decide ((aa s g).k + 1 < ((aa s g).order.length:Int)))=true:=decide_eq_true hk;have C3:=lV s g 25 hg hb k0 (by omega);rcases hW with ⟨hs,rfl⟩ | ⟨hs,rfl⟩
  ·rw [iq] at C2
   repeat (first | refine J.eZ (congrArg (fun b=>some (D.c (bI b))) hs) ?_ | (refine K.store ?_;refine JO.ld (Ld.bu rfl rfl rfl (by exact rfl) (by exact rfl)) rfl (fun _=>?_)) | refine au ?_ | intro _)
   exact az func123
  ·rw [iq] at C1
   repeat (first | refine J.eK (congrArg (fun b=>some (D.c (bI b))) hs) ?_ | (refine K.store ?_;refine JO.ld (Ld.bu rfl rfl rfl (by exact rfl) (by exact rfl)) rfl (fun _=>?_)) | refine au ?_ | intro _)
   exact az func123
 case neg =>
 rw [if_neg hk] at aj;have gj:(decide ((aa s g).k + 1 < ((aa s g).order.length:Int)))=false:=decide_eq_false hk
 cases lF:o.cT with
 | true =>
  rw [if_pos lF] at aj;rw [aj];have C3:=sQ s g ⟨2,0,0,false,0⟩ (-1) hg hb;rcases hW with ⟨hs,rfl⟩ | ⟨hs,rfl⟩
  ·rw [iq] at C2
   repeat (first | refine J.eZ (congrArg (fun b=>some (D.c (bI b))) hs) ?_ | refine J.eZ (congrArg (fun b=>some (D.c (bI b))) lF) ?_ | (refine K.store ?_;refine JO.ld (Ld.bu rfl rfl rfl (by exact rfl) (by exact rfl)) rfl (fun _=>?_)) | refine au ?_ | intro _)
   exact az func123
  ·rw [iq] at C1
   repeat (first | refine J.eK (congrArg (fun b=>some (D.c (bI b))) hs) ?_ | refine J.eZ (congrArg (fun b=>some (D.c (bI b))) lF) ?_ | (refine K.store ?_;refine JO.ld (Ld.bu rfl rfl rfl (by exact rfl) (by exact rfl)) rfl (fun _=>?_)) | refine au ?_ | intro _)
   exact az func123
 | false =>
  rw [if_neg (by rw [lF];simp)] at aj;rw [aj];have C3:=cj s g { aa s g with aq:=List.replicate o.cases.length (-1) } hg hb;have kx:(aa (ah s g { aa s g with aq:=List.replicate o.cases.length (-1) }) g).k=(aa s g).k:=lW Gr.k rfl;have C4:=lV (ah s g { aa s g with aq:=List.replicate o.cases.length (-1) }) g 28 (by rw [bP];exact hg) (by rw [bP];exact hb) (by rw [kx];exact k0) (by rw [kx];omega);rcases hW with ⟨hs,rfl⟩ | ⟨hs,rfl⟩
  case' inl =>
   rw [iq] at C2
   repeat (first | refine J.eZ (congrArg (fun b=>some (D.c (bI b))) hs) ?_ | refine J.eK (congrArg (fun b=>some (D.c (bI b))) lF) ?_ | (refine K.store ?_;first | refine JO.ld (Ld.bu rfl rfl rfl (by exact rfl) (by exact rfl)) rfl (fun _=>?_) | refine JO.ld (Ld.cW rfl rfl (by exact rfl)) rfl (fun _=>?_)) | refine au ?_ | intro _)
   rename_i b6 b5 b4 b3 u3 b2 u2 Na b1 u1 b0 u0
  case' inr =>
   rw [iq] at C1
   repeat (first | refine J.eK (congrArg (fun b=>some (D.c (bI b))) hs) ?_ | refine J.eK (congrArg (fun b=>some (D.c (bI b))) lF) ?_ | (refine K.store ?_;first | refine JO.ld (Ld.bu rfl rfl rfl (by exact rfl) (by exact rfl)) rfl (fun _=>?_) | refine JO.ld (Ld.cW rfl rfl (by exact rfl)) rfl (fun _=>?_)) | refine au ?_ | intro _)
   rename_i b6 b5 b4 b3 u3 b2 u2 b1 u1 b0 u0
  all_goals
   refine J.ep 5 ?_;refine J.ep 3 ?_;refine J.ep 2 ?_;refine J.loop (ι:={ p:Nat × Value // p.1≤o.cases.length }) (fun p=>[(77,.c (nI p.1.1)),(76,.c (nI o.cases.length)),(11,.c (.v (.pointer (some ⟨b1,0,none⟩)))),(3,.c (.v (.pointer (some ⟨b6,0,none⟩)))),(6,.c (.v (.pointer (some ⟨b4,0,none⟩)))),(1,.c (nI g))]) (fun p=>[.row p.1.2 3 1 ((List.replicate p.1.1 (-1:Int)).map fun n=>[nI n]),.box b1 55 ((eG (aa s g)).set 22 (.v p.1.2)),.box b4 36 qf,.box b6 36 (aC s)]) (fun p=>o.cases.length - p.1.1) ⟨(0,.slice (some ⟨b0,0,none⟩) 0 0),Nat.zero_le _⟩ (fun X h=>h.aF ⟨rfl,rfl,rfl,rfl,rfl,rfl,trivial⟩) (fun p ih=>?_);obtain ⟨⟨k,v⟩,iH⟩:=p;simp only at iH ih ⊢
   by_cases Dd:k < o.cases.length
   ·have h1:(decide ((k:Int) < (o.cases.length:Int)))=true:=by simpa using Dd
    repeat (first | (refine K.store ?_;refine JO.ld (Ld.cW rfl rfl (by exact rfl)) rfl (fun _=>?_)) | (refine K.bi ?_;refine JO.ld (Ld.bO (qb rfl) rfl rfl .cX (by (simp;omega))) rfl (fun _=>?_)) | refine au ?_ | intro _)
    rename_i b9 v2 u9;refine J.ep 1 ?_;refine J.bq ?_ ((ih ⟨(k + 1,v2),by simp only;omega⟩ (by simp only;omega)).aF ⟨rfl,rfl,rfl,rfl,rfl,rfl,trivial⟩);simp only [List.replicate_succ',List.map_append,List.map_cons,List.map_nil];rfl
   ·have h1:(decide ((k:Int) < (o.cases.length:Int)))=false:=by simpa using Dd
    obtain rfl:k=o.cases.length:=by omega
    refine J.lN 0 1 22 rfl rfl rfl ?_
    repeat (first | (refine K.store ?_;refine JO.ld (Ld.bu rfl rfl rfl (by exact rfl) (by exact rfl)) rfl (fun _=>?_)) | refine gn ?_)
    exact az func123
end Fl
end Go.Proofs.YtgjpdogjekmemaaGreat
