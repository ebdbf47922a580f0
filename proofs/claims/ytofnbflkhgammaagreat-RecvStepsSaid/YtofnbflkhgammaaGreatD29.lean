/-
  What the laws need, part D29.
  Conditions: none.
-/
import Derived.Test.YtofnbflkhgammaaGreatD28
set_option linter.unusedVariables false
set_option linter.unusedSimpArgs false
set_option linter.unnecessarySimpa false
set_option maxHeartbeats 2000000
namespace Go.Proofs.YtofnbflkhgammaaGreat
open Go.RowKit
namespace Fl
open Sx Go.Proofs.Tryz
set_option maxRecDepth 100000
structure mY (s:ah) (g:Nat):Prop where
 co:xH s g
 fit:Fit s
 l6:(aa s g).place=6→∀ i l,(cn s (ag s g).ch).send=i :: l→dz s i
 l7:(aa s g).place=7→dz s (aa s g).hold
 l8:(aa s g).place=8→dz s (aa s g).hold
 uj:(aa s g).place=10→oN s∧g < s.cache.length∧((aS s g).2.2=true→0≤(aS s g).2.1∧(aS s g).2.1 < s.aC.length)
 qX:(aa s g).place=14→0≤(aa s g).param∧(aa s g).param < s.aC.length
theorem XL (s:ah) (g:Nat) (h:mY s g) (hk:(ag s g).kind=3∨(ag s g).kind=5) (hc:(common s g).2=false) (hm:aN s (ag s g).ch=true) (e0:(aa s g).place=1) :
  Pure prog 116 [.agg (az s),.c (nI g)] (.aZ [.agg (az (bR s g).1),.c (bI (bR s g).2)]):=by
 have hg:=h.co.lt;have hf:Few s:=h.fit.toAnd;have hb:=hf.1;have dF:=hf.2.1;have C0:=dA s g hg h.co.dh;have C1:=fN s g h.co;obtain ⟨k,ek,cD⟩:∃ k,(ag s g).kind=k∧(k=3∨k=5):=⟨_,rfl,hk⟩
 have KN:∀ c,((ag s g).kind != c)=(k != c):=fun c=>by rw [ek]
 have KE:∀ c,((ag s g).kind == c)=(k == c):=fun c=>by rw [ek]
 have br:¬ ((ag s g).kind≠3∧(ag s g).kind≠5):=by omega
 have cF:¬ (common s g).2=true:=by rw [hc];simp
 rw [hc] at C1;have CM:=fu s (ag s g).ch;have cB:¬ aN s (ag s g).ch=false:=by rw [hm];simp
 have hl:=eV hm;rw [hm] at CM;have aj:bR s g=bR s g:=rfl
 conv at aj=>rhs;unfold bR;simp only;rw [if_neg br,if_neg cF,if_neg cB]
 have P:∀ c,((aa s g).place == c)=((1:Int) == c):=fun c=>by rw [e0]
 refine ax.intro func116 rfl rfl rfl (fun ok e=>?_);rw [if_pos e0] at aj;have CR:=NC (cn s (ag s g).ch)
 cases hr:uM (cn s (ag s g).ch) with
 | true =>
  rw [if_pos hr] at aj;rw [hr] at CR;rw [aj];rcases cD with rfl | rfl
  all_goals
   repeat (first | refine aL (KN _) ?_ | refine aL (P _) ?_ | refine aO (fM s g 4 hg hb) ?_ | refine av ?_ | intro _)
   exact aA func116
 | false =>
  rw [if_neg (by rw [hr];simp)] at aj;rw [hr] at CR;rw [aj];rcases cD with rfl | rfl
  all_goals
   repeat (first | refine aL (KN _) ?_ | refine aL (P _) ?_ | refine aO (jv s g (aa s g).res 2 hg hb) ?_ | refine av ?_ | intro _)
   exact aA func116
theorem XM (s:ah) (g:Nat) (h:mY s g) (hk:(ag s g).kind=3∨(ag s g).kind=5) (hc:(common s g).2=false) (hm:aN s (ag s g).ch=true) (e0:(aa s g).place=2) :
  Pure prog 116 [.agg (az s),.c (nI g)] (.aZ [.agg (az (bR s g).1),.c (bI (bR s g).2)]):=by
 have hg:=h.co.lt;have hf:Few s:=h.fit.toAnd;have hb:=hf.1;have dF:=hf.2.1;have C0:=dA s g hg h.co.dh;have C1:=fN s g h.co;obtain ⟨k,ek,cD⟩:∃ k,(ag s g).kind=k∧(k=3∨k=5):=⟨_,rfl,hk⟩
 have KN:∀ c,((ag s g).kind != c)=(k != c):=fun c=>by rw [ek]
 have KE:∀ c,((ag s g).kind == c)=(k == c):=fun c=>by rw [ek]
 have br:¬ ((ag s g).kind≠3∧(ag s g).kind≠5):=by omega
 have cF:¬ (common s g).2=true:=by rw [hc];simp
 rw [hc] at C1;have CM:=fu s (ag s g).ch;have cB:¬ aN s (ag s g).ch=false:=by rw [hm];simp
 have hl:=eV hm;rw [hm] at CM;have aj:bR s g=bR s g:=rfl
 conv at aj=>rhs;unfold bR;simp only;rw [if_neg br,if_neg cF,if_neg cB]
 have P:∀ c,((aa s g).place == c)=((2:Int) == c):=fun c=>by rw [e0]
 refine ax.intro func116 rfl rfl rfl (fun ok e=>?_);rw [aB] at aj;rw [if_pos e0] at aj
 cases bZ:(cn s (ag s g).ch).closed with
 | true =>
  rw [if_pos bZ] at aj;rw [aj];rcases cD with rfl | rfl
  all_goals
   repeat (first | refine J.gZ (congrArg (fun b=>some (D.c (bI b))) bZ) ?_ | refine aL (KN _) ?_ | refine aL (P _) ?_ | refine aO (fM s g 3 hg hb) ?_ | refine av ?_ | intro _)
   exact aA func116
 | false =>
  rw [if_neg (by rw [bZ];simp)] at aj;rw [aj];rcases cD with rfl | rfl
  all_goals
   repeat (first | refine J.gw (congrArg (fun b=>some (D.c (bI b))) bZ) ?_ | refine aL (KN _) ?_ | refine aL (P _) ?_ | refine aO (cP s g { aa s g with res:={ (aa s g).res with code:=2 },place:=18 } hg hb) ?_ | refine av ?_ | intro _)
   exact aA func116
theorem XN (s:ah) (g:Nat) (h:mY s g) (hk:(ag s g).kind=3∨(ag s g).kind=5) (hc:(common s g).2=false) (hm:aN s (ag s g).ch=true) (e0:(aa s g).place=3) :
  Pure prog 116 [.agg (az s),.c (nI g)] (.aZ [.agg (az (bR s g).1),.c (bI (bR s g).2)]):=by
 have hg:=h.co.lt;have hf:Few s:=h.fit.toAnd;have hb:=hf.1;have dF:=hf.2.1;have C0:=dA s g hg h.co.dh;have C1:=fN s g h.co;obtain ⟨k,ek,cD⟩:∃ k,(ag s g).kind=k∧(k=3∨k=5):=⟨_,rfl,hk⟩
 have KN:∀ c,((ag s g).kind != c)=(k != c):=fun c=>by rw [ek]
 have KE:∀ c,((ag s g).kind == c)=(k == c):=fun c=>by rw [ek]
 have br:¬ ((ag s g).kind≠3∧(ag s g).kind≠5):=by omega
 have cF:¬ (common s g).2=true:=by rw [hc];simp
 rw [hc] at C1;have CM:=fu s (ag s g).ch;have cB:¬ aN s (ag s g).ch=false:=by rw [hm];simp
 have hl:=eV hm;rw [hm] at CM;have aj:bR s g=bR s g:=rfl
 conv at aj=>rhs;unfold bR;simp only;rw [if_neg br,if_neg cF,if_neg cB]
 have P:∀ c,((aa s g).place == c)=((3:Int) == c):=fun c=>by rw [e0]
 refine ax.intro func116 rfl rfl rfl (fun ok e=>?_);rw [aB,aB] at aj;rw [if_pos e0] at aj;have CR:=NC (cn s (ag s g).ch)
 cases hr:uM (cn s (ag s g).ch) with
 | true =>
  rw [if_pos hr] at aj;rw [hr] at CR;rw [aj];rcases cD with rfl | rfl
  all_goals
   repeat (first | refine aL (KN _) ?_ | refine aL (P _) ?_ | refine aO (cP s g { aa s g with bQ:=0,place:=4 } hg hb) ?_ | refine av ?_ | intro _)
   exact aA func116
 | false =>
  rw [if_neg (by rw [hr];simp)] at aj;rw [hr] at CR;rw [aj];rcases cD with rfl | rfl
  all_goals
   repeat (first | refine aL (KN _) ?_ | refine aL (P _) ?_ | refine av ?_ | intro _)
   refine J.draw (by kernel_rfl) rfl ?_;refine JW.base (some 4) ?_;refine tk 0 ?_;refine tk 1 ?_;refine cW 2 (lG 0 false) ?_;refine cW 3 (jv s g (eJ 0 false) 18 hg hb) ?_;refine jt 4 rfl rfl (Ld.aX rfl rfl rfl (by exact rfl) (by exact rfl)) (fun _=>?_);refine JW.base none ?_;refine jk 5 rfl rfl rfl rfl (Qt.assign rfl) ?_;refine bt ?_
   repeat (fail)
   exact aA func116
theorem XO (s:ah) (g:Nat) (h:mY s g) (hk:(ag s g).kind=3∨(ag s g).kind=5) (hc:(common s g).2=false) (hm:aN s (ag s g).ch=true) (e0:(aa s g).place=6) :
  Pure prog 116 [.agg (az s),.c (nI g)] (.aZ [.agg (az (bR s g).1),.c (bI (bR s g).2)]):=by
 have hg:=h.co.lt;have hf:Few s:=h.fit.toAnd;have hb:=hf.1;have dF:=hf.2.1;have C0:=dA s g hg h.co.dh;have C1:=fN s g h.co;obtain ⟨k,ek,cD⟩:∃ k,(ag s g).kind=k∧(k=3∨k=5):=⟨_,rfl,hk⟩
 have KN:∀ c,((ag s g).kind != c)=(k != c):=fun c=>by rw [ek]
 have KE:∀ c,((ag s g).kind == c)=(k == c):=fun c=>by rw [ek]
 have br:¬ ((ag s g).kind≠3∧(ag s g).kind≠5):=by omega
 have cF:¬ (common s g).2=true:=by rw [hc];simp
 rw [hc] at C1;have CM:=fu s (ag s g).ch;have cB:¬ aN s (ag s g).ch=false:=by rw [hm];simp
 have hl:=eV hm;rw [hm] at CM;have aj:bR s g=bR s g:=rfl
 conv at aj=>rhs;unfold bR;simp only;rw [if_neg br,if_neg cF,if_neg cB]
 have P:∀ c,((aa s g).place == c)=((6:Int) == c):=fun c=>by rw [e0]
 refine ax.intro func116 rfl rfl rfl (fun ok e=>?_);rw [aB,aB,aB,aB] at aj;rw [if_pos e0] at aj
 cases js:(cn s (ag s g).ch).send with
 | nil =>
  have hz:(((cn s (ag s g).ch).send.length:Int) == 0)=true:=by rw [js];rfl
  rw [if_pos (by rw [js];rfl)] at aj;rw [aj];rcases cD with rfl | rfl
  all_goals
   repeat (first | refine aL (KN _) ?_ | refine aL (P _) ?_ | refine aO (fM s g 9 hg hb) ?_ | refine av ?_ | intro _)
   exact aA func116
 | cons a l =>
  have hz:(((cn s (ag s g).ch).send.length:Int) == 0)=false:=by rw [js];simp;omega
  have w0:((cn s (ag s g).ch).send.map fun n=>[nI n])[(0:Int).toNat]?=some [nI a]:=by rw [js];rfl
  rw [if_neg (by rw [js];simp),js] at aj;rw [aj];rcases cD with rfl | rfl
  all_goals
   repeat (first | refine aL (KN _) ?_ | refine aL (P _) ?_ | refine av ?_ | intro _)
   refine J.draw (by kernel_rfl) rfl ?_;refine JW.base (some 7) ?_;refine tk 0 ?_;refine tk 1 ?_;refine tk 2 ?_;refine tk 3 ?_;refine JD.take 4 rfl rfl (by kernel_rfl) rfl (qb rfl) (Qt.bw rfl rfl (by omega) w0) rfl ?_;refine tk 5 ?_;refine cW 6 (xK s g a 7 8 hg (h.l6 e0 a l js) h.fit) ?_;refine jt 7 rfl rfl (Ld.aX rfl rfl rfl (by exact rfl) (by exact rfl)) (fun _=>?_);refine JW.base none ?_;refine jk 8 rfl rfl rfl rfl (Qt.assign rfl) ?_;refine bt ?_
   repeat (fail)
   exact aA func116
theorem XP (s:ah) (g:Nat) (h:mY s g) (hk:(ag s g).kind=3∨(ag s g).kind=5) (hc:(common s g).2=false) (hm:aN s (ag s g).ch=true) (e0:(aa s g).place=7) :
  Pure prog 116 [.agg (az s),.c (nI g)] (.aZ [.agg (az (bR s g).1),.c (bI (bR s g).2)]):=by
 have hg:=h.co.lt;have hf:Few s:=h.fit.toAnd;have hb:=hf.1;have dF:=hf.2.1;have C0:=dA s g hg h.co.dh;have C1:=fN s g h.co;obtain ⟨k,ek,cD⟩:∃ k,(ag s g).kind=k∧(k=3∨k=5):=⟨_,rfl,hk⟩
 have KN:∀ c,((ag s g).kind != c)=(k != c):=fun c=>by rw [ek]
 have KE:∀ c,((ag s g).kind == c)=(k == c):=fun c=>by rw [ek]
 have br:¬ ((ag s g).kind≠3∧(ag s g).kind≠5):=by omega
 have cF:¬ (common s g).2=true:=by rw [hc];simp
 rw [hc] at C1;have CM:=fu s (ag s g).ch;have cB:¬ aN s (ag s g).ch=false:=by rw [hm];simp
 have hl:=eV hm;rw [hm] at CM;have aj:bR s g=bR s g:=rfl
 conv at aj=>rhs;unfold bR;simp only;rw [if_neg br,if_neg cF,if_neg cB]
 have P:∀ c,((aa s g).place == c)=((7:Int) == c):=fun c=>by rw [e0]
 refine ax.intro func116 rfl rfl rfl (fun ok e=>?_);rw [aB,aB,aB,aB,aB] at aj;rw [if_pos e0] at aj;rw [aj];rcases cD with rfl | rfl
 all_goals
  repeat (first | refine aL (KN _) ?_ | refine aL (P _) ?_ | refine aO (GZ s g 6 8 hg (h.l7 e0) h.fit) ?_ | refine av ?_ | intro _)
  exact aA func116
theorem XQ (s:ah) (g:Nat) (h:mY s g) (hk:(ag s g).kind=3∨(ag s g).kind=5) (hc:(common s g).2=false) (hm:aN s (ag s g).ch=true) (e0:(aa s g).place=9) :
  Pure prog 116 [.agg (az s),.c (nI g)] (.aZ [.agg (az (bR s g).1),.c (bI (bR s g).2)]):=by
 have hg:=h.co.lt;have hf:Few s:=h.fit.toAnd;have hb:=hf.1;have dF:=hf.2.1;have C0:=dA s g hg h.co.dh;have C1:=fN s g h.co;obtain ⟨k,ek,cD⟩:∃ k,(ag s g).kind=k∧(k=3∨k=5):=⟨_,rfl,hk⟩
 have KN:∀ c,((ag s g).kind != c)=(k != c):=fun c=>by rw [ek]
 have KE:∀ c,((ag s g).kind == c)=(k == c):=fun c=>by rw [ek]
 have br:¬ ((ag s g).kind≠3∧(ag s g).kind≠5):=by omega
 have cF:¬ (common s g).2=true:=by rw [hc];simp
 rw [hc] at C1;have CM:=fu s (ag s g).ch;have cB:¬ aN s (ag s g).ch=false:=by rw [hm];simp
 have hl:=eV hm;rw [hm] at CM;have aj:bR s g=bR s g:=rfl
 conv at aj=>rhs;unfold bR;simp only;rw [if_neg br,if_neg cF,if_neg cB]
 have P:∀ c,((aa s g).place == c)=((9:Int) == c):=fun c=>by rw [e0]
 refine ax.intro func116 rfl rfl rfl (fun ok e=>?_);rw [aB,aB,aB,aB,aB,aB,aB] at aj;rw [if_pos e0] at aj;have CP:=NW (cn s (ag s g).ch).buf (h.fit.bf _)
 cases hr:(gN (cn s (ag s g).ch).buf).2.2 with
 | true =>
  rw [if_pos hr] at aj;rw [hr] at CP;rw [aj];rcases cD with rfl | rfl
  all_goals
   repeat (first | refine aL (KN _) ?_ | refine aL (P _) ?_ | refine aO (nA s (ag s g).ch { (cn s (ag s g).ch) with buf:=(gN (cn s (ag s g).ch).buf).1 } hm dF) ?_ | refine aO (lG (gN (cn s (ag s g).ch).buf).2.1 true) ?_ | refine aO (jv (aE s (ag s g).ch { (cn s (ag s g).ch) with buf:=(gN (cn s (ag s g).ch).buf).1 }) g (eJ (gN (cn s (ag s g).ch).buf).2.1 true) 16 hg hb) ?_ | refine av ?_ | intro _)
   exact aA func116
 | false =>
  rw [if_neg (by rw [hr];simp)] at aj;rw [hr] at CP;rcases cD with rfl | rfl
  ·rw [aB] at aj;rw [aj]
   repeat (first | refine aL (KN _) ?_ | refine aL (P _) ?_ | refine aL (KE _) ?_ | refine aO (fM s g 10 hg hb) ?_ | refine av ?_ | intro _)
   exact aA func116
  ·rw [if_pos ek] at aj;rw [aj]
   repeat (first | refine aL (KN _) ?_ | refine aL (P _) ?_ | refine aL (KE _) ?_ | refine aO (jv s g (Sx.res 2) 16 hg hb) ?_ | refine av ?_ | intro _)
   exact aA func116
theorem XR (s:ah) (g:Nat) (h:mY s g) (hk:(ag s g).kind=3∨(ag s g).kind=5) (hc:(common s g).2=false) (hm:aN s (ag s g).ch=true) (e0:(aa s g).place=10) :
  Pure prog 116 [.agg (az s),.c (nI g)] (.aZ [.agg (az (bR s g).1),.c (bI (bR s g).2)]):=by
 have hg:=h.co.lt;have hf:Few s:=h.fit.toAnd;have hb:=hf.1;have dF:=hf.2.1;have C0:=dA s g hg h.co.dh;have C1:=fN s g h.co;obtain ⟨k,ek,cD⟩:∃ k,(ag s g).kind=k∧(k=3∨k=5):=⟨_,rfl,hk⟩
 have KN:∀ c,((ag s g).kind != c)=(k != c):=fun c=>by rw [ek]
 have KE:∀ c,((ag s g).kind == c)=(k == c):=fun c=>by rw [ek]
 have br:¬ ((ag s g).kind≠3∧(ag s g).kind≠5):=by omega
 have cF:¬ (common s g).2=true:=by rw [hc];simp
 rw [hc] at C1;have CM:=fu s (ag s g).ch;have cB:¬ aN s (ag s g).ch=false:=by rw [hm];simp
 have hl:=eV hm;rw [hm] at CM;have aj:bR s g=bR s g:=rfl
 conv at aj=>rhs;unfold bR;simp only;rw [if_neg br,if_neg cF,if_neg cB]
 have P:∀ c,((aa s g).place == c)=((10:Int) == c):=fun c=>by rw [e0]
 refine ax.intro func116 rfl rfl rfl (fun ok e=>?_);rw [aB,aB,aB,aB,aB,aB,aB,aB] at aj;rw [if_pos e0] at aj;obtain ⟨f1,f2,f3⟩:=h.uj e0;rw [aj];rcases cD with rfl | rfl
 all_goals
  repeat (first | refine aL (KN _) ?_ | refine aL (P _) ?_ | refine aO (NX s g ⟨true,g,(ag s g).ch,-1,false,0,false⟩ hg hf f1 f2 f3) ?_ | refine av ?_ | intro _)
  exact aA func116
theorem XS (s:ah) (g:Nat) (h:mY s g) (hk:(ag s g).kind=3∨(ag s g).kind=5) (hc:(common s g).2=false) (hm:aN s (ag s g).ch=true) (e0:(aa s g).place=11) :
  Pure prog 116 [.agg (az s),.c (nI g)] (.aZ [.agg (az (bR s g).1),.c (bI (bR s g).2)]):=by
 have hg:=h.co.lt;have hf:Few s:=h.fit.toAnd;have hb:=hf.1;have dF:=hf.2.1;have C0:=dA s g hg h.co.dh;have C1:=fN s g h.co;obtain ⟨k,ek,cD⟩:∃ k,(ag s g).kind=k∧(k=3∨k=5):=⟨_,rfl,hk⟩
 have KN:∀ c,((ag s g).kind != c)=(k != c):=fun c=>by rw [ek]
 have KE:∀ c,((ag s g).kind == c)=(k == c):=fun c=>by rw [ek]
 have br:¬ ((ag s g).kind≠3∧(ag s g).kind≠5):=by omega
 have cF:¬ (common s g).2=true:=by rw [hc];simp
 rw [hc] at C1;have CM:=fu s (ag s g).ch;have cB:¬ aN s (ag s g).ch=false:=by rw [hm];simp
 have hl:=eV hm;rw [hm] at CM;have aj:bR s g=bR s g:=rfl
 conv at aj=>rhs;unfold bR;simp only;rw [if_neg br,if_neg cF,if_neg cB]
 have P:∀ c,((aa s g).place == c)=((11:Int) == c):=fun c=>by rw [e0]
 refine ax.intro func116 rfl rfl rfl (fun ok e=>?_);rw [aB,aB,aB,aB,aB,aB,aB,aB,aB] at aj;rw [if_pos e0] at aj;rw [aj];have jN:=h.fit.rv (ag s g).ch;have C2:=nA s (ag s g).ch { (cn s (ag s g).ch) with recv:=(cn s (ag s g).ch).recv ++ [(aa s g).aH] } hm dF;have C3:=cP (aE s (ag s g).ch { (cn s (ag s g).ch) with recv:=(cn s (ag s g).ch).recv ++ [(aa s g).aH] }) g { aa s g with ic:=s.step,place:=12 } hg hb;rcases cD with rfl | rfl
 all_goals
  repeat (first | refine aL (KN _) ?_ | refine aL (P _) ?_ | refine av ?_ | intro _)
  refine J.draw (by kernel_rfl) rfl ?_;refine JW.base (some 9) ?_;refine tk 1 ?_;refine tk 2 ?_;refine tk 4 ?_;refine tk 5 ?_;refine JD.cU (i:=0) (j:=6) (by kernel_rfl) ?_ ?_;refine JS.cz rfl rfl rfl (qb rfl) (Ld.ia (qb rfl)) .none (fun _=>?_);refine JD.cU (i:=3) (j:=6) (by kernel_rfl) ?_ ?_;refine JS.cz rfl rfl rfl (qb rfl) (Ld.cA (qb rfl) rfl rfl .read (by (simp;omega))) (by (exact .row (by repeat ((exact .refl))))) (fun _=>?_);refine jl 6 rfl rfl rfl rfl (Ld.fJ (qb rfl) rfl rfl rfl rfl rfl) .none (fun _=>?_);refine jl 7 rfl rfl rfl rfl (Ld.fz (qb rfl) rfl rfl .cY (by (simp;omega))) (by (exact .row (by repeat (first | exact .refl | refine .cons ?_)))) (fun _=>?_);refine jk 8 rfl rfl rfl rfl (Qt.fieldAddr rfl rfl) ?_;refine jt 9 rfl rfl (Ld.cZ rfl rfl (by exact rfl)) (fun _=>?_);refine bS ?_
  rotate_left
  refine JS.cz rfl rfl rfl (qb rfl) (Ld.fJ (qb rfl) rfl rfl rfl rfl rfl) .none (fun _=>?_);refine jl 3 rfl rfl rfl rfl (Ld.cA (qb rfl) rfl rfl .read (by (simp;omega))) (by (exact .row (by repeat (first | exact .refl | refine .cons ?_)))) (fun _=>?_);refine jl 7 rfl rfl rfl rfl (Ld.fz (qb rfl) rfl rfl .cY (by (simp;omega))) (by (exact .row (by repeat (first | exact .refl | refine .cons ?_)))) (fun _=>?_);refine jk 8 rfl rfl rfl rfl (Qt.fieldAddr rfl rfl) ?_;refine jt 9 rfl rfl (Ld.cZ rfl rfl (by exact rfl)) (fun _=>?_);refine bS ?_
  rotate_left
  refine JS.cz rfl rfl rfl (qb rfl) (Ld.fJ (qb rfl) rfl rfl rfl rfl rfl) .none (fun _=>?_);refine jl 0 rfl rfl rfl rfl (Ld.ia (qb rfl)) .none (fun _=>?_);refine jl 3 rfl rfl rfl rfl (Ld.cA (qb rfl) rfl rfl .read (by (simp;omega))) (by (exact .row (by repeat (first | exact .refl | refine .cons ?_)))) (fun _=>?_);refine jl 7 rfl rfl rfl rfl (Ld.fz (qb rfl) rfl rfl .cY (by (simp;omega))) (by (exact .row (by repeat (first | exact .refl | refine .cons ?_)))) (fun _=>?_);refine jk 8 rfl rfl rfl rfl (Qt.fieldAddr rfl rfl) ?_;refine jt 9 rfl rfl (Ld.cZ rfl rfl (by exact rfl)) (fun _=>?_);refine bS ?_
  rotate_left
  all_goals
   repeat (refine gn ?_)
   refine J.draw (by kernel_rfl) rfl ?_;refine JW.base (some 8) ?_;refine tk 0 ?_;refine tk 1 ?_;refine tk 2 ?_;refine tk 3 ?_;refine tk 5 ?_;refine tk 6 ?_;refine jl 4 rfl rfl rfl rfl (Ld.pure (C2) (qb rfl) rfl (by repeat (first | exact aK.nil | refine aK.cons (dB.agg (by repeat (first | exact .nil | refine .cons .refl ?_ | refine .cons .snoc ?_))) ?_ | refine aK.cons dB.refl ?_))) .none (fun _=>?_);refine cW 7 (C3) ?_;refine jt 8 rfl rfl (Ld.aX rfl rfl rfl (by exact rfl) (by exact rfl)) (fun _=>?_);refine JW.base none ?_;refine jk 9 rfl rfl rfl rfl (Qt.assign rfl) ?_;refine bt ?_
   repeat (fail)
   exact aA func116
theorem XT (s:ah) (g:Nat) (h:mY s g) (hk:(ag s g).kind=3∨(ag s g).kind=5) (hc:(common s g).2=false) (hm:aN s (ag s g).ch=true) (e0:(aa s g).place=14) :
  Pure prog 116 [.agg (az s),.c (nI g)] (.aZ [.agg (az (bR s g).1),.c (bI (bR s g).2)]):=by
 have hg:=h.co.lt;have hf:Few s:=h.fit.toAnd;have hb:=hf.1;have dF:=hf.2.1;have C0:=dA s g hg h.co.dh;have C1:=fN s g h.co;obtain ⟨k,ek,cD⟩:∃ k,(ag s g).kind=k∧(k=3∨k=5):=⟨_,rfl,hk⟩
 have KN:∀ c,((ag s g).kind != c)=(k != c):=fun c=>by rw [ek]
 have KE:∀ c,((ag s g).kind == c)=(k == c):=fun c=>by rw [ek]
 have br:¬ ((ag s g).kind≠3∧(ag s g).kind≠5):=by omega
 have cF:¬ (common s g).2=true:=by rw [hc];simp
 rw [hc] at C1;have CM:=fu s (ag s g).ch;have cB:¬ aN s (ag s g).ch=false:=by rw [hm];simp
 have hl:=eV hm;rw [hm] at CM;have aj:bR s g=bR s g:=rfl
 conv at aj=>rhs;unfold bR;simp only;rw [if_neg br,if_neg cF,if_neg cB]
 have P:∀ c,((aa s g).place == c)=((14:Int) == c):=fun c=>by rw [e0]
 refine ax.intro func116 rfl rfl rfl (fun ok e=>?_);rw [aB,aB,aB,aB,aB,aB,aB,aB,aB,aB] at aj;rw [if_pos e0] at aj;obtain ⟨f1,f2⟩:=h.qX e0;rw [aj]
 cases hd:(su s (aa s g).param).done with
 | true =>
  rw [if_pos rfl];rcases cD with rfl | rfl
  all_goals
   repeat (first | refine J.gZ (congrArg (fun b=>some (D.c (bI b))) hd) ?_ | (refine K.indexAddr ?_;refine jx rfl rfl rfl rfl (by omega) (iu f1 f2) ?_) | refine aL (KN _) ?_ | refine aL (P _) ?_ | refine aO (lG 0 false) ?_ | refine aO (lG (su s (aa s g).param).v true) ?_ | refine aO (cP s g { aa s g with res:=eJ (su s (aa s g).param).v true,param:=-1,place:=15 } hg hb) ?_ | refine av ?_ | intro _)
   exact aA func116
 | false =>
  rw [if_neg (by simp)];rcases cD with rfl | rfl
  all_goals
   repeat (first | refine J.gw (congrArg (fun b=>some (D.c (bI b))) hd) ?_ | (refine K.indexAddr ?_;refine jx rfl rfl rfl rfl (by omega) (iu f1 f2) ?_) | refine aL (KN _) ?_ | refine aL (P _) ?_ | refine aO (lG 0 false) ?_ | refine aO (cP s g { aa s g with res:=eJ 0 false,param:=-1,place:=15 } hg hb) ?_ | refine av ?_ | intro _)
   exact aA func116
end Fl
end Go.Proofs.YtofnbflkhgammaaGreat
