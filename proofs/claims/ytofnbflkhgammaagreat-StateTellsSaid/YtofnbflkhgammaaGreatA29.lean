/-
  What the laws need, part A29.
  Conditions: none.
-/
import Derived.Test.YtofnbflkhgammaaGreatA28
set_option linter.unusedVariables false
set_option linter.unusedSimpArgs false
set_option linter.unnecessarySimpa false
set_option maxHeartbeats 2000000
namespace Go.Proofs.YtofnbflkhgammaaGreat
open Go.RowKit
namespace Fl
open Sx
set_option maxRecDepth 100000
structure mY (s:Sx.St) (g:Nat):Prop where
 co:wz s g
 fit:Fit s
 l6:(Sx.gr s g).place=6→∀ i l,(cn s (Sx.op s g).ch).recv=i :: l→dm s i
 l7:(Sx.gr s g).place=7→dm s (Sx.gr s g).hold
 l8:(Sx.gr s g).place=8→dm s (Sx.gr s g).hold
 F8:(Sx.gr s g).place=10→ot s∧g < s.cache.length∧((bu s g).2.2=true→0≤(bu s g).2.1∧(bu s g).2.1 < s.aB.length)
 zq:(Sx.gr s g).place=14→0≤(Sx.gr s g).param∧(Sx.gr s g).param < s.aB.length
theorem W9 (s:Sx.St) (g:Nat) (h:mY s g) (hk:(Sx.op s g).kind=2∨(Sx.op s g).kind=4) (hc:(common s g).2=false) (hm:Sx.made s (Sx.op s g).ch=true) (e0:(Sx.gr s g).place=1) :
  Pure Tryz.prog 109 [.agg (ay s),.c (nI g)] (.aV [.agg (ay (bO s g).1),.c (bI (bO s g).2)]):=by
 have hg:=h.co.lt;have hf:Few s:=h.fit.toAnd;have hb:=hf.1;have dz:=hf.2.1;have C0:=dj s g hg h.co.cY;have C1:=fy s g h.co;obtain ⟨k,ek,ck⟩:∃ k,(Sx.op s g).kind=k∧(k=2∨k=4):=⟨_,rfl,hk⟩
 have KN:∀ c,((Sx.op s g).kind != c)=(k != c):=fun c=>by rw [ek]
 have KE:∀ c,((Sx.op s g).kind == c)=(k == c):=fun c=>by rw [ek]
 have aS:¬ ((Sx.op s g).kind≠2∧(Sx.op s g).kind≠4):=by omega
 have cr:¬ (common s g).2=true:=by rw [hc];simp
 rw [hc] at C1;have CM:=eK s (Sx.op s g).ch;have cz:¬ Sx.made s (Sx.op s g).ch=false:=by rw [hm];simp
 have hl:=eD hm;rw [hm] at CM;have ag:bO s g=bO s g:=rfl
 conv at ag=>rhs;unfold bO;simp only;rw [if_neg aS,if_neg cr,if_neg cz]
 have P:∀ c,((Sx.gr s g).place == c)=((1:Int) == c):=fun c=>by rw [e0]
 refine aq.intro Tryz.func109 rfl rfl rfl (fun ok e=>?_);rw [if_pos e0] at ag;have CR:=WE (cn s (Sx.op s g).ch)
 cases hr:Sx.room (cn s (Sx.op s g).ch) with
 | true =>
  rw [if_pos hr] at ag;rw [hr] at CR;rw [ag];rcases ck with rfl | rfl
  all_goals
   repeat (first | refine aM (KN _) ?_ | refine aM (P _) ?_ | refine aJ (fG s g 4 hg hb) ?_ | refine au ?_ | intro _)
   exact az Tryz.func109
 | false =>
  rw [if_neg (by rw [hr];simp)] at ag;rw [hr] at CR;rw [ag];rcases ck with rfl | rfl
  all_goals
   repeat (first | refine aM (KN _) ?_ | refine aM (P _) ?_ | refine aJ (jh s g (Sx.gr s g).res 2 hg hb) ?_ | refine au ?_ | intro _)
   exact az Tryz.func109
theorem Xa (s:Sx.St) (g:Nat) (h:mY s g) (hk:(Sx.op s g).kind=2∨(Sx.op s g).kind=4) (hc:(common s g).2=false) (hm:Sx.made s (Sx.op s g).ch=true) (e0:(Sx.gr s g).place=2) :
  Pure Tryz.prog 109 [.agg (ay s),.c (nI g)] (.aV [.agg (ay (bO s g).1),.c (bI (bO s g).2)]):=by
 have hg:=h.co.lt;have hf:Few s:=h.fit.toAnd;have hb:=hf.1;have dz:=hf.2.1;have C0:=dj s g hg h.co.cY;have C1:=fy s g h.co;obtain ⟨k,ek,ck⟩:∃ k,(Sx.op s g).kind=k∧(k=2∨k=4):=⟨_,rfl,hk⟩
 have KN:∀ c,((Sx.op s g).kind != c)=(k != c):=fun c=>by rw [ek]
 have KE:∀ c,((Sx.op s g).kind == c)=(k == c):=fun c=>by rw [ek]
 have aS:¬ ((Sx.op s g).kind≠2∧(Sx.op s g).kind≠4):=by omega
 have cr:¬ (common s g).2=true:=by rw [hc];simp
 rw [hc] at C1;have CM:=eK s (Sx.op s g).ch;have cz:¬ Sx.made s (Sx.op s g).ch=false:=by rw [hm];simp
 have hl:=eD hm;rw [hm] at CM;have ag:bO s g=bO s g:=rfl
 conv at ag=>rhs;unfold bO;simp only;rw [if_neg aS,if_neg cr,if_neg cz]
 have P:∀ c,((Sx.gr s g).place == c)=((2:Int) == c):=fun c=>by rw [e0]
 refine aq.intro Tryz.func109 rfl rfl rfl (fun ok e=>?_);rw [ax] at ag;rw [if_pos e0] at ag
 cases bQ:(cn s (Sx.op s g).ch).closed with
 | true =>
  rw [if_pos bQ] at ag;rw [ag];rcases ck with rfl | rfl
  all_goals
   repeat (first | refine J.eN (congrArg (fun b=>some (D.c (bI b))) bQ) ?_ | refine aM (KN _) ?_ | refine aM (P _) ?_ | refine aJ (cE s g { Sx.gr s g with bG:=0,place:=4 } hg hb) ?_ | refine au ?_ | intro _)
   exact az Tryz.func109
 | false =>
  rw [if_neg (by rw [bQ];simp)] at ag;rw [ag];rcases ck with rfl | rfl
  all_goals
   repeat (first | refine J.ez (congrArg (fun b=>some (D.c (bI b))) bQ) ?_ | refine aM (KN _) ?_ | refine aM (P _) ?_ | refine aJ (cE s g { Sx.gr s g with res:={ (Sx.gr s g).res with code:=2 },place:=18 } hg hb) ?_ | refine au ?_ | intro _)
   exact az Tryz.func109
theorem Xb (s:Sx.St) (g:Nat) (h:mY s g) (hk:(Sx.op s g).kind=2∨(Sx.op s g).kind=4) (hc:(common s g).2=false) (hm:Sx.made s (Sx.op s g).ch=true) (e0:(Sx.gr s g).place=5) :
  Pure Tryz.prog 109 [.agg (ay s),.c (nI g)] (.aV [.agg (ay (bO s g).1),.c (bI (bO s g).2)]):=by
 have hg:=h.co.lt;have hf:Few s:=h.fit.toAnd;have hb:=hf.1;have dz:=hf.2.1;have C0:=dj s g hg h.co.cY;have C1:=fy s g h.co;obtain ⟨k,ek,ck⟩:∃ k,(Sx.op s g).kind=k∧(k=2∨k=4):=⟨_,rfl,hk⟩
 have KN:∀ c,((Sx.op s g).kind != c)=(k != c):=fun c=>by rw [ek]
 have KE:∀ c,((Sx.op s g).kind == c)=(k == c):=fun c=>by rw [ek]
 have aS:¬ ((Sx.op s g).kind≠2∧(Sx.op s g).kind≠4):=by omega
 have cr:¬ (common s g).2=true:=by rw [hc];simp
 rw [hc] at C1;have CM:=eK s (Sx.op s g).ch;have cz:¬ Sx.made s (Sx.op s g).ch=false:=by rw [hm];simp
 have hl:=eD hm;rw [hm] at CM;have ag:bO s g=bO s g:=rfl
 conv at ag=>rhs;unfold bO;simp only;rw [if_neg aS,if_neg cr,if_neg cz]
 have P:∀ c,((Sx.gr s g).place == c)=((5:Int) == c):=fun c=>by rw [e0]
 refine aq.intro Tryz.func109 rfl rfl rfl (fun ok e=>?_);rw [ax,ax] at ag;rw [if_pos e0] at ag
 cases bQ:(cn s (Sx.op s g).ch).closed with
 | true =>
  rw [if_pos bQ] at ag;rw [ag];rcases ck with rfl | rfl
  all_goals
   repeat (first | refine J.eN (congrArg (fun b=>some (D.c (bI b))) bQ) ?_ | refine aM (KN _) ?_ | refine aM (P _) ?_ | refine aJ (jh s g (Sx.res 3) 16 hg hb) ?_ | refine au ?_ | intro _)
   exact az Tryz.func109
 | false =>
  rw [if_neg (by rw [bQ];simp)] at ag;rw [ag];rcases ck with rfl | rfl
  all_goals
   repeat (first | refine J.ez (congrArg (fun b=>some (D.c (bI b))) bQ) ?_ | refine aM (KN _) ?_ | refine aM (P _) ?_ | refine aJ (fG s g 6 hg hb) ?_ | refine au ?_ | intro _)
   exact az Tryz.func109
theorem Xc (s:Sx.St) (g:Nat) (h:mY s g) (hk:(Sx.op s g).kind=2∨(Sx.op s g).kind=4) (hc:(common s g).2=false) (hm:Sx.made s (Sx.op s g).ch=true) (e0:(Sx.gr s g).place=6) :
  Pure Tryz.prog 109 [.agg (ay s),.c (nI g)] (.aV [.agg (ay (bO s g).1),.c (bI (bO s g).2)]):=by
 have hg:=h.co.lt;have hf:Few s:=h.fit.toAnd;have hb:=hf.1;have dz:=hf.2.1;have C0:=dj s g hg h.co.cY;have C1:=fy s g h.co;obtain ⟨k,ek,ck⟩:∃ k,(Sx.op s g).kind=k∧(k=2∨k=4):=⟨_,rfl,hk⟩
 have KN:∀ c,((Sx.op s g).kind != c)=(k != c):=fun c=>by rw [ek]
 have KE:∀ c,((Sx.op s g).kind == c)=(k == c):=fun c=>by rw [ek]
 have aS:¬ ((Sx.op s g).kind≠2∧(Sx.op s g).kind≠4):=by omega
 have cr:¬ (common s g).2=true:=by rw [hc];simp
 rw [hc] at C1;have CM:=eK s (Sx.op s g).ch;have cz:¬ Sx.made s (Sx.op s g).ch=false:=by rw [hm];simp
 have hl:=eD hm;rw [hm] at CM;have ag:bO s g=bO s g:=rfl
 conv at ag=>rhs;unfold bO;simp only;rw [if_neg aS,if_neg cr,if_neg cz]
 have P:∀ c,((Sx.gr s g).place == c)=((6:Int) == c):=fun c=>by rw [e0]
 refine aq.intro Tryz.func109 rfl rfl rfl (fun ok e=>?_);rw [ax,ax,ax] at ag;rw [if_pos e0] at ag
 cases iV:(cn s (Sx.op s g).ch).recv with
 | nil =>
  have hz:(((cn s (Sx.op s g).ch).recv.length:Int) == 0)=true:=by rw [iV];rfl
  rw [if_pos (by rw [iV];rfl)] at ag;rw [ag];rcases ck with rfl | rfl
  all_goals
   repeat (first | refine aM (KN _) ?_ | refine aM (P _) ?_ | refine aJ (fG s g 9 hg hb) ?_ | refine au ?_ | intro _)
   exact az Tryz.func109
 | cons a l =>
  have hz:(((cn s (Sx.op s g).ch).recv.length:Int) == 0)=false:=by rw [iV];simp;omega
  have w0:((cn s (Sx.op s g).ch).recv.map fun n=>[nI n])[(0:Int).toNat]?=some [nI a]:=by rw [iV];rfl
  rw [if_neg (by rw [iV];simp),iV] at ag;rw [ag];rcases ck with rfl | rfl
  all_goals
   repeat (first | refine aM (KN _) ?_ | refine aM (P _) ?_ | refine au ?_ | intro _)
   refine J.draw (by kernel_rfl) rfl ?_;refine JW.base (some 7) ?_;refine tk 0 ?_;refine tk 1 ?_;refine tk 2 ?_;refine tk 3 ?_;refine JD.take 4 rfl rfl (by kernel_rfl) rfl (qb rfl) (Qt.cq rfl rfl (by omega) w0) rfl ?_;refine tk 5 ?_;refine cU 6 (BZ s g a 7 8 hg (h.l6 e0 a l iV) h.fit) ?_;refine jt 7 rfl rfl (Ld.aP rfl rfl rfl (by exact rfl) (by exact rfl)) (fun _=>?_);refine JW.base none ?_;refine jk 8 rfl rfl rfl rfl (Qt.assign rfl) ?_;refine bH ?_
   repeat (fail)
   exact az Tryz.func109
theorem Xd (s:Sx.St) (g:Nat) (h:mY s g) (hk:(Sx.op s g).kind=2∨(Sx.op s g).kind=4) (hc:(common s g).2=false) (hm:Sx.made s (Sx.op s g).ch=true) (e0:(Sx.gr s g).place=7) :
  Pure Tryz.prog 109 [.agg (ay s),.c (nI g)] (.aV [.agg (ay (bO s g).1),.c (bI (bO s g).2)]):=by
 have hg:=h.co.lt;have hf:Few s:=h.fit.toAnd;have hb:=hf.1;have dz:=hf.2.1;have C0:=dj s g hg h.co.cY;have C1:=fy s g h.co;obtain ⟨k,ek,ck⟩:∃ k,(Sx.op s g).kind=k∧(k=2∨k=4):=⟨_,rfl,hk⟩
 have KN:∀ c,((Sx.op s g).kind != c)=(k != c):=fun c=>by rw [ek]
 have KE:∀ c,((Sx.op s g).kind == c)=(k == c):=fun c=>by rw [ek]
 have aS:¬ ((Sx.op s g).kind≠2∧(Sx.op s g).kind≠4):=by omega
 have cr:¬ (common s g).2=true:=by rw [hc];simp
 rw [hc] at C1;have CM:=eK s (Sx.op s g).ch;have cz:¬ Sx.made s (Sx.op s g).ch=false:=by rw [hm];simp
 have hl:=eD hm;rw [hm] at CM;have ag:bO s g=bO s g:=rfl
 conv at ag=>rhs;unfold bO;simp only;rw [if_neg aS,if_neg cr,if_neg cz]
 have P:∀ c,((Sx.gr s g).place == c)=((7:Int) == c):=fun c=>by rw [e0]
 refine aq.intro Tryz.func109 rfl rfl rfl (fun ok e=>?_);rw [ax,ax,ax,ax] at ag;rw [if_pos e0] at ag;rw [ag];rcases ck with rfl | rfl
 all_goals
  repeat (first | refine aM (KN _) ?_ | refine aM (P _) ?_ | refine aJ (F6 s g 6 8 hg (h.l7 e0) h.fit) ?_ | refine au ?_ | intro _)
  exact az Tryz.func109
theorem Xe (s:Sx.St) (g:Nat) (h:mY s g) (hk:(Sx.op s g).kind=2∨(Sx.op s g).kind=4) (hc:(common s g).2=false) (hm:Sx.made s (Sx.op s g).ch=true) (e0:(Sx.gr s g).place=9) :
  Pure Tryz.prog 109 [.agg (ay s),.c (nI g)] (.aV [.agg (ay (bO s g).1),.c (bI (bO s g).2)]):=by
 have hg:=h.co.lt;have hf:Few s:=h.fit.toAnd;have hb:=hf.1;have dz:=hf.2.1;have C0:=dj s g hg h.co.cY;have C1:=fy s g h.co;obtain ⟨k,ek,ck⟩:∃ k,(Sx.op s g).kind=k∧(k=2∨k=4):=⟨_,rfl,hk⟩
 have KN:∀ c,((Sx.op s g).kind != c)=(k != c):=fun c=>by rw [ek]
 have KE:∀ c,((Sx.op s g).kind == c)=(k == c):=fun c=>by rw [ek]
 have aS:¬ ((Sx.op s g).kind≠2∧(Sx.op s g).kind≠4):=by omega
 have cr:¬ (common s g).2=true:=by rw [hc];simp
 rw [hc] at C1;have CM:=eK s (Sx.op s g).ch;have cz:¬ Sx.made s (Sx.op s g).ch=false:=by rw [hm];simp
 have hl:=eD hm;rw [hm] at CM;have ag:bO s g=bO s g:=rfl
 conv at ag=>rhs;unfold bO;simp only;rw [if_neg aS,if_neg cr,if_neg cz]
 have P:∀ c,((Sx.gr s g).place == c)=((9:Int) == c):=fun c=>by rw [e0]
 refine aq.intro Tryz.func109 rfl rfl rfl (fun ok e=>?_);rw [ax,ax,ax,ax,ax,ax] at ag;rw [if_pos e0] at ag;have CP:=MC (cn s (Sx.op s g).ch).buf (cn s (Sx.op s g).ch).cap (Sx.op s g).v (h.fit.bf _)
 cases hr:(iE (cn s (Sx.op s g).ch).buf (cn s (Sx.op s g).ch).cap (Sx.op s g).v).2 with
 | true =>
  rw [if_pos hr] at ag;rw [hr] at CP;rw [ag];rcases ck with rfl | rfl
  all_goals
   repeat (first | refine aM (KN _) ?_ | refine aM (P _) ?_ | refine aJ (mX s (Sx.op s g).ch { (cn s (Sx.op s g).ch) with buf:=(iE (cn s (Sx.op s g).ch).buf (cn s (Sx.op s g).ch).cap (Sx.op s g).v).1 } hm dz) ?_ | refine ei (BQ) ?_ | refine aJ (jh (Sx.av s (Sx.op s g).ch { (cn s (Sx.op s g).ch) with buf:=(iE (cn s (Sx.op s g).ch).buf (cn s (Sx.op s g).ch).cap (Sx.op s g).v).1 }) g lu 16 hg hb) ?_ | refine au ?_ | intro _)
   exact az Tryz.func109
 | false =>
  rw [if_neg (by rw [hr];simp)] at ag;rw [hr] at CP;rcases ck with rfl | rfl
  ·rw [ax] at ag;rw [ag]
   repeat (first | refine aM (KN _) ?_ | refine aM (P _) ?_ | refine aM (KE _) ?_ | refine aJ (fG s g 10 hg hb) ?_ | refine au ?_ | intro _)
   exact az Tryz.func109
  ·rw [if_pos ek] at ag;rw [ag]
   repeat (first | refine aM (KN _) ?_ | refine aM (P _) ?_ | refine aM (KE _) ?_ | refine aJ (jh s g (Sx.res 2) 16 hg hb) ?_ | refine au ?_ | intro _)
   exact az Tryz.func109
theorem Xf (s:Sx.St) (g:Nat) (h:mY s g) (hk:(Sx.op s g).kind=2∨(Sx.op s g).kind=4) (hc:(common s g).2=false) (hm:Sx.made s (Sx.op s g).ch=true) (e0:(Sx.gr s g).place=10) :
  Pure Tryz.prog 109 [.agg (ay s),.c (nI g)] (.aV [.agg (ay (bO s g).1),.c (bI (bO s g).2)]):=by
 have hg:=h.co.lt;have hf:Few s:=h.fit.toAnd;have hb:=hf.1;have dz:=hf.2.1;have C0:=dj s g hg h.co.cY;have C1:=fy s g h.co;obtain ⟨k,ek,ck⟩:∃ k,(Sx.op s g).kind=k∧(k=2∨k=4):=⟨_,rfl,hk⟩
 have KN:∀ c,((Sx.op s g).kind != c)=(k != c):=fun c=>by rw [ek]
 have KE:∀ c,((Sx.op s g).kind == c)=(k == c):=fun c=>by rw [ek]
 have aS:¬ ((Sx.op s g).kind≠2∧(Sx.op s g).kind≠4):=by omega
 have cr:¬ (common s g).2=true:=by rw [hc];simp
 rw [hc] at C1;have CM:=eK s (Sx.op s g).ch;have cz:¬ Sx.made s (Sx.op s g).ch=false:=by rw [hm];simp
 have hl:=eD hm;rw [hm] at CM;have ag:bO s g=bO s g:=rfl
 conv at ag=>rhs;unfold bO;simp only;rw [if_neg aS,if_neg cr,if_neg cz]
 have P:∀ c,((Sx.gr s g).place == c)=((10:Int) == c):=fun c=>by rw [e0]
 refine aq.intro Tryz.func109 rfl rfl rfl (fun ok e=>?_);rw [ax,ax,ax,ax,ax,ax,ax] at ag;rw [if_pos e0] at ag;obtain ⟨f1,f2,f3⟩:=h.F8 e0;rw [ag];rcases ck with rfl | rfl
 all_goals
  repeat (first | refine aM (KN _) ?_ | refine aM (P _) ?_ | refine aJ (MF s g ⟨true,g,(Sx.op s g).ch,-1,true,(Sx.op s g).v,false⟩ hg hf f1 f2 f3) ?_ | refine au ?_ | intro _)
  exact az Tryz.func109
theorem Xg (s:Sx.St) (g:Nat) (h:mY s g) (hk:(Sx.op s g).kind=2∨(Sx.op s g).kind=4) (hc:(common s g).2=false) (hm:Sx.made s (Sx.op s g).ch=true) (e0:(Sx.gr s g).place=11) :
  Pure Tryz.prog 109 [.agg (ay s),.c (nI g)] (.aV [.agg (ay (bO s g).1),.c (bI (bO s g).2)]):=by
 have hg:=h.co.lt;have hf:Few s:=h.fit.toAnd;have hb:=hf.1;have dz:=hf.2.1;have C0:=dj s g hg h.co.cY;have C1:=fy s g h.co;obtain ⟨k,ek,ck⟩:∃ k,(Sx.op s g).kind=k∧(k=2∨k=4):=⟨_,rfl,hk⟩
 have KN:∀ c,((Sx.op s g).kind != c)=(k != c):=fun c=>by rw [ek]
 have KE:∀ c,((Sx.op s g).kind == c)=(k == c):=fun c=>by rw [ek]
 have aS:¬ ((Sx.op s g).kind≠2∧(Sx.op s g).kind≠4):=by omega
 have cr:¬ (common s g).2=true:=by rw [hc];simp
 rw [hc] at C1;have CM:=eK s (Sx.op s g).ch;have cz:¬ Sx.made s (Sx.op s g).ch=false:=by rw [hm];simp
 have hl:=eD hm;rw [hm] at CM;have ag:bO s g=bO s g:=rfl
 conv at ag=>rhs;unfold bO;simp only;rw [if_neg aS,if_neg cr,if_neg cz]
 have P:∀ c,((Sx.gr s g).place == c)=((11:Int) == c):=fun c=>by rw [e0]
 refine aq.intro Tryz.func109 rfl rfl rfl (fun ok e=>?_);rw [ax,ax,ax,ax,ax,ax,ax,ax] at ag;rw [if_pos e0] at ag;rw [ag];have jv:=h.fit.sd (Sx.op s g).ch;have C2:=mX s (Sx.op s g).ch { (cn s (Sx.op s g).ch) with send:=(cn s (Sx.op s g).ch).send ++ [(Sx.gr s g).aK] } hm dz;have C3:=cE (Sx.av s (Sx.op s g).ch { (cn s (Sx.op s g).ch) with send:=(cn s (Sx.op s g).ch).send ++ [(Sx.gr s g).aK] }) g { Sx.gr s g with jn:=s.step,place:=12 } hg hb;rcases ck with rfl | rfl
 all_goals
  repeat (first | refine aM (KN _) ?_ | refine aM (P _) ?_ | refine au ?_ | intro _)
  refine J.draw (by kernel_rfl) rfl ?_;refine JW.base (some 9) ?_;refine tk 1 ?_;refine tk 2 ?_;refine tk 4 ?_;refine tk 5 ?_;refine JD.cB (i:=0) (j:=6) (by kernel_rfl) ?_ ?_;refine JS.bp rfl rfl rfl (qb rfl) (Ld.gL (qb rfl)) .none (fun _=>?_);refine JD.cB (i:=3) (j:=6) (by kernel_rfl) ?_ ?_;refine JS.bp rfl rfl rfl (qb rfl) (Ld.bY (qb rfl) rfl rfl .read (by (simp;omega))) (by (exact .row (by repeat ((exact .refl))))) (fun _=>?_);refine jl 6 rfl rfl rfl rfl (Ld.ff (qb rfl) rfl rfl rfl rfl rfl) .none (fun _=>?_);refine jl 7 rfl rfl rfl rfl (Ld.fK (qb rfl) rfl rfl .cR (by (simp;omega))) (by (exact .row (by repeat (first | exact .refl | refine .cons ?_)))) (fun _=>?_);refine jk 8 rfl rfl rfl rfl (Qt.fieldAddr rfl rfl) ?_;refine jt 9 rfl rfl (Ld.cG rfl rfl (by exact rfl)) (fun _=>?_);refine bJ ?_
  rotate_left
  refine JS.bp rfl rfl rfl (qb rfl) (Ld.ff (qb rfl) rfl rfl rfl rfl rfl) .none (fun _=>?_);refine jl 3 rfl rfl rfl rfl (Ld.bY (qb rfl) rfl rfl .read (by (simp;omega))) (by (exact .row (by repeat (first | exact .refl | refine .cons ?_)))) (fun _=>?_);refine jl 7 rfl rfl rfl rfl (Ld.fK (qb rfl) rfl rfl .cR (by (simp;omega))) (by (exact .row (by repeat (first | exact .refl | refine .cons ?_)))) (fun _=>?_);refine jk 8 rfl rfl rfl rfl (Qt.fieldAddr rfl rfl) ?_;refine jt 9 rfl rfl (Ld.cG rfl rfl (by exact rfl)) (fun _=>?_);refine bJ ?_
  rotate_left
  refine JS.bp rfl rfl rfl (qb rfl) (Ld.ff (qb rfl) rfl rfl rfl rfl rfl) .none (fun _=>?_);refine jl 0 rfl rfl rfl rfl (Ld.gL (qb rfl)) .none (fun _=>?_);refine jl 3 rfl rfl rfl rfl (Ld.bY (qb rfl) rfl rfl .read (by (simp;omega))) (by (exact .row (by repeat (first | exact .refl | refine .cons ?_)))) (fun _=>?_);refine jl 7 rfl rfl rfl rfl (Ld.fK (qb rfl) rfl rfl .cR (by (simp;omega))) (by (exact .row (by repeat (first | exact .refl | refine .cons ?_)))) (fun _=>?_);refine jk 8 rfl rfl rfl rfl (Qt.fieldAddr rfl rfl) ?_;refine jt 9 rfl rfl (Ld.cG rfl rfl (by exact rfl)) (fun _=>?_);refine bJ ?_
  rotate_left
  all_goals
   repeat (refine gn ?_)
   refine J.draw (by kernel_rfl) rfl ?_;refine JW.base (some 8) ?_;refine tk 0 ?_;refine tk 1 ?_;refine tk 2 ?_;refine tk 3 ?_;refine tk 5 ?_;refine tk 6 ?_;refine jl 4 rfl rfl rfl rfl (Ld.pure (C2) (qb rfl) rfl (by repeat (first | exact aL.nil | refine aL.cons (cQ.agg (by repeat (first | exact .nil | refine .cons .refl ?_ | refine .cons .snoc ?_))) ?_ | refine aL.cons cQ.refl ?_))) .none (fun _=>?_);refine cU 7 (C3) ?_;refine jt 8 rfl rfl (Ld.aP rfl rfl rfl (by exact rfl) (by exact rfl)) (fun _=>?_);refine JW.base none ?_;refine jk 9 rfl rfl rfl rfl (Qt.assign rfl) ?_;refine bH ?_
   repeat (fail)
   exact az Tryz.func109
theorem Xh (s:Sx.St) (g:Nat) (h:mY s g) (hk:(Sx.op s g).kind=2∨(Sx.op s g).kind=4) (hc:(common s g).2=false) (hm:Sx.made s (Sx.op s g).ch=true) (e0:(Sx.gr s g).place=14) :
  Pure Tryz.prog 109 [.agg (ay s),.c (nI g)] (.aV [.agg (ay (bO s g).1),.c (bI (bO s g).2)]):=by
 have hg:=h.co.lt;have hf:Few s:=h.fit.toAnd;have hb:=hf.1;have dz:=hf.2.1;have C0:=dj s g hg h.co.cY;have C1:=fy s g h.co;obtain ⟨k,ek,ck⟩:∃ k,(Sx.op s g).kind=k∧(k=2∨k=4):=⟨_,rfl,hk⟩
 have KN:∀ c,((Sx.op s g).kind != c)=(k != c):=fun c=>by rw [ek]
 have KE:∀ c,((Sx.op s g).kind == c)=(k == c):=fun c=>by rw [ek]
 have aS:¬ ((Sx.op s g).kind≠2∧(Sx.op s g).kind≠4):=by omega
 have cr:¬ (common s g).2=true:=by rw [hc];simp
 rw [hc] at C1;have CM:=eK s (Sx.op s g).ch;have cz:¬ Sx.made s (Sx.op s g).ch=false:=by rw [hm];simp
 have hl:=eD hm;rw [hm] at CM;have ag:bO s g=bO s g:=rfl
 conv at ag=>rhs;unfold bO;simp only;rw [if_neg aS,if_neg cr,if_neg cz]
 have P:∀ c,((Sx.gr s g).place == c)=((14:Int) == c):=fun c=>by rw [e0]
 refine aq.intro Tryz.func109 rfl rfl rfl (fun ok e=>?_);rw [ax,ax,ax,ax,ax,ax,ax,ax,ax] at ag;rw [if_pos e0] at ag;obtain ⟨f1,f2⟩:=h.zq e0;rw [ag]
 cases hd:(su s (Sx.gr s g).param).done with
 | true =>
  rw [if_pos rfl];rcases ck with rfl | rfl
  all_goals
   repeat (first | refine J.ez (congrArg (fun b=>some (D.c (bI (!b)))) hd) ?_ | (refine K.indexAddr ?_;refine jx rfl rfl rfl rfl (by omega) (ic f1 f2) ?_) | refine aM (KN _) ?_ | refine aM (P _) ?_ | refine ei (BQ) ?_ | refine aJ (cE s g { Sx.gr s g with res:=lu,param:=-1,place:=15 } hg hb) ?_ | refine au ?_ | intro _)
   exact az Tryz.func109
 | false =>
  rw [if_neg (by simp)];rcases ck with rfl | rfl
  all_goals
   repeat (first | refine J.eN (congrArg (fun b=>some (D.c (bI (!b)))) hd) ?_ | (refine K.indexAddr ?_;refine jx rfl rfl rfl rfl (by omega) (ic f1 f2) ?_) | refine aM (KN _) ?_ | refine aM (P _) ?_ | refine ei (BQ) ?_ | refine aJ (cE s g { Sx.gr s g with res:=Sx.res 3,param:=-1,place:=15 } hg hb) ?_ | refine au ?_ | intro _)
   exact az Tryz.func109
end Fl
end Go.Proofs.YtofnbflkhgammaaGreat
