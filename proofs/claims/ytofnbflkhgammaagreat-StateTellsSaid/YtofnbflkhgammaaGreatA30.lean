/-
  What the laws need, part A30.
  Conditions: none.
-/
import Derived.Test.YtofnbflkhgammaaGreatA29
set_option linter.unusedVariables false
set_option linter.unusedSimpArgs false
set_option linter.unnecessarySimpa false
set_option maxHeartbeats 2000000
namespace Go.Proofs.YtofnbflkhgammaaGreat
open Go.RowKit
namespace Fl
open Sx
set_option maxRecDepth 100000
theorem MG (s:Sx.St) (c:Int) (x:Cn) (ch:Int):cn (Sx.av s c x) ch=x∨cn (Sx.av s c x) ch=cn s ch:=by
 unfold cn Sx.av;simp only [List.getD_eq_getElem?_getD,List.getElem?_set]
 split
 ·split
  ·exact .inl rfl
  ·rename_i h1 h2;rw [← h1,List.getElem?_eq_none (by omega)];exact .inr rfl
 ·exact .inr rfl
theorem Fit.drop {s:Sx.St} (h:Fit s) (i:Int):Fit (Sx.drop s i):=by
 have hf:Few s:=h.toAnd;have uL:Few (Sx.drop s i):=hf.of (by rw [fL]) (F0 _ _) (by rw [uK]);have hg:∀ g,Sx.gr (Sx.drop s i) g=Sx.gr s g:=fun g=>tv (fL s i) g
 have hc:∀ ch,(cn (Sx.drop s i) ch).recv.length≤50000∧(cn (Sx.drop s i) ch).send.length≤50000∧(cn (Sx.drop s i) ch).buf.length≤50000:=fun ch=>by
  unfold Sx.drop
  split
  ·rcases MG s (su s i).ch { cn s (su s i).ch with recv:=gM (cn s (su s i).ch).recv i,send:=gM (cn s (su s i).ch).send i } ch with e | e
   ·rw [e];exact ⟨Nat.le_trans (List.length_filter_le _ _) (h.rv _),Nat.le_trans (List.length_filter_le _ _) (h.sd _),h.bf _⟩
   ·rw [e];exact ⟨h.rv ch,h.sd ch,h.bf ch⟩
  ·exact ⟨h.rv ch,h.sd ch,h.bf ch⟩
 have e1:(Sx.drop s i).done=s.done:=by unfold Sx.drop;split <;> rfl
 have e2:(Sx.drop s i).cache=s.cache:=by unfold Sx.drop;split <;> rfl
 have e3:(Sx.drop s i).middle=s.middle:=by unfold Sx.drop;split <;> rfl
 exact ⟨uL,fun g=>by rw [hg];exact h.wk g,fun ch=>(hc ch).1,fun ch=>(hc ch).2.1,fun ch=>(hc ch).2.2,fun g=>by rw [hg];exact h.od g,fun g=>by rw [hg];exact h.sg g,by rw [e1];exact h.dn,by rw [e2];exact h.ca,fun g=>by rw [e2];exact h.cl g,by rw [e3];exact h.md⟩
theorem Fit.aF {s:Sx.St} (h:Fit s) (i:Int) (x:Su):Fit (Sx.aF s i x):=by
 have hf:Few s:=h.toAnd;have uL:Few (Sx.aF s i x):=hf.of rfl rfl (Mq _ _ _);exact ⟨uL,h.wk,h.rv,h.sd,h.bf,h.od,h.sg,h.dn,h.ca,h.cl,h.md⟩
theorem MH {s:Sx.St} {i:Int} {x:Su} (hi:i.toNat < s.aB.length):su (Sx.aF s i x) i=x:=by
 unfold su Sx.aF;simp only [List.getD_eq_getElem?_getD,List.getElem?_set];rw [if_pos trivial,if_pos hi];rfl
theorem dm.aF {s:Sx.St} {i:Int} {x:Su} (h:dm s i) (e:x.g=(su s i).g):dm (Sx.aF s i x) i:=by
 obtain ⟨a,b,c,d⟩:=h;refine ⟨a,by rw [Mq];exact b,?_,?_⟩
 ·rw [MH (by omega),e];exact c
 ·rw [MH (by omega),e];exact d
theorem rP (s:Sx.St) (g:Nat) (i:Int) (d:Bool):(Sx.serve s g i d).gs.length=s.gs.length:=by simp [Sx.serve,Sx.aa,Sx.aF]
theorem Xi (s:Sx.St) (g:Nat) (h:mY s g) (hk:(Sx.op s g).kind=2∨(Sx.op s g).kind=4) (hc:(common s g).2=false) (hm:Sx.made s (Sx.op s g).ch=true) (e0:(Sx.gr s g).place=8) :
  Pure Tryz.prog 109 [.agg (ay s),.c (nI g)] (.aV [.agg (ay (bO s g).1),.c (bI (bO s g).2)]):=by
 have hg:=h.co.lt;have hf:Few s:=h.fit.toAnd;have hb:=hf.1;have dz:=hf.2.1;have C0:=dj s g hg h.co.cY;have C1:=fy s g h.co;obtain ⟨k,ek,ck⟩:∃ k,(Sx.op s g).kind=k∧(k=2∨k=4):=⟨_,rfl,hk⟩
 have KN:∀ c,((Sx.op s g).kind != c)=(k != c):=fun c=>by rw [ek]
 have KE:∀ c,((Sx.op s g).kind == c)=(k == c):=fun c=>by rw [ek]
 have aS:¬ ((Sx.op s g).kind≠2∧(Sx.op s g).kind≠4):=by omega
 have cr:¬ (common s g).2=true:=by rw [hc];simp
 rw [hc] at C1;have CM:=eK s (Sx.op s g).ch;have cz:¬ Sx.made s (Sx.op s g).ch=false:=by rw [hm];simp
 have hl:=eD hm;rw [hm] at CM;have ag:bO s g=bO s g:=rfl
 conv at ag=>rhs;unfold bO;simp only;rw [if_neg aS,if_neg cr,if_neg cz]
 have P:∀ c,((Sx.gr s g).place == c)=((8:Int) == c):=fun c=>by rw [e0]
 refine aq.intro Tryz.func109 rfl rfl rfl (fun ok e=>?_);rw [ax,ax,ax,ax,ax] at ag;rw [if_pos e0] at ag;have hi:=h.l8 e0;obtain ⟨fV,dI,dA,gP⟩:=id hi;have D1:=tr s (Sx.gr s g).hold fV dI (Nat.le_trans (h.fit.rv _) (by omega)) (Nat.le_trans (h.fit.sd _) (by omega)) dz;have k1:dm (Sx.drop s (Sx.gr s g).hold) (Sx.gr s g).hold:=hi.of (uK _ _) (by rw [fL]);have f1:=h.fit.drop (Sx.gr s g).hold;have g1:g < (Sx.drop s (Sx.gr s g).hold).gs.length:=by rw [fL];exact hg
 have MI:mD s g (Sx.op s g).v=Sx.serve (Sx.aF (Sx.drop s (Sx.gr s g).hold) (Sx.gr s g).hold { su (Sx.drop s (Sx.gr s g).hold) (Sx.gr s g).hold with v:=(Sx.op s g).v }) g (Sx.gr s g).hold true:=rfl;rw [MI] at ag;rw [ag];clear ag MI;generalize Sx.drop s (Sx.gr s g).hold=s1 at *;have a1:=ic k1.1 k1.2.1;have D2:=wu s1 (Sx.gr s g).hold { su s1 (Sx.gr s g).hold with v:=(Sx.op s g).v } k1.1 k1.2.1 f1.1.2.2;have k2:dm (Sx.aF s1 (Sx.gr s g).hold { su s1 (Sx.gr s g).hold with v:=(Sx.op s g).v }) (Sx.gr s g).hold:=k1.aF rfl;have f2:=f1.aF (Sx.gr s g).hold { su s1 (Sx.gr s g).hold with v:=(Sx.op s g).v };have g2:g < (Sx.aF s1 (Sx.gr s g).hold { su s1 (Sx.gr s g).hold with v:=(Sx.op s g).v }).gs.length:=g1;generalize Sx.aF s1 (Sx.gr s g).hold { su s1 (Sx.gr s g).hold with v:=(Sx.op s g).v }=s2 at *;have D3:=wv s2 g (Sx.gr s g).hold true g2 k2 f2;have g3:g < (Sx.serve s2 g (Sx.gr s g).hold true).gs.length:=by rw [rP];exact g2
 have b3:(Sx.serve s2 g (Sx.gr s g).hold true).gs.length≤100000:=by rw [rP];exact f2.1.1
 generalize Sx.serve s2 g (Sx.gr s g).hold true=s3 at *;have D4:=cE s3 g { Sx.gr s3 g with res:=lu,place:=16 } g3 b3;rcases ck with rfl | rfl
 all_goals
  repeat (first | refine aM (KN _) ?_ | refine aM (P _) ?_ | refine au ?_ | intro _)
  refine J.draw (by kernel_rfl) rfl ?_;refine JW.base (some 9) ?_;refine tk 0 ?_;refine tk 1 ?_;refine tk 2 ?_;refine tk 3 ?_;refine tk 5 ?_;refine tk 6 ?_;refine tk 7 ?_;refine cU 4 (D2) ?_;refine cU 8 (D3) ?_;refine jt 9 rfl rfl (Ld.aP rfl rfl rfl (by exact rfl) (by exact rfl)) (fun _=>?_);refine bJ ?_
  repeat (first | refine ei (BQ) ?_ | refine au ?_ | intro _)
  exact az Tryz.func109
theorem Xj (s:Sx.St) (g:Nat) (h:mY s g) (hk:(Sx.op s g).kind=2∨(Sx.op s g).kind=4) (hc:(common s g).2=false) (hm:Sx.made s (Sx.op s g).ch=true) (e0:¬ ((Sx.gr s g).place=1∨(Sx.gr s g).place=2∨(Sx.gr s g).place=5∨(Sx.gr s g).place=6∨(Sx.gr s g).place=7∨(Sx.gr s g).place=8∨(Sx.gr s g).place=9∨(Sx.gr s g).place=10∨(Sx.gr s g).place=11∨(Sx.gr s g).place=14)) :
  Pure Tryz.prog 109 [.agg (ay s),.c (nI g)] (.aV [.agg (ay (bO s g).1),.c (bI (bO s g).2)]):=by
 have hg:=h.co.lt;have hf:Few s:=h.fit.toAnd;have hb:=hf.1;have dz:=hf.2.1;have C0:=dj s g hg h.co.cY;have C1:=fy s g h.co;obtain ⟨k,ek,ck⟩:∃ k,(Sx.op s g).kind=k∧(k=2∨k=4):=⟨_,rfl,hk⟩
 have KN:∀ c,((Sx.op s g).kind != c)=(k != c):=fun c=>by rw [ek]
 have KE:∀ c,((Sx.op s g).kind == c)=(k == c):=fun c=>by rw [ek]
 have aS:¬ ((Sx.op s g).kind≠2∧(Sx.op s g).kind≠4):=by omega
 have cr:¬ (common s g).2=true:=by rw [hc];simp
 rw [hc] at C1;have CM:=eK s (Sx.op s g).ch;have cz:¬ Sx.made s (Sx.op s g).ch=false:=by rw [hm];simp
 have hl:=eD hm;rw [hm] at CM;have ag:bO s g=bO s g:=rfl
 conv at ag=>rhs;unfold bO;simp only;rw [if_neg aS,if_neg cr,if_neg cz]
 refine aq.intro Tryz.func109 rfl rfl rfl (fun ok e=>?_);rw [ax,ax,ax,ax,ax,ax,ax,ax,ax,ax] at ag;have P1:((Sx.gr s g).place == 1)=false:=by simp;omega
 have P2:((Sx.gr s g).place == 2)=false:=by simp;omega
 have P5:((Sx.gr s g).place == 5)=false:=by simp;omega
 have P6:((Sx.gr s g).place == 6)=false:=by simp;omega
 have P7:((Sx.gr s g).place == 7)=false:=by simp;omega
 have P8:((Sx.gr s g).place == 8)=false:=by simp;omega
 have P9:((Sx.gr s g).place == 9)=false:=by simp;omega
 have Xk:((Sx.gr s g).place == 10)=false:=by simp;omega
 have Xl:((Sx.gr s g).place == 11)=false:=by simp;omega
 have MJ:((Sx.gr s g).place == 14)=false:=by simp;omega
 rw [ag];rcases ck with rfl | rfl
 all_goals
  repeat (first | refine aM (KN _) ?_ | refine au ?_ | intro _)
  exact az Tryz.func109
theorem Xm (s:Sx.St) (g:Nat) (h:mY s g) :
  Pure Tryz.prog 109 [.agg (ay s),.c (nI g)] (.aV [.agg (ay (bO s g).1),.c (bI (bO s g).2)]):=by
 have hg:=h.co.lt;have C0:=dj s g hg h.co.cY;have C1:=fy s g h.co
 by_cases hk:(Sx.op s g).kind=2∨(Sx.op s g).kind=4
 case neg =>
  refine aq.intro Tryz.func109 rfl rfl rfl (fun ok e=>?_);have K2:((Sx.op s g).kind != 2)=true:=by simp;omega
  have K4:((Sx.op s g).kind != 4)=true:=by simp;omega
  have er:bO s g=(s,false):=by unfold bO;simp only;rw [if_pos (by omega)]
  rw [er]
  repeat (first | refine au ?_ | intro _)
  exact az Tryz.func109
 case pos =>
 have aS:¬ ((Sx.op s g).kind≠2∧(Sx.op s g).kind≠4):=by omega
 cases hc:(common s g).2 with
 | true =>
  obtain ⟨k,ek,ck⟩:∃ k,(Sx.op s g).kind=k∧(k=2∨k=4):=⟨_,rfl,hk⟩
  have KN:∀ c,((Sx.op s g).kind != c)=(k != c):=fun c=>by rw [ek]
  refine aq.intro Tryz.func109 rfl rfl rfl (fun ok e=>?_);have er:bO s g=((common s g).1,true):=by unfold bO;simp only;rw [if_neg aS,if_pos hc]
  rw [er];rw [hc] at C1;rcases ck with rfl | rfl
  all_goals
   repeat (first | refine aM (KN _) ?_ | refine au ?_ | intro _)
   exact az Tryz.func109
 | false =>
 cases hm:Sx.made s (Sx.op s g).ch with
 | false =>
  have CM:=eK s (Sx.op s g).ch;have cr:¬ (common s g).2=true:=by rw [hc];simp
  obtain ⟨k,ek,ck⟩:∃ k,(Sx.op s g).kind=k∧(k=2∨k=4):=⟨_,rfl,hk⟩
  have KN:∀ c,((Sx.op s g).kind != c)=(k != c):=fun c=>by rw [ek]
  refine aq.intro Tryz.func109 rfl rfl rfl (fun ok e=>?_);have er:bO s g=(s,false):=by unfold bO;simp only;rw [if_neg aS,if_neg cr,if_pos hm]
  rw [er];rw [hc] at C1;rw [hm] at CM;rcases ck with rfl | rfl
  all_goals
   repeat (first | refine aM (KN _) ?_ | refine au ?_ | intro _)
   exact az Tryz.func109
 | true =>
  by_cases e1:(Sx.gr s g).place=1
  ·exact W9 s g h hk hc hm e1
  by_cases e2:(Sx.gr s g).place=2
  ·exact Xa s g h hk hc hm e2
  by_cases e5:(Sx.gr s g).place=5
  ·exact Xb s g h hk hc hm e5
  by_cases e6:(Sx.gr s g).place=6
  ·exact Xc s g h hk hc hm e6
  by_cases e7:(Sx.gr s g).place=7
  ·exact Xd s g h hk hc hm e7
  by_cases e8:(Sx.gr s g).place=8
  ·exact Xi s g h hk hc hm e8
  by_cases e9:(Sx.gr s g).place=9
  ·exact Xe s g h hk hc hm e9
  by_cases mV:(Sx.gr s g).place=10
  ·exact Xf s g h hk hc hm mV
  by_cases mW:(Sx.gr s g).place=11
  ·exact Xg s g h hk hc hm mW
  by_cases jz:(Sx.gr s g).place=14
  ·exact Xh s g h hk hc hm jz
  exact Xj s g h hk hc hm (by omega)
end Fl
open Go.RowKit
namespace Fl
open Sx
set_option maxRecDepth 100000
theorem MK (s:Sx.St) (ch i:Int) (hm:Sx.made s ch=true) (dz:s.an.length≤100000) (fV:0≤i) (dI:i < s.aB.length) (hl:(cn s ch).buf.length≤50000) :
  Pure Tryz.prog 118 [.agg (ay s),.c (nI ch),.c (nI i)] (.aV [.agg (ay (Sx.hand s ch i).1),.c (nI (Sx.hand s ch i).2)]):=by
 have ig:=eD hm;refine aq.intro Tryz.func118 rfl rfl rfl (fun ok e=>?_)
 cases h1:((cn s ch).cap == 0) with
 | true =>
  have er:Sx.hand s ch i=(s,(su s i).v):=by unfold Sx.hand;simp only;rw [if_pos (by simpa using h1)]
  rw [er]
  repeat (first | refine au ?_ | intro _)
  refine J.draw (by kernel_rfl) rfl ?_;refine JW.xA none (.tmp 6) rfl ?_;refine tk 0 ?_;refine tk 1 ?_;refine tk 2 ?_;refine tk 3 ?_;refine JD.take 4 rfl rfl (by kernel_rfl) rfl (qb rfl) (Qt.cq rfl rfl fV (ic fV dI)) rfl ?_;refine tk 5 ?_;refine tk 6 ?_;refine JD.bk (i:=7) (by kernel_rfl) ?_
  (refine JS.st rfl rfl rfl (Ld.aP rfl rfl rfl (by exact rfl) (by exact rfl)) (.mz rfl) (fun _=>?_))
  refine tk 8 ?_;refine bH ?_
  repeat (fail)
  exact az Tryz.func118
 | false =>
  have er:Sx.hand s ch i=(Sx.av s ch { cn s ch with buf:=(gQ (cn s ch).buf (cn s ch).cap (su s i).v).1 },(gQ (cn s ch).buf (cn s ch).cap (su s i).v).2.1):=by unfold Sx.hand;simp only;rw [if_neg (by simpa using h1)]
  have CP:=W7 (cn s ch).buf (cn s ch).cap (su s i).v hl
  cases h2:(gQ (cn s ch).buf (cn s ch).cap (su s i).v).2.2 with
  | true =>
   rw [h2] at CP;rw [er]
   repeat (first | refine au ?_ | intro _)
   refine J.draw (by kernel_rfl) rfl ?_;refine JW.base none ?_;refine tk 0 ?_;refine tk 1 ?_;refine tk 2 ?_;refine tk 3 ?_;refine tk 4 ?_;refine tk 5 ?_;refine tk 6 ?_;refine JD.take 7 rfl rfl (by kernel_rfl) rfl (qb rfl) (Qt.cq rfl rfl fV (ic fV dI)) rfl ?_;refine tk 8 ?_;refine tk 9 ?_;refine cU 10 (CP) ?_;refine jk 11 rfl rfl rfl rfl (Qt.move rfl) ?_;refine JD.lP ?_;refine tk 12 ?_;refine tk 13 ?_;refine tk 14 ?_;refine jk 15 rfl rfl rfl rfl (Qt.assign rfl) ?_;refine jk 16 rfl rfl rfl rfl (Qt.assign rfl) ?_;refine jk 17 rfl rfl rfl rfl (Qt.assign rfl) ?_;refine bH ?_
   repeat (first | refine aJ (mX s ch { cn s ch with buf:=(gQ (cn s ch).buf (cn s ch).cap (su s i).v).1 } hm dz) ?_ | refine gn ?_)
   exact az Tryz.func118
  | false =>
   have e2:(gQ (cn s ch).buf (cn s ch).cap (su s i).v).1=(cn s ch).buf:=by
    revert h2;unfold gQ;split <;> simp
   have e3:({ cn s ch with buf:=(gQ (cn s ch).buf (cn s ch).cap (su s i).v).1 }:Cn)=cn s ch:=by rw [e2]
   rw [e3] at er;rw [h2] at CP;rw [er]
   repeat (first | refine au ?_ | intro _)
   refine J.draw (by kernel_rfl) rfl ?_;refine JW.base none ?_;refine tk 0 ?_;refine tk 1 ?_;refine tk 2 ?_;refine tk 3 ?_;refine tk 4 ?_;refine tk 5 ?_;refine tk 6 ?_;refine JD.take 7 rfl rfl (by kernel_rfl) rfl (qb rfl) (Qt.cq rfl rfl fV (ic fV dI)) rfl ?_;refine tk 8 ?_;refine tk 9 ?_;refine cU 10 (CP) ?_;refine jk 11 rfl rfl rfl rfl (Qt.move rfl) ?_;refine JD.lP ?_;refine tk 12 ?_;refine tk 13 ?_;refine tk 14 ?_;refine jk 15 rfl rfl rfl rfl (Qt.assign rfl) ?_;refine jk 16 rfl rfl rfl rfl (Qt.assign rfl) ?_;refine jk 17 rfl rfl rfl rfl (Qt.assign rfl) ?_;refine bH ?_
   repeat (first | refine aJ (mX s ch (cn s ch) hm dz) ?_ | refine gn ?_)
   exact az Tryz.func118
end Fl
end Go.Proofs.YtofnbflkhgammaaGreat
