/-
  What the laws need, part A9.
  Conditions: none.
-/
import Derived.Test.YtofnbflkhgammaaGreatA8
import Derived.Deep.OwnRows
import Derived.StillTailTactics
set_option linter.unusedVariables false
set_option linter.unusedSimpArgs false
set_option linter.unnecessarySimpa false
set_option maxHeartbeats 2000000
namespace Go.Proofs.YtofnbflkhgammaaGreat
open Go.RowKit
def PS (w:World) (p:Value) (size most:Nat) (s:Po.St) (S:List Nat):Prop:=Pl w p size most s.C s.M s.f s.H S
theorem NR.II {w w':World} {g off m cap:Nat} {es e:TypeId} {ll:List (List Int)} {T V:List Nat} {Us:List (List Nat)} (h:NR w (.slice (some ⟨g,off,none⟩) m cap) es e ll T Us) {k:Nat} {l l':List Int} {U U':List Nat} {x':Value} (hk:ll[k]?=some l) (hU:Us[k]?=some U)
  (kp:aj V w w') (QG:∀ x∈T,x∉V) (QH:∀ (j:Nat) B,j≠k→Us[j]?=some B→∀ x∈B,x∉V) (tK:IR w' x' e l' U') (hn:∀ x∈U',x∈U∨w.heap.size≤x) :
  NR (w'.setCell ⟨g,off + k,none⟩ x') (.slice (some ⟨g,off,none⟩) m cap) es e (ll.set k l') T (Us.set k U'):=by
 have cA:=NR.lt h;obtain ⟨vs,hr,hl,hi,hd,hp⟩:=h;have fR:=(List.getElem?_eq_some_iff.1 hk).1;have m8:k < vs.length:=by rw [hr.len];omega
 have Aw:∀ x∈T,x∉U:=fun x hx hu=>hd U (List.mem_of_getElem? hU) x hu hx
 have fS:=hr.aT kp QG;obtain ⟨hs,Ac⟩:=fS.stored k m8 x';have IJ:∀ x∈U',x∉T:=fun x hx ht=>by
  rcases hn x hx with h | h
  ·exact Aw x ht h
  ·have:=cA.1 x ht;omega
 have IK:∀ (j:Nat) B,j≠k→Us[j]?=some B→∀ x∈B,x∉U':=fun j B hj hB x hx fC=>by
  rcases hn x fC with h | h
  ·exact hp j k B U hj hB hU x hx h
  ·have:=cA.2 B (List.mem_of_getElem? hB) x hx;omega
 refine ⟨vs.set k x',by rw [List.length_set];exact hs,by simp [hl],?_,?_,?_⟩
 ·intro j x A l2 a b c
  by_cases hj:k=j
  ·subst hj;rw [List.getElem?_set_self m8] at a;rw [List.getElem?_set_self (by omega)] at b c
   cases a;cases b;cases c;exact tK.aT Ac IJ
  ·rw [List.getElem?_set_ne hj] at a b c;exact ((hi j x A l2 a b c).aT kp (QH j A (fun e=>hj e.symm) b)).aT Ac (fun x hx=>hd A (List.mem_of_getElem? b) x hx)
 ·intro A hA x hx;rcases List.mem_or_eq_of_mem_set hA with h | rfl
  ·exact hd A h x hx
  ·exact IJ x hx
 ·intro i j A B qH hA hB x hx D7
  by_cases rU:k=i
  ·subst rU;rw [List.getElem?_set_self (by omega)] at hA
   cases hA;rw [List.getElem?_set_ne qH] at hB;exact IK j B (fun e=>qH e.symm) hB x D7 hx
  ·rw [List.getElem?_set_ne rU] at hA
   by_cases lH:k=j
   ·subst lH;rw [List.getElem?_set_self (by omega)] at hB
    cases hB;exact IK i A (fun e=>rU e.symm) hA x hx D7
   ·rw [List.getElem?_set_ne lH] at hB;exact hp i j A B qH hA hB x hx D7
theorem uh {Us:List (List Nat)} {n:Nat} {U':List Nat} {x:Nat} (h:x∈(Us.set n U').flatten):x∈Us.flatten∨x∈U':=by
 obtain ⟨A,hA,hx⟩:=List.mem_flatten.1 h;rcases List.mem_or_eq_of_mem_set hA with h | rfl
 ·exact .inl (List.mem_flatten.2 ⟨A,h,hx⟩)
 ·exact .inr hx
theorem QI {w wc:World} {b n gT iU mT cap gH ki mH IL x:Nat} {size most f:Int} {vm Ax v' D8 D9:Value} {C:List (List Int)} {M M' l l':List Int} {H:List Bool} {t:Bool} {T Tm Th U U' lU:List Nat} {Us:List (List Nat)}
  (QJ:D8=.slice (some ⟨gT,iU,none⟩) mT cap) (QK:D9=.slice (some ⟨gH,ki,none⟩) mH IL)
  (hb:b < w.heap.size) (hc:NR w D8 28 3 C T Us) (hh:BR w D9 H Th) (hm:IR w vm 3 M Tm)
  (ha:fA [[b],T,Us.flatten,Tm,Th]) (hk:C[n]?=some l) (hU:Us[n]?=some U) (dF:aj (b :: (U ++ Tm)) w wc)
  (gG:cI wc b [.int .i64 size,.int .i64 most,D8,Ax,.int .i64 f,D9] 155)
  (kj:IR wc v' 3 l' U') (qY:∀ x∈U',x∈U∨w.heap.size≤x) (nL:IR wc Ax 3 M' lU) (xU:∀ x∈lU,x∈Tm∨w.heap.size≤x) (hd:∀ x∈U',x∉lU) (hx:x < H.length) :
  ∃ S',Pl ((wc.setCell ⟨gT,iU + n,none⟩ v').setCell ⟨gH,ki + x,none⟩ (.bool t)) (.pointer (some ⟨b,0,none⟩)) size most (C.set n l') M' f (H.set x t) S' ∧
   aj (b :: (T ++ Us.flatten ++ Tm ++ Th)) w ((wc.setCell ⟨gT,iU + n,none⟩ v').setCell ⟨gH,ki + x,none⟩ (.bool t))∧∀ k∈S',k∈b :: (T ++ Us.flatten ++ Tm ++ Th)∨w.heap.size≤k:=by
 subst QJ QK;have xV:=ha;simp only [fA,List.pairwise_cons,List.mem_cons,List.not_mem_nil,or_false,forall_eq_or_imp,forall_eq] at xV;obtain ⟨⟨a1,a2,a3,a4⟩,⟨a5,a6,a7⟩,⟨a8,a9⟩,iy,_⟩:=xV;have mJ:∀ x∈U,x∈Us.flatten:=fun x hx=>List.mem_flatten.2 ⟨U,List.mem_of_getElem? hU,hx⟩
 have bQ:=NR.lt hc;have Ea:∀ x∈Us.flatten,x < w.heap.size:=fun x hx=>by
  obtain ⟨A,hA,hx⟩:=List.mem_flatten.1 hx;exact bQ.2 A hA x hx
 have QL:=bQ.1;have QM:=hh.lt;have ig:=hm.lt;obtain ⟨ZG,ZH,_,_,e1,rfl,_⟩:=NR.get hc hk;obtain ⟨rfl,rfl⟩:=by simpa using e1
 have Ay:=List.getElem?_eq_getElem hx;obtain ⟨ZI,ZJ,e2,rfl,_⟩:=hh.cells Ay;obtain ⟨rfl,rfl⟩:=by simpa using e2
 simp only [List.mem_singleton,forall_eq] at a1 a4 a5 a6 a7 QL QM;have QN:∀ (i j:Nat) A B,i≠j→Us[i]?=some A→Us[j]?=some B→∀ x∈A,x∉B:=by
  obtain ⟨_,_,_,_,_,hp⟩:=hc;exact hp
 have QO:=hc.II hk hU dF (by intro y hy hv;simp at hy;subst hy;simp at hv;rcases hv with h | h | h;exact a1 h.symm;exact a5 (mJ _ h);exact a6 h)
  (fun j B hj hB y hy hv=>by
   have Az:y∈Us.flatten:=List.mem_flatten.2 ⟨B,List.mem_of_getElem? hB,hy⟩;simp at hv;rcases hv with rfl | h | h
   ·exact a2 Az
   ·exact QN j n B U hj hB hU y hy h
   ·exact a8 y Az h) kj qY
 have kc:aj [gT] wc (wc.setCell ⟨gT,iU + n,none⟩ v'):=(aj.refl _ _).setCell (by simp) _;have QT:b∉U':=fun h=>by rcases qY b h with h | h;exact a2 (mJ _ h);omega
 have IM:gT∉lU:=fun h=>by rcases xU gT h with h | h;exact a6 h;omega
 have IN:gH∉lU:=fun h=>by
  rcases xU gH h with h | h
  ·exact iy gH h (by simp)
  ·omega
 have QU:gH∉(b :: (U ++ Tm)):=by
  simp;refine ⟨fun h=>a4 h.symm,fun h=>a9 gH (mJ _ h) (by simp),fun h=>iy gH h (by simp)⟩
 have QV:=(hh.aT dF (by intro y hy;simp at hy;subst hy;exact QU)).aT kc (by intro y hy;simp at hy;subst hy;simpa using fun h=>a7 h.symm);obtain ⟨QW,kb⟩:=QV.stored x hx t;refine ⟨b :: ([gT] ++ (Us.set n U').flatten ++ lU ++ [gH]),⟨b,.slice (some ⟨gT,iU,none⟩) mT cap,Ax,.slice (some ⟨gH,ki,none⟩) mH IL,[gT],Us.set n U',lU,[gH],rfl,?_,?_,?_,?_,?_,rfl⟩,?_,?_⟩
 ·exact ((gG.aT kc (by simpa using a1)).aT kb (by simpa using a4))
 ·refine QO.aT kb (by simpa using a7) ?_;intro A hA y hy;have Az:y∈(Us.set n U').flatten:=List.mem_flatten.2 ⟨A,hA,hy⟩;rcases uh Az with h | h
  ·exact a9 y h
  ·rcases qY y h with h | h
   ·exact a9 y (mJ _ h)
   ·simp;omega
 ·exact (nL.aT kc (by intro y hy h;simp at h;subst h;exact IM hy)).aT kb (by intro y hy h;simp at h;subst h;exact IN hy)
 ·simpa using QW
 ·simp only [fA,List.pairwise_cons,List.mem_cons,List.not_mem_nil,or_false,forall_eq_or_imp,forall_eq,List.Pairwise.nil,and_true,List.mem_singleton];refine ⟨⟨a1,?_,?_,a4⟩,⟨?_,IM,a7⟩,⟨?_,?_⟩,?_,by simp⟩
  ·intro h;rcases uh h with h | h
   ·exact a2 h
   ·exact QT h
  ·intro h;rcases xU b h with h | h
   ·exact a3 h
   ·omega
  ·intro h;rcases uh h with h | h
   ·exact a5 h
   ·rcases qY gT h with h | h
    ·exact a5 (mJ _ h)
    ·omega
  ·intro y hy xW;rcases uh hy with h | h
   ·rcases xU y xW with h1 | h1
    ·exact a8 y h h1
    ·have:=Ea y h;omega
   ·exact hd y h xW
  ·intro y hy h;subst h;rcases uh hy with h | h
   ·exact a9 y h (by simp)
   ·rcases qY y h with h | h
    ·exact a9 y (mJ _ h) (by simp)
    ·omega
  ·intro y hy h;subst h;exact IN hy
 ·refine ((dF.mono (T:=b :: ([gT] ++ Us.flatten ++ Tm ++ [gH])) ?_).setCell (by simp) _).setCell (by simp) _;intro y hy
  left
  simp at hy ⊢;rcases hy with rfl | h | h
  ·simp
  ·have:=mJ y h;simp at this;simp [this]
  ·simp [h]
 ·intro y hy;simp only [List.mem_cons,List.mem_append,List.not_mem_nil,or_false] at hy ⊢;rcases hy with rfl | ((rfl | h) | h) | rfl
  ·simp
  ·simp
  ·rcases uh h with h | h
   ·simp only [h,true_or,or_true]
   ·rcases qY y h with h | h
    ·have:=mJ y h;simp only [this,true_or,or_true]
    ·exact .inr h
  ·rcases xU y h with h | h
   ·simp only [h,true_or,or_true]
   ·exact .inr h
  ·simp
def AA:Value→Nat
 | .slice _ n _=>n
 | _=>0
theorem Po.QX (M:List Int) (k j:Nat) (h:M.length - k=j + 1):M.reverse.take (k + 1)=M.reverse.take k ++ [M.getD j 0]:=by
 have hk:k < M.reverse.length:=by simp;omega
 rw [List.take_succ_eq_append_getElem hk,List.getElem_reverse]
 congr 2
 rw [List.getD_eq_getElem?_getD,List.getElem?_eq_getElem (by omega)];simp only [Option.getD_some]
 congr 1;omega
open Go.RowKit
def AB (r:Po.St × Bool) (p:Value) (size most:Nat) (S:List Nat) (w:World) (e:Ending) (w':World):Prop :=
 e=.returned (.bool r.2)∧∃ S',PS w' p size most r.1 S'∧aj S w w'∧∀ k∈S',k∈S∨w.heap.size≤k
def Eb (w:World) (b:Nat) (size most:Nat) (vc vh:Value) (f:Nat) (o m:List Int) (U Tm:List Nat) (v7:Value) (w':World):Prop :=
 ∃ ao cap vm lU,v7=.slice ao o.length cap∧aj (b :: Tm) w w'∧cI w' b [.int .i64 size,.int .i64 most,vc,vm,.int .i64 f,vh] 155 ∧
  IR w' v7 3 o U∧IR w' vm 3 m lU∧(∀ x∈lU,x∈Tm∨w.heap.size≤x)
def xX (w:World) (b:Nat) (size most:Nat) (vc vh:Value) (f:Nat) (M c:List Int) (U Tm:List Nat) (k:Nat) (v7:Value) (w':World):Prop :=
 ∃ ao cap vm lU,v7=.slice ao (c.length - k) cap∧aj (b :: Tm) w w'∧cI w' b [.int .i64 size,.int .i64 most,vc,vm,.int .i64 f,vh] 155 ∧
  IR w' v7 3 (c.take (c.length - k)) U∧IR w' vm 3 (M ++ c.reverse.take k) lU∧(∀ x∈lU,x∈Tm∨w.heap.size≤x)
theorem xX.step {w wr w7:World} {b size most:Nat} {vc vh:Value} {f:Nat} {M c:List Int} {U Tm T6 T7:List Nat} {k gC vv j oJ n7 nM:Nat} {nN:Option Addr}
  (QY:b∉U) (Ec:b∉Tm) (Aw:∀ x∈Tm,x∉U) (hb:b < w.heap.size) (Ea:∀ x∈U,x < w.heap.size) (dF:aj (b :: Tm) w wr)
  {vm:Value} (gG:cI wr b [.int .i64 size,.int .i64 most,vc,vm,.int .i64 f,vh] 155)
  (iV:IR wr (.slice (some ⟨gC,vv,none⟩) (j + 1) oJ) 3 (c.take (j + 1)) U) (lV:∀ x∈T6,x∈Tm∨w.heap.size≤x) (hj:c.length - k=j + 1)
  (r7:IR w7 (.slice nN n7 nM) 3 ((M ++ c.reverse.take k) ++ [c.getD j 0]) T7) (k7:aj T6 wr w7) (s7:∀ x∈T7,x∈T6∨wr.heap.size≤x) (m:Nat) :
  xX w b size most vc vh f M c U Tm (k + 1) (.slice (some ⟨gC,vv,none⟩) j oJ) ((w7.setCell ⟨b,3,none⟩ (.slice nN n7 nM)).drewN m):=by
 have jR:=dF.size;have IP:b∉T6:=fun hx=>by rcases lV b hx with h | h;exact Ec h;omega
 have QZ:b∉T7:=fun hx=>by rcases s7 b hx with h | h;exact IP h;omega
 have Q0:∀ x∈U,x∉T6:=fun x hx h6=>by rcases lV x h6 with h | h;exact Aw x h hx;have:=Ea x hx;omega
 have ig:(c.take (j + 1)).length=j + 1:=by simp;omega
 have sG:aj [b] w7 (w7.setCell ⟨b,3,none⟩ (.slice nN n7 nM)):=(aj.refl [b] w7).setCell (by simp) _;have Q1:IR wr (.slice (some ⟨gC,vv,none⟩) j oJ) 3 (c.take j) U:=by
  have:=IR.prefix (l:=c.take (j + 1)) (by rw [ig];exact iV) j (by omega)
  rwa [List.take_take,Nat.min_eq_left (by omega)] at this
 have jG:∀ W:World,aj [] W (W.drewN m):=fun W=>(aj.refl [] W).drewN m
 refine ⟨some ⟨gC,vv,none⟩,oJ,.slice nN n7 nM,T7,by rw [show c.length - (k + 1)=j by omega],?_,?_,?_,?_,?_⟩
 ·refine ((dF.trans k7 (fun x hx=>?_)).setCell (by simp) _).drewN m;rcases lV x hx with h | h
  ·left;simp [h]
  ·exact .inr h
 ·have:=((gG.aT k7 IP).set 3 (.slice nN n7 nM)).aT (jG _) (by simp);simpa using this
 ·rw [show c.length - (k + 1)=j by omega];exact ((Q1.aT k7 Q0).aT sG (fun x hx h=>by simp at h;subst h;exact QY hx)).then (jG _)
 ·rw [Po.QX c k j hj,← List.append_assoc];exact (r7.aT sG (fun x hx h=>by simp at h;subst h;exact QZ hx)).then (jG _)
 ·intro x hx;rcases s7 x hx with h | h
  ·exact lV x h
  ·right;omega
set_option maxRecDepth 100000 in
set_option maxHeartbeats 1600000 in
theorem Q2 (w:World) (p:Value) (size most:Nat) (s:Po.St) (S:List Nat) (g y:Int) (h:PS w p size most s S) (v:Po.Inv size most s) :
  Calls Tryz.prog 81 #[p,.int .i64 g,.int .i64 y] w (AB (Po.bR most s g y) p size most S w):=by
 have HP:=Lib.hid h;have HV:=Lib.hid v;obtain ⟨b,vc,vm,vh,T1,Us,Tm,Th,rfl,hb,hc,hm,hh,ha,rfl⟩:=h;obtain ⟨tM,cz,pY⟩:=(⟨v.m1,v.m2,v.s1⟩:_∧_∧_)
 have xY:(s.f:Int)≤(s.H.length:Int):=by have:=v.fl;have:=v.hl;omega
 clear v
 cases ht:Po.mB s.C g with
 | false =>
  have HF:Hid (Po.bR most s g y=(s,false)):=Lib.hid (by simp [Po.bR,ht]);clear hb hc hm hh ha
  go_enter Tryz.func81,Tryz.ntmps81
  go_wp2_with fail
  refine (xC _ _ _ _ _ _ _ _ _ _ HP.out).mono ?_
  rintro e w1 ⟨rfl,rfl⟩
  rw [ht]
  go_wp2_with fail
  go_ret
  unfold AB;rw [HF.out];exact ⟨rfl,_,HP.out,aj.refl _ _,fun k hk=>.inl hk⟩
 | true =>
  cases mK:Po.live s.f s.H y with
  | false =>
   have HF:Hid (Po.bR most s g y=(s,false)):=Lib.hid (by simp [Po.bR,mK]);clear hb hc hm hh ha
   go_enter Tryz.func81,Tryz.ntmps81
   go_wp2_with fail
   refine (xC _ _ _ _ _ _ _ _ _ _ HP.out).mono ?_
   rintro e w1 ⟨rfl,rfl⟩
   rw [ht]
   go_wp2_with fail
   refine (Dx _ _ _ _ _ _ _ _ _ _ HP.out xY).mono ?_
   rintro e w1 ⟨rfl,rfl⟩
   rw [mK]
   go_wp2_with fail
   go_ret
   unfold AB;rw [HF.out];exact ⟨rfl,_,HP.out,aj.refl _ _,fun k hk=>.inl hk⟩
  | true =>
   have h2:=ht;simp only [Po.mB,Bool.and_eq_true,decide_eq_true_eq] at h2;obtain ⟨n,rfl⟩:=Int.eq_ofNat_of_zero_le h2.1;have h3:=mK;simp only [Po.live,Bool.and_eq_true,decide_eq_true_eq] at h3;obtain ⟨x,rfl⟩:=Int.eq_ofNat_of_zero_le h3.1.1;have IQ:x < s.H.length:=by omega
   have hn:n < s.C.length:=by omega
   have hle:=hc.le;unfold maxLen at hle;obtain ⟨ao,cap,rfl⟩:=hc.shape;have hk:=List.getElem?_eq_getElem hn;obtain ⟨c,oC⟩:∃ c,s.C[n]=c:=⟨_,rfl⟩
   rw [oC] at hk;have IS:s.C.getD n []=c:=by rw [List.getD_eq_getElem?_getD,hk];rfl
   have Q3:Hid (Po.bR most s n x=(Po.pM most s n c x,true)):=Lib.hid (by
    unfold Po.bR;rw [ht,mK];simp only [if_true,Int.toNat_natCast,IS,Bool.and_self])
   have bQ:c.length≤most:=HV.out.qN c (List.mem_of_getElem? hk);have ZK:s.M.length≤64:=HV.out.lens.1;obtain ⟨gT,iU,x0,U,rfl,rfl,Ed,cT,fT,hr,hU,Q4⟩:=hc.get hk;obtain ⟨vz,oJ,rfl⟩:=hr.shape;have c2:w.cell? ⟨b,2,none⟩=some (.slice (some ⟨gT,iU,none⟩) s.C.length cap):=hb.cell 2;have c1:w.cell? ⟨b,1,none⟩=some (.int .i64 most):=hb.cell 1;have cA:(n:Int) < s.C.length:=by omega
   obtain ⟨ZL,uj,rfl⟩:=hh.shape;have Ay:=List.getElem?_eq_getElem IQ;obtain ⟨gH,ki,rfl,rfl,Q5,cH,fH⟩:=hh.cells Ay;generalize s.H[x]=t0 at *;have HB:=Lib.hid hb;have HC:=Lib.hid hc;have HM:=Lib.hid hm;have HH:=Lib.hid hh;have HA:=Lib.hid ha;have HR:=Lib.hid hr;have HU:=Lib.hid hU;have HK:=Lib.hid hk;have xV:=ha;simp only [fA,List.pairwise_cons,List.mem_cons,List.not_mem_nil,or_false,forall_eq_or_imp,forall_eq] at xV;obtain ⟨⟨a1,a2,a3,a4⟩,⟨a5,a6,a7⟩,⟨a8,a9⟩,iy,jH⟩:=xV;have mJ:∀ x∈U,x∈Us.flatten:=fun x hx=>List.mem_flatten.2 ⟨U,List.mem_of_getElem? hU,hx⟩
   have iW:Hid (b∉U∧b∉Tm∧(∀ x∈Tm,x∉U)∧b < w.heap.size∧(∀ x∈U,x < w.heap.size)∧gT∉Tm∧gH∉Tm∧gH∉U):=Lib.hid
    ⟨fun h=>a2 (mJ b h),a3,fun x hx h=>a8 x (mJ x h) hx,hb.lt,hr.lt,a6,fun h=>iy gH h (by simp),fun h=>a9 gH (mJ _ h) (by simp)⟩
   have n1:b≠gT:=by simpa using a1
   have n2:b≠gH:=by simpa using a4
   have n3:gT≠gH:=by simpa using a7
   clear hb hc hm hh ha hr hU hk oC IS h2 h3 Ay a1 a2 a3 a4 a5 a6 a7 a8 a9 iy jH mJ;have ZM:c.length≤16:=by omega
   obtain ⟨o,ho⟩:∃ o,c.take (c.length - Po.dS most c)=o:=⟨_,rfl⟩
   have Ee:=Lib.hid ho;have mh:o.length≤16:=by rw [← ho];simp;omega
   clear ho;obtain ⟨q,hq⟩:∃ q,decide (c.length=most)=q:=⟨_,rfl⟩
   have HQ:Hid (q=decide (c.length=most)):=Lib.hid hq.symm;have tT:((c.length:Int) == (most:Int))=q:=by rw [← hq,Bool.eq_iff_iff];simp;omega
   go_enter Tryz.func81,Tryz.ntmps81
   go_wp2_with fail
   refine (xC _ _ _ _ _ _ _ _ _ _ HP.out).mono ?_
   rintro e w1 ⟨rfl,rfl⟩
   rw [ht]
   go_wp2_with fail
   refine (Dx _ _ _ _ _ _ _ _ _ _ HP.out xY).mono ?_
   rintro e w1 ⟨rfl,rfl⟩
   rw [mK]
   go_upto_if 32 with fail
   go_cut [7] (fun v7 w'=>Eb w b size most (.slice (some ⟨gT,iU,none⟩) s.C.length cap) (.slice (some ⟨gH,ki,none⟩) s.H.length uj) s.f o (s.M ++ c.reverse.take (Po.dS most c)) U Tm v7 w')
   case first =>
    cases q with
    | true =>
     have h0:c.length=most:=by have:=HQ.out;simpa using this
     have Q6:Hid (Po.dS most c=c.length - most / 2):=Lib.hid (by simp [Po.dS,h0]);have Q7:Hid (xX w b size most (.slice (some ⟨gT,iU,none⟩) s.C.length cap) (.slice (some ⟨gH,ki,none⟩) s.H.length uj) s.f s.M c U Tm 0 (.slice vz c.length oJ) w):=Lib.hid
      ⟨vz,oJ,vm,Tm,by simp,aj.refl _ _,HB.out,by simpa using HR.out,by simpa using HM.out,fun x hx=>.inl hx⟩
     clear h0
     go_wp2_with fail
     go_loopw [7] (fun v7 wr=>∃ k:Nat,k≤c.length - most / 2∧xX w b size most (.slice (some ⟨gT,iU,none⟩) s.C.length cap) (.slice (some ⟨gH,ki,none⟩) s.H.length uj) s.f s.M c U Tm k v7 wr) (fun v7 _=>AA v7)
     case atStart=>exact ⟨0,Nat.zero_le _,Q7.out⟩
     case round =>
      obtain ⟨k,hk,AD,vD,Ef,T6,rfl,dF,gG,kj,nL,lV⟩:=hrel;have d1:wr.cell? ⟨b,1,none⟩=some (.int .i64 most):=gG.cell 1
      by_cases qZ:k < c.length - most / 2
      ·obtain ⟨j,hj⟩:∃ j,c.length - k=j + 1:=⟨c.length - k - 1,by omega⟩
       rw [hj] at kj;have ig:(c.take (j + 1)).length=j + 1:=by simp;omega
       obtain ⟨gC,vv,rfl,rfl,ZN,IT,_⟩:=kj.cells (by omega);have cC:wr.cell? ⟨gC,vv + j,none⟩=some (.int .i64 (c.getD j 0)):=by
        have:=IT j (by omega);rw [this,List.getD_eq_getElem?_getD,List.getD_eq_getElem?_getD,List.getElem?_take,if_pos (by omega)]
       have sH:j + 1≤vD:=by obtain ⟨_,_,_,e,h1,_⟩:=kj;simp at e;omega
       obtain ⟨m6,AE⟩:∃ m,s.M ++ c.reverse.take k=m:=⟨_,rfl⟩
       have ZO:m6.length≤80:=by rw [← AE];simp;omega
       rw [AE] at nL;obtain ⟨xZ,x8,rfl⟩:=nL.shape;have d3:wr.cell? ⟨b,3,none⟩=some (.slice xZ m6.length x8):=gG.cell 3;have f3:wr.frozen? ⟨b,3,none⟩=false:=gG.free 3;have IU:b∉T6:=fun h=>by
        rcases lV b h with h | h
        ·exact iW.out.2.1 h
        ·have:=iW.out.2.2.2.1;omega
       have ZP:gC∉T6:=fun h=>by
        rcases lV gC h with h | h
        ·exact iW.out.2.2.1 gC h (by simp)
        ·have:=iW.out.2.2.2.2.1 gC (by simp);omega
       have IW:decide ((most:Int) / 2 < (j:Int) + 1)=true:=by simp;omega
       have Qg:(j:Int) + 1≤(vD:Int):=by omega
       have ZQ:(0:Int)≤(j:Int):=by omega
       have ZR:j≤64:=by omega
       have ZT:(j:Int) < (j:Int) + 1:=by omega
       have g9:=Lib.hid dF;have Eg:=Lib.hid gG;have ri:=Lib.hid kj;have x9:=Lib.hid nL;have ya:=Lib.hid lV;have Q8:=Lib.hid AE;have HJ:=Lib.hid hj;have ue:Hid (k + 1≤c.length - most / 2):=Lib.hid qZ;rw [hj];clear dF gG kj nL lV AE IT ig hj hk qZ;obtain ⟨x2,HX⟩:∃ x,Hid (c.getD j 0=x):=⟨_,rfl⟩
       rw [HX.out] at cC
       go_wp2_with fail
       have ZU:(wr.alloc (.cells #[.int .i64 x2] 3)).drew.cell? ⟨b,3,none⟩=some (.slice xZ m6.length x8):=(World.cell?_alloc_past _ _ _ (block_lt_of_cell d3)).trans d3
       go_region_law (refine CH sk (x9.out.then ((aj.refl [] wr).drew)) (by omega) ?_;intro nN nM w7 T7 r7 k7 s7;have k8:aj T6 wr w7:=((aj.refl T6 wr).drew).trans k7 (fun x hx=>.inl hx);have f7:w7.frozen? ⟨b,3,none⟩=false:=(World.frozen?_of_block (a:=⟨b,3,none⟩) (k8.block b (block_lt_of_cell d3) IU)).trans f3;have e3:w7.cell? ⟨b,3,none⟩=some (.slice xZ m6.length x8):=k8.cell (by exact d3) IU;have Q9:=Lib.hid (fun m=>xX.step iW.out.1 iW.out.2.1 iW.out.2.2.1 iW.out.2.2.2.1 iW.out.2.2.2.2.1 g9.out Eg.out ri.out ya.out HJ.out (by rw [Q8.out,HX.out];exact r7) k8 s7 m);clear r7 k7 s7 k8)
       all_goals
        go_wp2_with fail
        go_roundw
        case rel=>exact ⟨k + 1,ue.out,Q9.out 0⟩
        case measure=>simp [AA]
      ·have AF:Hid (Eb w b size most (.slice (some ⟨gT,iU,none⟩) s.C.length cap) (.slice (some ⟨gH,ki,none⟩) s.H.length uj) s.f o (s.M ++ c.reverse.take (Po.dS most c)) U Tm (.slice AD (c.length - k) vD) wr):=Lib.hid (by
        have hN:c.length - most / 2=k:=by omega
        rw [← Ee.out,Q6.out,hN];exact ⟨AD,vD,Ef,T6,by simp,dF,gG,kj,nL,lV⟩)
       obtain ⟨m,hm⟩:∃ m,c.length - k=m:=⟨_,rfl⟩
       rw [hm] at AF ⊢;have ZV:decide ((most:Int) / 2 < (m:Int))=false:=by simp;omega
       have ZW:m≤64:=by omega
       clear dF gG kj nL lV hk qZ hm
       go_wp2_with fail
       go_meet
       exact AF.out
    | false =>
     have h0:¬ c.length=most:=by have:=HQ.out;simpa using this
     have AF:Hid (Eb w b size most (.slice (some ⟨gT,iU,none⟩) s.C.length cap) (.slice (some ⟨gH,ki,none⟩) s.H.length uj) s.f o (s.M ++ c.reverse.take (Po.dS most c)) U Tm (.slice vz c.length oJ) w):=Lib.hid (by
      have e1:Po.dS most c=0:=by simp [Po.dS,h0]
      have e2:o=c:=by rw [← Ee.out,e1];simp
      rw [e1,e2];exact ⟨vz,oJ,vm,Tm,rfl,aj.refl _ _,HB.out,HR.out,by simpa using HM.out,fun x hx=>.inl hx⟩)
     clear h0
     go_wp2_with fail
     go_meet
     exact AF.out
   case rest =>
    obtain ⟨AD,vD,Ef,T6,rfl,dF,gG,kj,nL,lV⟩:=hcut;have AG:=iW.out;have d2:wc.cell? ⟨b,2,none⟩=some (.slice (some ⟨gT,iU,none⟩) s.C.length cap):=gG.cell 2;have e5:wc.cell? ⟨b,5,none⟩=some (.slice (some ⟨gH,ki,none⟩) s.H.length uj):=gG.cell 5;have IX:gH∉(b :: Tm):=by simp;exact ⟨fun h=>n2 h.symm,AG.2.2.2.2.2.2.1⟩
    have IY:gT∉(b :: Tm):=by simp;exact ⟨fun h=>n1 h.symm,AG.2.2.2.2.2.1⟩
    have eH:=dF.cell cH IX;have eT:=dF.cell cT IY;have Ra:wc.frozen? ⟨gH,ki + x,none⟩=false:=(World.frozen?_of_block (a:=⟨gH,ki + x,none⟩) (dF.block gH Q5 IX)).trans fH;have Rb:wc.frozen? ⟨gT,iU + n,none⟩=false:=(World.frozen?_of_block (a:=⟨gT,iU + n,none⟩) (dF.block gT Ed IY)).trans fT;have ZX:(x:Int) < (s.H.length:Int):=by omega
    have g9:=Lib.hid dF;have Eg:=Lib.hid gG;have ri:=Lib.hid kj;have x9:=Lib.hid nL;have ya:=Lib.hid lV;clear dF gG kj nL lV AG
    go_wp2_with fail
    obtain ⟨xZ,x8,ZY⟩:=x9.out.shape;have ZZ:(wc.alloc (.cells #[.int .i64 (x:Int)] 3)).drew.cell? ⟨b,2,none⟩=some (.slice (some ⟨gT,iU,none⟩) s.C.length cap):=(World.cell?_alloc_past _ _ _ (block_lt_of_cell d2)).trans d2;have IZ:gT∉U:=Q4
    go_region_law (refine CH sk (ri.out.then ((aj.refl [] wc).drew)) (by omega) ?_;intro nN nM w7 U7 r7 k7 s7;have k8:aj U wc w7:=((aj.refl U wc).drew).trans k7 (fun x hx=>.inl hx);have g7:w7.frozen? ⟨gT,iU + n,none⟩=false:=(World.frozen?_of_block (a:=⟨gT,iU + n,none⟩) (k8.block gT (block_lt_of_cell eT) IZ)).trans Rb;have e7:w7.cell? ⟨gT,iU + n,none⟩=some (.slice vz c.length oJ):=k8.cell eT IZ;have Z0:w7.cell? ⟨b,2,none⟩=some (.slice (some ⟨gT,iU,none⟩) s.C.length cap):=k8.cell d2 iW.out.1;have Z1:w7.cell? ⟨b,5,none⟩=some (.slice (some ⟨gH,ki,none⟩) s.H.length uj):=k8.cell e5 iW.out.1;have Z2:w7.cell? ⟨gH,ki + x,none⟩=some (.bool t0):=k8.cell eH iW.out.2.2.2.2.2.2.2;have Z3:w7.frozen? ⟨gH,ki + x,none⟩=false:=(World.frozen?_of_block (a:=⟨gH,ki + x,none⟩) (k8.block gH (block_lt_of_cell eH) iW.out.2.2.2.2.2.2.2)).trans Ra;have R7:=Lib.hid r7;have K8:=Lib.hid k8;have S7:=Lib.hid s7;clear r7 k7 s7 k8)
    all_goals
     obtain ⟨S',I0,I3,I4⟩:=QI (t:=true) (Ax:=Ef) (M':=s.M ++ c.reverse.take (Po.dS most c)) (lU:=T6) rfl rfl iW.out.2.2.2.1 HC.out HH.out HM.out HA.out HK.out HU.out
      ((g9.out.mono (T:=b :: (U ++ Tm)) (fun y hy=>by left;simp at hy ⊢;rcases hy with h | h <;> simp [h])).trans K8.out (fun y hy=>by left;simp [hy])) (Eg.out.aT K8.out iW.out.1) R7.out (fun y hy=>by
       rcases S7.out y hy with h | h
       ·exact .inl h
       ·have:=g9.out.size;have h':wc.heap.size≤y:=h;omega) (x9.out.aT K8.out (fun y hy hu=>by
        rcases ya.out y hy with h | h
        ·exact iW.out.2.2.1 y h hu
        ·have:=iW.out.2.2.2.2.1 y hu;omega)) ya.out (fun y hy xW=>by
       rcases S7.out y hy with h | h
       ·rcases ya.out y xW with h1 | h1
        ·exact iW.out.2.2.1 y h1 h
        ·have:=iW.out.2.2.2.2.1 y h;omega
       ·have:=x9.out.lt y xW;have h':wc.heap.size≤y:=h;omega) IQ
     have Rc:=Lib.hid I0;have lC:=Lib.hid I3;have Rd:=Lib.hid I4;clear I0 I3 I4
     go_wp2_with fail
     go_ret
     unfold AB;rw [Q3.out];refine ⟨rfl,S',?_,lC.out,Rd.out⟩
     show Pl _ _ _ _ (s.C.set n (c.take (c.length - Po.dS most c) ++ [(x:Int)])) _ _ (s.H.set ((x:Int)).toNat true) S';rw [Ee.out,Int.toNat_natCast];exact Rc.out
namespace Po
def fits (size cj most:Int):Bool:=decide (0≤size∧size≤64∧0≤cj∧cj≤8∧1≤most∧most≤16)
theorem I5 {size cj most:Int} (h:fits size cj most=true):0≤size∧size≤64∧0≤cj∧cj≤8∧1≤most∧most≤16:=by simpa [fits] using h
end Po
open Go.RowKit
namespace Po
def new (size cj:Nat):St:=⟨List.replicate cj [],[],0,List.replicate size false⟩
end Po
theorem I6 (w:World) (size cj most:Int) :
  Calls Tryz.prog 175 #[.int .i64 size,.int .i64 cj,.int .i64 most] w fun e w'=>e=.returned (.bool (Po.fits size cj most))∧w=w':=by
 have yb:size < 0∨(0≤size∧64 < size)∨(0≤size∧size≤64∧cj < 0)∨(0≤size∧size≤64∧0≤cj∧8 < cj)∨(0≤size∧size≤64∧0≤cj∧cj≤8∧most < 1)∨(0≤size∧size≤64∧0≤cj∧cj≤8∧1≤most∧16 < most)∨(0≤size∧size≤64∧0≤cj∧cj≤8∧1≤most∧most≤16):=by omega
 obtain ⟨c,hc⟩:∃ c,c=Po.fits size cj most:=⟨_,rfl⟩
 have HC:=Lib.hid hc;rw [← hc];clear hc;rcases yb with h1 | ⟨h1,h2⟩ | ⟨h1,h2,h3⟩ | ⟨h1,h2,h3,h4⟩ | ⟨h1,h2,h3,h4,h5⟩ | ⟨h1,h2,h3,h4,h5,h6⟩ | ⟨h1,h2,h3,h4,h5,h6⟩
 all_goals go_enter Tryz.func175,Tryz.ntmps175
 all_goals go_wp2_with fail
 all_goals go_ret
 all_goals exact ⟨cS (by rw [HC.out,Bool.eq_iff_iff];simp [Po.fits];omega),rfl⟩
theorem NR.made {w:World} {v:Value} {es e:TypeId} {n:Nat} {T:List Nat} (h:Row w v es 1 n (List.replicate n (.slice none 0 0)) T):NR w v es e (List.replicate n []) T (List.replicate n []):=by
 refine ⟨List.replicate n (.slice none 0 0),by simpa using h,by simp,?_,?_,?_⟩
 ·intro k x U l a b c;obtain ⟨_,rfl⟩:=List.getElem?_eq_some_iff.1 a;obtain ⟨_,rfl⟩:=List.getElem?_eq_some_iff.1 b;obtain ⟨_,rfl⟩:=List.getElem?_eq_some_iff.1 c;simp only [List.getElem_replicate];exact IR.nil w e
 ·intro U hU x hx;rw [(List.mem_replicate.1 hU).2] at hx;cases hx
 ·intro i j A B _ hA hB x hx;obtain ⟨_,rfl⟩:=List.getElem?_eq_some_iff.1 hA;simp at hx
theorem I7 (z:Value) (n:Nat):madeCells #[z] n=(List.replicate n z).toArray:=by
 apply Array.toList_inj.1;rw [toList_madeCells_one]
def I8 (size cj most:Nat) (w:World) (e:Ending) (w':World):Prop :=
 ∃ p S,e=.returned (.tuple #[p,.int .i64 0])∧aj [] w w'∧PS w' p size most (Po.new size cj) S∧∀ k∈S,w.heap.size≤k
theorem I9 {w W:World} {b g h:Nat} {size cj most:Nat} (hw:aj [] w W) (hb:cI W b [.int .i64 size,.int .i64 most,.slice (some ⟨g,0,none⟩) cj cj,.slice none 0 0,.int .i64 ((0:Nat):Int),.slice (some ⟨h,0,none⟩) size size] 155)
  (hg:Row W (.slice (some ⟨g,0,none⟩) cj cj) 28 1 cj (List.replicate cj (.slice none 0 0)) [g])
  (hh:Row W (.slice (some ⟨h,0,none⟩) size size) 4 1 size (List.replicate size (.bool false)) [h])
  (h1:b≠g) (h2:b≠h) (h3:g≠h) (k1:w.heap.size≤b) (k2:w.heap.size≤g) (k3:w.heap.size≤h) :
  I8 size cj most w (.returned (.tuple #[.pointer (some ⟨b,0,none⟩),.int .i64 0])) W:=by
 have kZ:(List.replicate cj ([]:List Nat)).flatten=[]:=by
  clear hb hg
  induction cj with
  | zero=>rfl
  | succ n ih=>rw [List.replicate_succ,List.flatten_cons,ih];rfl
 refine ⟨_,b :: ([g] ++ (List.replicate cj ([]:List Nat)).flatten ++ [] ++ [h]),rfl,hw,⟨b,.slice (some ⟨g,0,none⟩) cj cj,.slice none 0 0,.slice (some ⟨h,0,none⟩) size size,[g],List.replicate cj [],[],[h],rfl,hb,NR.made hg,IR.nil _ _,?_,?_,rfl⟩,?_⟩
 ·unfold BR Po.new;simpa using hh
 ·simp only [fA,kZ,List.pairwise_cons,List.mem_cons,List.not_mem_nil,or_false,forall_eq_or_imp,forall_eq,List.Pairwise.nil,and_true,List.mem_singleton];simp [h1,h2,h3]
 ·rw [kZ];intro k hk;simp at hk;rcases hk with rfl | rfl | rfl <;> assumption
theorem AH (w:World) (z:Value) (n:Nat) (e:TypeId) (b:Nat) (hn:n≤1000) (hb:b=w.heap.size):Row (w.alloc (.cells (Array.replicate n z) e)) (.slice (some ⟨b,0,none⟩) n n) e 1 n (List.replicate n z) [b]:=by
 subst hb;have:=Row.lit w (List.replicate n z) e 1 n (by simp) (by simp [maxLen];omega);simpa using this
theorem Ja (w:World) (cs:List Value) (e:TypeId) (b:Nat) (hb:b=w.heap.size):cI (w.alloc (.cells cs.toArray e)) b cs e:=by subst hb;exact cI.new w cs e
set_option maxHeartbeats 800000 in
theorem Jb (w:World) (size cj most:Nat) (h1:size≤64) (h2:cj≤8) (h3:1≤most) (h4:most≤16) :
  Calls Tryz.prog 120 #[.int .i64 size,.int .i64 cj,.int .i64 most] w (I8 size cj most w):=by
 have Jc:∀ w:World,(Instr.makeSlice 33 (.int .i64 (cj:Int)) (.int .i64 (cj:Int))).run Tryz.prog w=.ok (.slice (some ⟨w.heap.size,0,none⟩) cj cj) (w.alloc (.cells (List.replicate cj (.slice none 0 0)).toArray 28)):=fun w=>by
  rw [← I7];exact run_make_row' 33 28 (.slice none 0 0) 24 Tryz.underlying33 (by kernel_rfl) rfl .i64 .i64 cj (by omega) (by omega) w
 have Jd:∀ w:World,(Instr.makeSlice 75 (.int .i64 (size:Int)) (.int .i64 (size:Int))).run Tryz.prog w=.ok (.slice (some ⟨w.heap.size,0,none⟩) size size) (w.alloc (.cells (List.replicate size (.bool false)).toArray 4)):=fun w=>by
  rw [← I7];exact run_make_row' 75 4 (.bool false) 1 Tryz.underlying75 (by kernel_rfl) rfl .i64 .i64 size (by omega) (by omega) w
 have hf:Po.fits size cj most=true:=by simp [Po.fits];omega
 go_enter Tryz.func120,Tryz.ntmps120
 go_wp2_with fail
 refine (I6 _ _ _ _).mono ?_
 rintro e w1 ⟨rfl,rfl⟩
 rw [hf]
 go_wp2_with fail
 go_region
 all_goals go_wp2_with fail
 all_goals go_ret2
 ·refine I9 (b:=w.heap.size + 1 + 1) (g:=w.heap.size) (h:=w.heap.size + 1) (((((aj.refl [] w).alloc _).alloc _).alloc _).drew) ?_ ?_ ?_ (by omega) (by omega) (by omega) (by omega) (by omega) (by omega)
  ·exact (Ja _ _ _ _ (by simp)).drew
  ·exact Row.then (Row.alloc (Row.alloc (AH w _ _ _ _ (by omega) rfl) _) _) (aj.refl [] _).drew
  ·exact Row.then (Row.alloc (AH _ _ _ _ _ (by omega) (by simp)) _) (aj.refl [] _).drew
 ·refine I9 (b:=w.heap.size + 1 + 1) (h:=w.heap.size) (g:=w.heap.size + 1) (((((aj.refl [] w).alloc _).alloc _).alloc _).drew) ?_ ?_ ?_ (by omega) (by omega) (by omega) (by omega) (by omega) (by omega)
  ·exact (Ja _ _ _ _ (by simp)).drew
  ·exact Row.then (Row.alloc (AH _ _ _ _ _ (by omega) (by simp)) _) (aj.refl [] _).drew
  ·exact Row.then (Row.alloc (Row.alloc (AH w _ _ _ _ (by omega) rfl) _) _) (aj.refl [] _).drew
def Re (w:World) (e:Ending) (w':World):Prop:=e=.returned (.tuple #[.pointer none,.int .i64 1])∧w=w'
theorem Rf (w:World) (size cj most:Int) (h:Po.fits size cj most=false) :
  Calls Tryz.prog 120 #[.int .i64 size,.int .i64 cj,.int .i64 most] w (Re w):=by
 go_enter Tryz.func120,Tryz.ntmps120
 go_wp2_with fail
 refine (I6 _ _ _ _).mono ?_
 rintro e w1 ⟨rfl,rfl⟩
 rw [h]
 go_wp2_with fail
 go_ret2
 exact ⟨rfl,rfl⟩
open Go.RowKit
def Je (w w':World) (S:List Nat):Prop:=aj [] w w'∧∀ k∈S,w.heap.size≤k
open Go.RowKit
namespace Qu
theorem Rh {l:List Int} (h:∀ a,l.count a≤1) {i:Nat} (hi:i < l.length):eJ l (l.getD i (-1))=l.getD (i + 1) (-1):=by
 obtain ⟨x,hx⟩:∃ x,l[i]=x:=⟨_,rfl⟩
 have e0:l.getD i (-1)=x:=by rw [List.getD_eq_getElem?_getD,List.getElem?_eq_getElem hi,← hx];rfl
 have e1:l=l.take i ++ x :: l.drop (i + 1):=by rw [← hx,← List.drop_eq_getElem_cons hi,List.take_append_drop]
 have e2:l.getD (i + 1) (-1)=(l.drop (i + 1)).headD (-1):=by rw [List.getD_eq_getElem?_getD,List.headD_eq_head?_getD,List.head?_drop]
 have h3:l.count x=(l.take i).count x + (x :: l.drop (i + 1)).count x:=by
  rw [← List.count_append,← e1]
 have hn:x∉l.take i:=fun hm=>by
  have h1:=List.count_pos_iff.2 hm;have h2:=h x;rw [List.count_cons_self] at h3;omega
 rw [e0,e2];generalize l.take i=a at *;generalize l.drop (i + 1)=b at *;rw [e1,vn hn,eJ,if_pos rfl]
end Qu
set_option maxHeartbeats 1600000 in
theorem Ri (w:World) (p:Value) (n:Nat) (R:List (List Int)) (S:List Nat) (k:Int) (h:Qq w p n R S) :
  Calls Tryz.prog 69 #[p,.int .i64 k] w (Dy (Qu.row R k) w):=by
 obtain ⟨b,rfl⟩:=h.shape;have H:=Lib.hid h
 cases hk:Qu.line R k with
 | false =>
  have HF:Hid (Qu.row R k=[]):=Lib.hid (by simp [Qu.row,hk]);clear h
  go_enter Tryz.func69,Tryz.ntmps69
  go_wp2_with fail
  refine (pX _ _ _ _ _ _ H.out).mono ?_
  rintro e w1 ⟨rfl,rfl⟩
  rw [hk]
  go_wp2_with fail
  go_ret
  exact ⟨_,[],rfl,aj.refl _ _,by rw [HF.out];exact IV.nil _,by simp⟩
 | true =>
  obtain ⟨j,rfl,hj⟩:=Qu.DQ hk;obtain ⟨g2,o2,c2,c1,d0,d2⟩:=h.Ik hj;have hv:=h.inv;have hr:=hv.tX;have Qy:=hv.tW;have HF:Hid (Qu.row R j=R.getD j []):=Lib.hid (Qu.Ap hj);have sy:=fun a=>Nat.le_trans (Qu.count_le hj (R:=R) a) (hv.one a)
  have kf:=fun z hz=>hv.bound z (Qu.pR hj (y:=z) hz)
  have uk:=fun z hz=>Qu.vr hv hj (y:=z) hz
  have hlen:=Qu.Ao sy kf;obtain ⟨l,hl⟩:∃ l,R.getD j []=l:=⟨_,rfl⟩
  rw [hl] at sy kf uk hlen d0 d2;rw [hl] at HF;have HO:=Lib.hid sy;have DU:=Lib.hid kf;have Rj:=Lib.hid uk;have AI:l.length≤64:=by omega
  have gG:b < w.heap.size:=block_lt_of_cell c1;have HH:Hid (l.headD (-1)=l.getD 0 (-1)):=Lib.hid (by cases l <;> rfl);rw [HH.out] at d0;clear h hv sy kf uk hl hlen
  go_enter Tryz.func69,Tryz.ntmps69
  go_wp2_with fail
  refine (pX _ _ _ _ _ _ H.out).mono ?_
  rintro e w1 ⟨rfl,rfl⟩
  rw [hk];obtain ⟨x0,pN⟩:∃ x,l.getD 0 (-1)=x:=⟨_,rfl⟩
  have Rk:=Lib.hid pN;rw [pN] at d0;clear pN
  go_wp2_with (at_make;go_must (refine GR sk l.length (by omega) ?_ (hC:=rfl));intro w1 r1 k1;have Rl:=k1.cell c1 (by simp);have Rm:=k1.cell d0 (by simp))
  have qX:=Lib.hid k1;have mI:Hid (IR w1 (.slice (some ⟨w.heap.size,0,none⟩) 0 l.length) 3 (l.take 0) [w.heap.size]):=Lib.hid (by simpa [IR] using r1);clear r1 k1 Rl Rm
  go_loopw [5,6] (fun v5 v6 wr=>∃ (i:Nat) (T:List Nat),i≤l.length∧v6=.int .i64 (l.getD i (-1))∧aj [] w wr∧IR wr v5 3 (l.take i) T∧∀ x∈T,w.heap.size≤x) (fun v5 _ _=>l.length - AA v5)
  case atStart=>exact ⟨0,[w.heap.size],Nat.zero_le _,by rw [Rk.out],qX.out,mI.out,by simp⟩
  case round =>
   obtain ⟨i,T,hi,rfl,dF,kj,hT⟩:=hrel;obtain ⟨li,AJ⟩:∃ li,l.take i=li:=⟨_,rfl⟩
   have Eh:li.length=i:=by rw [← AJ];simp;omega
   rw [AJ] at kj;obtain ⟨ao,cap,rfl⟩:=kj.shape;have g9:=Lib.hid dF;have ri:=Lib.hid kj;have HT:=Lib.hid hT;have Jf:=Lib.hid AJ;have Z4:=Lib.hid Eh;have Z5:li.length≤64:=by omega
   clear kj hT AJ
   by_cases cA:i < l.length
   ·have hm:l.getD i (-1)∈l:=by rw [List.getD_eq_getElem?_getD,List.getElem?_eq_getElem cA];simp
    have hb:=DU.out _ hm;obtain ⟨y,hy⟩:=Int.eq_ofNat_of_zero_le hb.1;have At:y < n:=by omega
    obtain ⟨g1,o1,c1,e0,um,_,e2⟩:=(H.out.then g9.out).DR At;have Ei:=Qu.Rh HO.out cA;have uk:=Rj.out _ hm;rw [hy] at uk Ei ⊢;rw [uk,Ei] at e2;have HS:Hid (l.take (i + 1)=li ++ [(y:Int)]):=Lib.hid (by
     rw [List.take_succ_eq_append_getElem cA,Jf.out,← hy,List.getD_eq_getElem?_getD,List.getElem?_eq_getElem cA];rfl)
    obtain ⟨nx,Ej⟩:∃ nx,l.getD (i + 1) (-1)=nx:=⟨_,rfl⟩
    have Ro:=Lib.hid Ej;simp only [Ej] at e2;have Iq:(y:Int) < (n:Int):=by omega
    have Rp:((y:Int) != -1)=true:=by simp
    have Z6:li.length < l.length:=by rw [Eh];exact cA
    clear hm hb hy Ei uk Ej dF Eh
    go_wp2_with (at_builtin;go_must (refine Oa sk ri.out (by omega) ?_))
    intro nN nM w7 T7 r7 k7 s7;have f0:w7.cell? ⟨b,0,none⟩=some (.slice (some ⟨g1,o1,none⟩) n c1):=k7.cell e0 (fun hm=>by have:=HT.out b hm;omega);have f2:w7.cell? ⟨g1,o1 + y * 3 + 1,none⟩=some (.int .i64 nx):=k7.cell e2 (fun hm=>by have:=HT.out g1 hm;have:=H.out.lt g1 um;omega);have Ek:=Lib.hid (g9.out.trans k7 (fun x hx=>.inr (HT.out x hx)));have Rq:Hid (IR w7 (.slice nN (li.length + 1) nM) 3 (l.take (i + 1)) T7):=Lib.hid (by rw [HS.out];exact r7);have Rr:Hid (∀ x∈T7,w.heap.size≤x):=Lib.hid (fun x hx=>by
     rcases s7 x hx with h | h
     ·exact HT.out x h
     ·have:=g9.out.size;omega)
    clear r7 k7 s7 e0 e2
    go_wp2_with fail
    go_roundw
    case rel=>exact ⟨i + 1,T7,by omega,by rw [Ro.out],Ek.out,Rq.out,Rr.out⟩
    case measure=>simp [AA];omega
   ·obtain rfl:i=l.length:=by omega
    have sw:l.getD l.length (-1)=-1:=by simp
    rw [sw];have Rs:Hid (IV wr (.slice ao li.length cap) l T):=Lib.hid (by have h1:=ri.out.iv;have h2:=Jf.out;rw [List.take_length] at h2;rw [← h2] at h1 ⊢;exact h1);clear sw
    go_wp2_with fail
    go_ret
    exact ⟨_,T,rfl,g9.out,by rw [HF.out];exact Rs.out,HT.out⟩
open Go.RowKit
theorem Jg {P:Program} (t e:TypeId) (z:Value) (bytes:Nat) (ht:P.underlying t=some (.slice e)) (Rt:(P.info? e).map (fun i=>(i.zero,i.size,i.bytes))=some (some z,3,bytes))
  (n:Nat) (Z7:bytes * n≤281474976710656) (GI:n≤1000) (w:World) :
  (Instr.makeSlice t (.int .i64 (n:Int)) (.int .i64 (n:Int))).run P w=.ok (.slice (some ⟨w.heap.size,0,none⟩) n n) (w.alloc (.cells (madeCells z.cells (n * 3)) e)):=by
 obtain ⟨i,hi,Jh⟩:=Option.map_eq_some_iff.1 Rt;simp only [Prod.mk.injEq] at Jh;obtain ⟨hz,hs,hb⟩:=Jh;have oH:(i.bytes:Int) * (n:Int)≤281474976710656:=by
  have h:((i.bytes * n:Nat):Int)≤281474976710656:=by rw [hb];omega
  rwa [Int.natCast_mul] at h
 have hr:=run_make (P:=P) w t e i z ht hi hz .i64 .i64 n n (by omega) (Int.le_refl _) oH (by omega);simp only [Int.toNat_natCast,hs] at hr;exact hr
theorem AK (w:World) (z:Array Value) (n:Nat) (e:TypeId) (b:Nat) (hn:n≤1000) (hb:b=w.heap.size):Row (w.alloc (.cells (madeCells z (n * 3)) e)) (.slice (some ⟨b,0,none⟩) n n) e 3 n (madeCells z (n * 3)).toList [b]:=by
 subst hb;have:=Row.lit w (madeCells z (n * 3)).toList e 3 n (by simp [size_madeCells]) (by simp [maxLen];omega)
 rwa [Array.toArray_toList] at this
theorem yc {α:Type} (a b:α) (N k:Nat) (h:k < N):(List.replicate k a ++ List.replicate (N - k) b).set k a=List.replicate (k + 1) a ++ List.replicate (N - (k + 1)) b:=by
 rw [List.set_append_right _ _ (by simp),List.replicate_succ',List.append_assoc]
 congr 1
 rw [show N - k=(N - (k + 1)) + 1 by omega,List.replicate_succ];simp
theorem cV.Ru {w:World} {b g1 o1 c1 g2 o2 c2:Nat} {A B:List (Int × Int × Int)} (h:cV w b g1 o1 c1 g2 o2 c2 A B) {x:Nat} (hx:x < B.length) (a c d:Int) :
  cV (((w.setCell ⟨g2,o2 + x * 3,none⟩ (.int .i64 a)).setCell ⟨g2,o2 + x * 3 + 1,none⟩ (.int .i64 c)).setCell ⟨g2,o2 + x * 3 + 2,none⟩ (.int .i64 d)) b g1 o1 c1 g2 o2 c2 A (B.set x (a,c,d)):=by
 have e:=List.getElem?_eq_getElem hx;have h1:=h.l0 e a;have h2:=h1.l1 (x:=x) (t:=(a,B[x].2)) (by simp [hx]) c;have h3:=h2.l2 (x:=x) (t:=(a,c,B[x].2.2)) (by simp [hx]) d;simpa using h3
namespace Qu
theorem El (m:Nat):(List.replicate m ([]:List Int)).flatten=[]:=by
 induction m with
 | zero=>rfl
 | succ n ih=>rw [List.replicate_succ,List.flatten_cons,ih];rfl
theorem Rv (n m:Nat) (h1:n≤64) (h2:m≤64):Inv n (List.replicate m []) :=
 ⟨h1,by simpa using h2,fun a=>by rw [El];simp,fun a h=>by rw [El] at h;simp at h⟩
theorem Rw (n m:Nat):th n (List.replicate m [])=List.replicate n (-1,-1,-1):=by
 symm
 refine Am (by simp) (fun x hx=>?_);rw [An (qR.2 (by rw [El];simp))];simp [hx]
theorem Rx (m:Nat):ln (List.replicate m [])=List.replicate m (-1,-1,0):=by simp [ln,lc]
end Qu
def Ry (n m:Nat) (w:World) (e:Ending) (w':World):Prop :=
 ∃ p S,e=.returned (.tuple #[p,.int .i64 0])∧Je w w' S∧Qq w' p n (List.replicate m []) S
def Ji (n m:Nat) (w:World) (v:Value) (w':World):Prop :=
 ∃ b g1 g2,v=.pointer (some ⟨b,0,none⟩)∧cV w' b g1 0 n g2 0 m (List.replicate n (0,0,0)) (List.replicate m (0,0,0))∧Je w w' [b,g1,g2]
theorem Jj {w W:World} {n m b g1 g2:Nat} (hb:cI W b [.slice (some ⟨g1,0,none⟩) n n,.slice (some ⟨g2,0,none⟩) m m] 149)
  (h1:Row W (.slice (some ⟨g1,0,none⟩) n n) 151 3 n (madeCells #[.int .i64 0,.int .i64 0,.int .i64 0] (n * 3)).toList [g1]) (h2:Row W (.slice (some ⟨g2,0,none⟩) m m) 153 3 m (madeCells #[.int .i64 0,.int .i64 0,.int .i64 0] (m * 3)).toList [g2])
  (hk:aj [] w W) (a1:w.heap.size≤b) (a2:w.heap.size≤g1) (a3:w.heap.size≤g2) (d1:b≠g1) (d2:b≠g2) (d3:g1≠g2):Ji n m w (.pointer (some ⟨b,0,none⟩)) W:=by
 refine ⟨b,g1,g2,rfl,⟨?_,?_,?_,d1,d2,d3⟩,hk,fun k h=>?_⟩
 ·rw [List.length_replicate,List.length_replicate];exact hb
 ·have:=ER.made pW (x0:=(0,0,0)) rfl (by omega) h1;rw [List.length_replicate];exact this
 ·have:=ER.made pW (x0:=(0,0,0)) rfl (by omega) h2;rw [List.length_replicate];exact this
 ·simp at h;rcases h with rfl | rfl | rfl <;> assumption
set_option maxHeartbeats 1600000 in
theorem Rz (w:World) (n m:Nat) (h1:n≤64) (h2:m≤64) :
  Calls Tryz.prog 54 #[.int .i64 n,.int .i64 m] w (Ry n m w):=by
 have Jc:∀ w:World,(Instr.makeSlice 146 (.int .i64 (n:Int)) (.int .i64 (n:Int))).run Tryz.prog w=.ok (.slice (some ⟨w.heap.size,0,none⟩) n n) (w.alloc (.cells (madeCells #[.int .i64 0,.int .i64 0,.int .i64 0] (n * 3)) 151)):=fun w =>
  Jg 146 151 (.agg #[.int .i64 0,.int .i64 0,.int .i64 0]) 24 Tryz.underlying146 (by kernel_rfl) n (by omega) (by omega) w
 have Jd:∀ w:World,(Instr.makeSlice 147 (.int .i64 (m:Int)) (.int .i64 (m:Int))).run Tryz.prog w=.ok (.slice (some ⟨w.heap.size,0,none⟩) m m) (w.alloc (.cells (madeCells #[.int .i64 0,.int .i64 0,.int .i64 0] (m * 3)) 153)):=fun w =>
  Jg 147 153 (.agg #[.int .i64 0,.int .i64 0,.int .i64 0]) 24 Tryz.underlying147 (by kernel_rfl) m (by omega) (by omega) w
 have b1:(n:Int)≤64:=by omega
 have b2:(m:Int)≤64:=by omega
 have z1:decide ((n:Int) < 0)=false:=by simp
 have z2:decide ((m:Int) < 0)=false:=by simp
 have z3:decide ((64:Int) < (n:Int))=false:=by simp;omega
 have z4:decide ((64:Int) < (m:Int))=false:=by simp;omega
 go_enter Tryz.func54,Tryz.ntmps54
 go_upto_region 4 with fail
 go_cut [6] (fun v6 w'=>Ji n m w v6 w')
 case first =>
  go_wp2_with fail
  go_region
  all_goals go_wp2_with fail
  all_goals go_meet
  ·exact Jj (As _ _ _ _ (by simp)).drew (Row.then (Row.alloc (Row.alloc (AK w _ n _ _ (by omega) rfl) _) _) (aj.refl [] _).drew) (Row.then (Row.alloc (AK _ _ m _ _ (by omega) (by simp)) _) (aj.refl [] _).drew) (((((aj.refl [] w).alloc _).alloc _).alloc _).drew) (by omega) (by omega) (by omega) (by omega) (by omega) (by omega)
  ·exact Jj (As _ _ _ _ (by simp)).drew (Row.then (Row.alloc (AK _ _ n _ _ (by omega) (by simp)) _) (aj.refl [] _).drew) (Row.then (Row.alloc (Row.alloc (AK w _ m _ _ (by omega) rfl) _) _) (aj.refl [] _).drew) (((((aj.refl [] w).alloc _).alloc _).alloc _).drew) (by omega) (by omega) (by omega) (by omega) (by omega) (by omega)
 case rest =>
  obtain ⟨b,g1,g2,rfl,cM,pI⟩:=hcut;have uo:=Lib.hid pI.2;have Jk:Hid (cV wc b g1 0 n g2 0 m (List.replicate 0 (-1,-1,-1) ++ List.replicate (n - 0) (0,0,0)) (List.replicate m (0,0,0))):=Lib.hid (by simpa using cM);have Jl:=Lib.hid pI.1;obtain ⟨n1,n2,n3⟩:=(⟨cM.2.2.2.1,cM.2.2.2.2.1,cM.2.2.2.2.2⟩:b≠g1∧b≠g2∧g1≠g2)
  obtain ⟨nG,nJ⟩:=cM.head;rw [List.length_replicate] at nG nJ;clear cM pI Jc Jd
  go_wp2_with fail
  go_loopw [7,34] (fun _ Em wr=>∃ i:Nat,i≤n∧Em=.int .i64 i∧cV wr b g1 0 n g2 0 m (List.replicate i (-1,-1,-1) ++ List.replicate (n - i) (0,0,0)) (List.replicate m (0,0,0))∧aj [] w wr) (fun _ Em _=>n - (intOf Em).toNat)
  case atStart=>exact ⟨0,Nat.zero_le _,rfl,Jk.out,Jl.out⟩
  case round =>
   obtain ⟨i,hi,rfl,cM,dF⟩:=hrel;have RB:=Lib.hid cM;have g9:=Lib.hid dF;obtain ⟨nG,nJ⟩:=cM.head;rw [List.length_replicate] at nJ;have nj:(List.replicate i ((-1:Int),(-1:Int),(-1:Int)) ++ List.replicate (n - i) ((0:Int),(0:Int),(0:Int))).length=n:=by simp;omega
   rw [nj] at nG
   by_cases cA:i < n
   ·have uq:i < (List.replicate i ((-1:Int),(-1:Int),(-1:Int)) ++ List.replicate (n - i) (0,0,0)).length:=by simp;omega
    obtain ⟨tt,yd⟩:∃ tt,(List.replicate i ((-1:Int),(-1:Int),(-1:Int)) ++ List.replicate (n - i) (0,0,0))[i]?=some tt:=⟨_,List.getElem?_eq_getElem uq⟩
    obtain ⟨⟨t0,t1,t2⟩,f0,f1,f2⟩:=cM.aI yd;have HN:=Lib.hid (cM.DP uq (-1) (-1) (-1));rw [yc _ _ _ _ cA] at HN;rw [Nat.zero_add] at t0 t1 t2 f0 f1 f2 HN;have RE:(i:Int) < (n:Int):=by omega
    clear cM dF uq yd nj
    go_wp2_with fail
    go_roundw
    case rel=>exact ⟨i + 1,by omega,by go_num,HN.out,(((g9.out.trans ((aj.refl [g1] _).setCell (by simp) _) (fun x hx=>.inr (by simp at hx;subst hx;exact uo.out _ (by simp)))).setCell (.inr (uo.out _ (by simp))) _).setCell (.inr (uo.out _ (by simp))) _)⟩
    case measure=>simp [intOf];omega
   ·obtain rfl:i=n:=by omega
    have mI:Hid (cV wr b g1 0 i g2 0 m (List.replicate i (-1,-1,-1)) (List.replicate 0 (-1,-1,0) ++ List.replicate (m - 0) (0,0,0))):=Lib.hid (by simpa using cM);obtain ⟨wo,rfl⟩:∃ wo:World,wo=wr:=⟨_,rfl⟩
    clear cM dF Jk Jl
    go_wp2_with fail
    go_loopw [8,50] (fun _ En wr=>∃ j:Nat,j≤m∧En=.int .i64 j∧cV wr b g1 0 i g2 0 m (List.replicate i (-1,-1,-1)) (List.replicate j (-1,-1,0) ++ List.replicate (m - j) (0,0,0))∧aj [] w wr) (fun _ En _=>m - (intOf En).toNat)
    case atStart=>exact ⟨0,Nat.zero_le _,rfl,mI.out,g9.out⟩
    case round =>
     obtain ⟨j,hj,rfl,cM,dF⟩:=hrel;have RB:=Lib.hid cM;have Jm:=Lib.hid dF;obtain ⟨nG,nJ⟩:=cM.head;rw [List.length_replicate] at nG;have iS:(List.replicate j ((-1:Int),(-1:Int),(0:Int)) ++ List.replicate (m - j) ((0:Int),(0:Int),(0:Int))).length=m:=by simp;omega
     rw [iS] at nJ
     by_cases qZ:j < m
     ·have uq:j < (List.replicate j ((-1:Int),(-1:Int),(0:Int)) ++ List.replicate (m - j) (0,0,0)).length:=by simp;omega
      obtain ⟨tt,yd⟩:∃ tt,(List.replicate j ((-1:Int),(-1:Int),(0:Int)) ++ List.replicate (m - j) (0,0,0))[j]?=some tt:=⟨_,List.getElem?_eq_getElem uq⟩
      obtain ⟨⟨t0,t1,t2⟩,f0,f1,f2⟩:=cM.line yd;have HN:=Lib.hid (cM.Ru uq (-1) (-1) 0);rw [yc _ _ _ _ qZ] at HN;rw [Nat.zero_add] at t0 t1 t2 f0 f1 f2 HN;have RE:(j:Int) < (m:Int):=by omega
      clear cM dF uq yd iS
      go_wp2_with fail
      go_roundw
      case rel=>exact ⟨j + 1,by omega,by go_num,HN.out,(((Jm.out.trans ((aj.refl [g2] _).setCell (by simp) _) (fun x hx=>.inr (by simp at hx;subst hx;exact uo.out _ (by simp)))).setCell (.inr (uo.out _ (by simp))) _).setCell (.inr (uo.out _ (by simp))) _)⟩
      case measure=>simp [intOf];omega
     ·obtain rfl:j=m:=by omega
      have HQ:Hid (Qq wr (.pointer (some ⟨b,0,none⟩)) i (List.replicate j []) [b,g1,g2]):=Lib.hid (by
       have h:cV wr b g1 0 i g2 0 j (List.replicate i (-1,-1,-1)) (List.replicate j (-1,-1,0)):=by simpa using cM
       exact h.q (Qu.Rw i j).symm (Qu.Rx j).symm (Qu.Rv i j h1 h2))
      clear cM dF
      go_wp2_with fail
      go_ret2
      exact ⟨_,_,rfl,⟨Jm.out,uo.out⟩,HQ.out⟩
open Go.RowKit
namespace Rn
def mL (ps:List Int) (f c:Nat):List Int:=(List.range c).map fun i=>ps.getD ((f + i) % ps.length) 0
theorem Jn (ps:List Int) (f c:Nat):(mL ps f c).length=c:=by simp [mL]
theorem start (l:List Int) (N:Nat) (h:l.length≤N):mL (l ++ List.replicate (N - l.length) 0) 0 l.length=l:=by
 apply List.ext_getElem
 ·simp [mL]
 ·intro i h1 h2;simp only [mL,List.getElem_map,List.getElem_range,List.length_append,List.length_replicate];rw [Nat.zero_add,Nat.mod_eq_of_lt (by omega)];rw [List.getD_eq_getElem?_getD,List.getElem?_append_left h2];simp [h2]
end Rn
open Go.RowKit
theorem AL:jP Tryz.prog 70 2 1 8 (.int .i64 0):=⟨Tryz.underlying70,by kernel_rfl,rfl,by decide,by decide⟩
def Rg (w:World) (p:Value) (N:Nat) (l:List Int) (S:List Nat):Prop :=
 ∃ b v T ps f,p=.pointer (some ⟨b,0,none⟩)∧cI w b [v,.int .i64 ((f:Nat):Int),.int .i64 l.length] 162∧IR w v 2 ps T∧b∉T∧S=b :: T ∧
  ps.length=N∧N≤64∧l=Rn.mL ps f l.length∧l.length≤N∧(f < N∨(N=0∧f=0))
section
variable {w w':World} {p:Value} {N:Nat} {l:List Int} {S T:List Nat}
theorem Rg.aT (h:Rg w p N l S) (k:aj T w w') (hn:∀ x∈S,x∉T):Rg w' p N l S:=by
 obtain ⟨b,v,U,ps,f,rfl,hb,hr,hd,rfl,h⟩:=h;exact ⟨b,v,U,ps,f,rfl,hb.aT k (hn b (by simp)),hr.aT k (fun x hx=>hn x (by simp [hx])),hd,rfl,h⟩
theorem Rg.lt (h:Rg w p N l S):∀ k∈S,k < w.heap.size:=by
 obtain ⟨b,v,U,ps,f,rfl,hb,hr,hd,rfl,h⟩:=h;intro k hk;rcases List.mem_cons.1 hk with rfl | hk
 ·exact hb.lt
 ·exact hr.lt k hk
theorem Rg.shape (h:Rg w p N l S):∃ b,p=.pointer (some ⟨b,0,none⟩):=by obtain ⟨b,_,_,_,_,rfl,_⟩:=h;exact ⟨b,rfl⟩
theorem Rg.le (h:Rg w p N l S):l.length≤N∧N≤64:=by obtain ⟨b,_,_,_,_,rfl,_,_,_,_,_,h1,_,h2,_⟩:=h;exact ⟨h2,h1⟩
end
theorem RF (w:World) (p:Value) (N:Nat) (l:List Int) (S:List Nat) (h:Rg w p N l S) :
  Calls Tryz.prog 66 #[p] w fun e w'=>e=.returned (.int .i64 N)∧w=w':=by
 obtain ⟨b,v,U,ps,f,rfl,hb,hr,hd,rfl,rfl,AM,hl,hle,hf⟩:=h;obtain ⟨ao,cap,rfl⟩:=hr.shape;have c0:w.cell? ⟨b,0,none⟩=some (.slice ao ps.length cap):=hb.cell 0;have hm:ps.length≤9223372036854775807:=by omega
 clear hb hr hd AM hl hle hf
 go_enter Tryz.func66,Tryz.ntmps66
 go_wp2
 go_ret
 exact ⟨rfl,rfl⟩
theorem RG (w:World) (b:Nat) (ao:Option Addr) (n cap f i:Nat) (c0:w.cell? ⟨b,0,none⟩=some (.slice ao n cap)) (c1:w.cell? ⟨b,1,none⟩=some (.int .i64 f)) (hf:f < n) (hn:n≤64) (hi:i≤64) :
  Calls Tryz.prog 132 #[.pointer (some ⟨b,0,none⟩),.int .i64 (i:Int)] w fun e w'=>e=.returned (.int .i64 (((f + i) % n:Nat):Int))∧∃ m,w'=w.drewN m:=by
 have Z8:((n:Int) == 0)=false:=by simp;omega
 have Jo:(0:Int) < n:=by omega
 have Z9:(f:Int)≤64:=by omega
 go_enter Tryz.func132,Tryz.ntmps132
 go_wp2_with fail
 go_quiet (fail)
 go_wp2
 go_ret
 exact ⟨by simp,_,rfl⟩
open Go.RowKit
namespace Rn
theorem RH (ps:List Int) (f k:Nat):mL ps f (k + 1)=mL ps f k ++ [ps.getD ((f + k) % ps.length) 0]:=by
 unfold mL;rw [List.range_succ];simp
end Rn
def RI (l:List Int) (w:World) (e:Ending) (w':World):Prop :=
 ∃ v S,e=.returned v∧aj [] w w'∧IV w' v l S∧∀ k∈S,w.heap.size≤k
set_option maxRecDepth 100000 in
set_option maxHeartbeats 1600000 in
theorem RJ (w:World) (p:Value) (N:Nat) (l:List Int) (S:List Nat) (h:Rg w p N l S) :
  Calls Tryz.prog 67 #[p] w (RI l w):=by
 obtain ⟨b,rfl⟩:=h.shape;have hle:=h.le;obtain ⟨b',sv,U,ps,f,nD,hb,hr,hd,rfl,hN,AM,hl,_,hf⟩:=h;obtain rfl:b=b':=by simpa using nD
 obtain ⟨ao,cap,rfl⟩:=hr.shape;have c0:w.cell? ⟨b,0,none⟩=some (.slice ao ps.length cap):=hb.cell 0;have c1:w.cell? ⟨b,1,none⟩=some (.int .i64 f):=hb.cell 1;have c2:w.cell? ⟨b,2,none⟩=some (.int .i64 l.length):=hb.cell 2;have HB:=Lib.hid hb;have HR:=Lib.hid hr;have HL:=Lib.hid hl;have HF:=Lib.hid hf;have HN:=Lib.hid hN;have AI:l.length≤64:=by omega
 clear hb hr hd nD hl hf hN hle;obtain ⟨c,hc⟩:∃ c,l.length=c:=⟨_,rfl⟩
 have HC:=Lib.hid hc;rw [hc] at c2 AI;clear hc
 go_enter Tryz.func67,Tryz.ntmps67
 go_wp2_with (at_make;go_must (refine GR AL c (by omega) ?_ (hC:=rfl));intro w1 r1 k1;have RK:=k1.cell c2 (by simp))
 have mI:=Lib.hid r1;have qX:=Lib.hid k1;clear r1 k1 RK
 go_loopw [3,14] (fun v i wr=>∃ (k:Nat) (T:List Nat),k≤c∧i=.int .i64 k∧aj [] w wr∧IR wr v 2 (Rn.mL ps f k) T∧∀ x∈T,w.heap.size≤x) (fun _ i _=>c - (intOf i).toNat)
 case atStart=>exact ⟨0,[w.heap.size],Nat.zero_le _,rfl,qX.out,mI.out,by simp⟩
 case round =>
  obtain ⟨k,T,hk,rfl,dF,iu,hT⟩:=hrel;obtain ⟨Pf,Pg,hv⟩:=iu.shape;rw [Rn.Jn] at hv;subst hv;have HK:=Lib.hid dF;have ri:=Lib.hid iu;have HT:=Lib.hid hT;clear dF iu hT
  by_cases cA:k < c
  ·have hcN:c≤ps.length:=by have:=HC.out;have:=HN.out;omega
   have RM:f < ps.length:=by have:=HF.out;have:=HN.out;omega
   have RN:ps.length≤64:=by have:=HN.out;omega
   obtain ⟨j,hj⟩:∃ j,j=(f + k) % ps.length:=⟨_,rfl⟩
   have RO:j < ps.length:=by rw [hj];exact Nat.mod_lt _ (by omega)
   obtain ⟨g,off,rfl,rfl,hg,oC,_⟩:=(HR.out.then HK.out).cells (by omega);have d0:wr.cell? ⟨b,0,none⟩=some (.slice (some ⟨g,off,none⟩) ps.length cap):=HK.out.cell c0 (by simp);have d1:wr.cell? ⟨b,1,none⟩=some (.int .i64 f):=HK.out.cell c1 (by simp);have cg:wr.cell? ⟨g,off + j,none⟩=some (.int .i64 (ps.getD j 0)):=oC j RO;have HJ:=Lib.hid hj;have HV:Hid (Rn.mL ps f (k + 1)=Rn.mL ps f k ++ [ps.getD j 0]):=Lib.hid (by rw [Rn.RH,← hj]);have RQ:Hid ((Rn.mL ps f k).length=k):=Lib.hid (Rn.Jn ps f k);have Ec:b∉T:=fun h=>by have:=HT.out b h;have:=HB.out.lt;omega
   have Ed:g∉T:=fun h=>by have:=HT.out g h;have:=HR.out.lt g (by simp);omega
   clear oC hj;obtain ⟨x,HX⟩:∃ x,Hid (ps.getD j 0=x):=⟨_,rfl⟩
   rw [HX.out] at cg
   go_wp2_with fail
   go_region_held3 (fun w'=>w'.cell? ⟨b,0,none⟩=some (.slice (some ⟨g,off,none⟩) ps.length cap)∧w'.cell? ⟨g,off + j,none⟩=some (.int .i64 x)) (first | exact ⟨d0,cg⟩ | exact ⟨e0,eg⟩ | (refine ⟨(World.cell?_alloc_past _ _ _ (block_lt_of_cell d0)).trans d0,(World.cell?_alloc_past _ _ _ (block_lt_of_cell cg)).trans cg⟩))
    (first
     | (go_at_call 132;refine (RG _ b _ _ cap f k (by exact d0) (by exact d1) RM RN (by omega)).mono ?_;rintro e w2 ⟨rfl,m2,rfl⟩;rw [← HJ.out])
     | (refine CH AL (ri.out.then ((aj.refl [] wr).drewN _)) (by rw [RQ.out];omega) ?_;intro AD vD w6 S6 r6 k6 s6;have e0:w6.cell? ⟨b,0,none⟩=some (.slice (some ⟨g,off,none⟩) ps.length cap):=k6.cell (by exact d0) Ec;have eg:w6.cell? ⟨g,off + j,none⟩=some (.int .i64 x):=k6.cell (by exact cg) Ed;have R6:=Lib.hid r6;have K6:=Lib.hid k6;have RS:=Lib.hid s6;clear r6 k6 s6))
   go_wp2_with fail
   go_roundw
   case rel=>exact ⟨k + 1,S6,by omega,by go_num,HK.out.trans (((aj.refl T wr).drewN _).trans K6.out (fun x hx=>.inl hx)) (fun x hx=>.inr (HT.out x hx)),by rw [HV.out,HX.out];exact R6.out,fun x hx=>by
    rcases RS.out x hx with h | h
    ·exact HT.out x h
    ·have:=HK.out.size;simp at h;omega⟩
   case measure=>simp [intOf];omega
  ·obtain rfl:k=c:=by omega
   go_wp2_with fail
   go_ret
   exact ⟨_,T,rfl,HK.out,by have:=ri.out.iv;rw [← HC.out] at this ⊢;rw [← HL.out] at this;exact this,HT.out⟩
def AN (room:Int) (l:List Int) (w:World) (e:Ending) (w':World):Prop :=
 if 0≤room∧room≤64∧(l.length:Int)≤room then ∃ p S,e=.returned (.tuple #[p,.int .i64 0])∧aj [] w w'∧Rg w' p room.toNat l S∧∀ k∈S,w.heap.size≤k
 else e=.returned (.tuple #[.pointer none,.int .i64 1])∧w'=w
theorem RT (l:List Int) (N:Nat) (h:l.length≤N):List.take (min l.length N) (l.map (Value.int .i64)) ++ List.drop (min l.length N) (List.replicate N (Value.int .i64 0))=(l ++ List.replicate (N - l.length) 0).map (Value.int .i64):=by
 rw [Nat.min_eq_left h,List.take_of_length_le (by simp),List.drop_replicate];simp
set_option maxHeartbeats 800000 in
theorem RU (w:World) (room:Int) (v:Value) (l:List Int) (T:List Nat) (h:IV w v l T) :
  Calls Tryz.prog 129 #[.int .i64 room,v] w (AN room l w):=by
 have hm:=h.le;unfold maxLen at hm;obtain ⟨ao,cap,rfl⟩:=h.shape
 by_cases m9:0≤room∧room≤64∧(l.length:Int)≤room
 ·have Eo:=Lib.hid m9;obtain ⟨h1,h2,h3⟩:=m9;obtain ⟨N,rfl⟩:=Int.eq_ofNat_of_zero_le h1;have H:=Lib.hid h;clear h h1;have RV:N≤64:=by omega
  have Ep:l.length≤N:=by omega
  go_enter Tryz.func129,Tryz.ntmps129
  go_wp2_with (first | (at_make;go_must (refine Cv AL N (by omega) ?_ (hL:=rfl) (hC:=rfl));intro w1 r1 k1;simp only [Nat.mul_one,Value.cells,toList_madeCells_one] at r1;have R1:=Lib.hid r1;have K1:=Lib.hid k1;clear r1 k1) | ((with_reducible show wpList _ _ _ (⟨some 30,_,_,_,_,_⟩ :: _) _ _);go_must (refine N9 AL (Row.alloc R1.out _) (View.then (View.then H.out K1.out) ((aj.refl [] _).alloc _)) (Cr l) ?_);intro w2 r2 k2;have R2:=Lib.hid r2;have K2:=Lib.hid k2;clear r2 k2))
  have cA:w.heap.size < w1.heap.size:=R1.out.lt _ (by simp);have Jp:=(cI.new w1 [.slice (some ⟨w.heap.size,0,none⟩) N N,.int .i64 0,.int .i64 l.length] 162).aT K2.out (by simp;omega);have iu:=R2.out;rw [RT l N Ep] at iu;have lf:(l ++ List.replicate (N - l.length) 0).length=N:=by simp;omega
  have iQ:Rg w2 (.pointer (some ⟨w1.heap.size,0,none⟩)) N l [w1.heap.size,w.heap.size] :=
   ⟨w1.heap.size,_,[w.heap.size],l ++ List.replicate (N - l.length) 0,0,rfl,Jp,by unfold IR;rw [lf];exact iu,by simp;omega,rfl,lf,RV,(Rn.start l N Ep).symm,Ep,by omega⟩
  have RW:=Lib.hid iQ;have RY:=Lib.hid ((K1.out.alloc (.cells #[.slice (some ⟨w.heap.size,0,none⟩) N N,.int .i64 0,.int .i64 l.length] 162)).trans K2.out (by simp));have RZ:=Lib.hid cA;clear Jp iu lf iQ cA
  go_ret2
  unfold AN;rw [if_pos Eo.out];refine ⟨_,[w1.heap.size,w.heap.size],rfl,RY.out,by rw [Int.toNat_natCast];exact RW.out,?_⟩;intro k hk;have:=RZ.out;simp at hk;rcases hk with rfl | rfl <;> omega
 ·have Eo:=Lib.hid m9;clear h;have yb:room < 0∨(0≤room∧64 < room)∨(0≤room∧room≤64∧room < l.length):=by omega
  clear m9;rcases yb with h1 | ⟨h1,h2⟩ | ⟨h1,h2,h3⟩
  all_goals go_enter Tryz.func129,Tryz.ntmps129
  all_goals go_wp2_with fail
  all_goals go_ret2
  all_goals unfold AN
  all_goals rw [if_neg Eo.out]
  all_goals exact ⟨rfl,rfl⟩
end Go.Proofs.YtofnbflkhgammaaGreat
