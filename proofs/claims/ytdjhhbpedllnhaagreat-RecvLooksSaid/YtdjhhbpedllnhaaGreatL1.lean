/-
  What the laws need, part L1.
  Conditions: none.
-/
import Derived.Test.YtdjhhbpedllnhaaGreatA23
import Derived.BigQuiet
import Derived.ChangeOld
import Derived.Deep.CutBlock
import Derived.Deep.DeepCutAuto
import Derived.Deep.DeepFit
import Derived.Deep.DeepMust
import Derived.Deep.DrawnRows
import Derived.Deep.Fields
import Derived.Deep.LoopGhost
import Derived.Deep.MidRow
import Derived.Deep.QuietTactic
import Derived.Deep.RegionHeld3
import Derived.Deep.RegionLaw
import Derived.Deep.Slices
import Derived.Laws.AppendOwnNone
import Derived.Laws.CopyOwn
import Derived.Laws.StructEq
import Derived.Lib.Hide
import Derived.Maps.OwnSet
import Derived.Maps.RangeWalk
import Derived.OpenShut
import Derived.ProofKit
import Derived.WalkKit
set_option linter.unusedVariables false
set_option linter.unusedSimpArgs false
set_option linter.unnecessarySimpa false
set_option maxHeartbeats 2000000
namespace Go.Proofs.YtdjhhbpedllnhaaGreat
open Go.RowKit
open Go.RowKit
section
variable {w w':World} {v:Value} {e:TypeId} {sz n:Nat} {xs:List Value} {S T:List Nat}
end
section
variable {P:Program} {t e:TypeId} {sz bytes:Nat} {z:Value}
end
open Go.RowKit Go.ChangeShapes Go.WideShapes Go.Deep
section
variable {H:Type} {enc:TypeId × Value→H} {P:Program} {w:World} {base:Nat} {spare:Nat→Bool} {held:Bool}
end
open Go.RowKit
section
variable {w w':World} {v:Value} {l:List Int} {S T:List Nat} {e:TypeId}
theorem IR.stored {g off m cap:Nat} (h:IR w (.slice (some ⟨g,off,none⟩) m cap) e l S) (j:Nat) (hj:j < l.length) (u:Int) :
  IR (w.setCell ⟨g,off + j,none⟩ (.int .i64 u)) (.slice (some ⟨g,off,none⟩) m cap) e (l.set j u) S∧aq S w (w.setCell ⟨g,off + j,none⟩ (.int .i64 u)):=by
 have:=Row.stored h j (by simpa using hj) (.int .i64 u);refine ⟨?_,this.2⟩;unfold IR;simpa using this.1
end
section
variable {P:Program} {t e:TypeId} {bytes:Nat} {z:Value}
end
open Go.RowKit
section
variable {α:Type} {f:α→List Value} {sz:Nat}
end
section
variable {α:Type} {f:α→List Value} {sz:Nat}
end
section
variable {α:Type} {f:α→List Value} {sz:Nat} {w w':World} {v:Value} {l:List α} {S T:List Nat} {e:TypeId}
end
open Go.RowKit
section
variable {α:Type} {E:World→List Value→α→List Nat→Prop} {sz:Nat} {w w':World} {v:Value} {l:List α} {S T S2:List Nat} {e:TypeId}
end
section
variable {α:Type} {F:World→List Value→α→List Nat→Prop} {P:Program} {t e:TypeId} {sz bytes:Nat} {z:Value}
end
open Go.RowKit Go.ChangeShapes Go.WideShapes Go.Deep
section
variable {H:Type} {enc:TypeId × Value→H} {P:Program}
end
open Go.RowKit Go.ChangeShapes Go.WideShapes Go.Deep
section
variable {P:Program} {t e:TypeId}
end
open Go.RowKit
section
variable {k:IntKind} {w w':World} {v:Value} {l:List Int} {S T:List Nat} {e:TypeId}
end
section
variable {P:Program} {t e:TypeId} {bytes:Nat} {z:Value} {k:IntKind}
end
open Go.RowKit Go.Maps
section
variable {P:Program} {k:TypeId} {w w':World} {b n:Nat} {f:Int→Option Value}
end
open Go.RowKit Go.Maps
section
variable {P:Program} {k:TypeId} {w w':World} {b r n dZ:Nat} {f:Int→Option Value} {left:Int→Bool}
end
section
variable {α:Type} {E:World→List Value→α→List Nat→Prop} {sz:Nat} {w w':World} {l:List α} {S:List Nat}
end
section
variable {e:TypeId} {sz:Nat}
end
section
variable {α:Type} {E:World→List Value→α→List Nat→Prop} {sz:Nat} {w w':World} {l:List α} {S T:List Nat} {e:TypeId}
end
section
variable {α:Type} {F:World→List Value→α→List Nat→Prop} {P:Program} {t e:TypeId} {sz bytes:Nat} {z:Value}
end
section
variable {α:Type} {F:World→List Value→α→List Nat→Prop} {P:Program} {t e:TypeId} {sz bytes:Nat} {z:Value}
end
section
variable {α:Type} {F:World→List Value→α→List Nat→Prop} {P:Program} {t e:TypeId} {sz bytes:Nat} {z:Value}
end
section
variable {α:Type} {E:World→List Value→α→List Nat→Prop} {w:World} {l:List α} {S:List Nat}
end
section
variable {P:Program} {ops:Array Oper} {Q:Exit→Act→World→Prop} {md:Region.Mode} {S:World→Prop} {m:Nat}
end
open Go.RowKit
section
variable {w w':World} {v:Value} {es e:TypeId} {ll:List (List Int)} {T S:List Nat} {Us:List (List Nat)}
end
open Go.RowKit
open Go.RowKit
namespace Fl
open Sx
section
variable {P:Program}
end
section
variable (P:Program) (c:Cx)
end
section
variable {P:Program} {c:Cx} {k:List Item} {f:Fm} {L:List an} {ops:Array Oper} {l:List Oper} {o:Oper}
end
section
variable {P:Program} {c:Cx} {f:Fm} {L:List an} {t:Option Tmp} {T:TypeId} {ps:String} {af:Array Edge} {gd:Option (Nat × Bool)}
theorem Qt.ZZ {x:Operand} {X sz q o e j n:Nat} {v:Value} {l:List (List A)} {cs es:List A} [i:j6 P X n] [bx:gU L v e sz l j] (h:bg f x=some (.ow v sz q o)) (hq:l[q]?=some cs) (he:(cs.drop o).take n=es) (hn:es.length=n):Qt P c [j] ⟨t,.load X x,T,ps,af,gd⟩ f L (.agg es):=Qt.uH h (.ow j bx.h hq) he hn
end
end Fl
open Go.RowKit
namespace Fl
open Sx
section
variable {P:Program} {ops:Array Oper} {Q:Exit→Act→World→Prop} {md:Region.Mode} {S:World→Prop} {m:Option Nat}
end
section
variable (P:Program) (c:Cx)
end
section
variable {P:Program} {c:Cx} {k:List Item} {f f0:Fm} {L L0:List an} {ops:Array Oper} {l:List Oper} {o:Oper} {m:Option Nat} {T:List Nat} {n:Nat} {aM:Array Bool}
theorem Since.box {L0 L L':List an} {b B i:Nat} {cs:List A} [bx:lY L b B cs i] [er:mI L i L'] (ht:rK L0 L'):Since T L0 L [b]:=.any bx.h er.h ht
end
end Fl
open Go.RowKit
section
variable {w w':World} {v:Value} {l:List Bool} {S T:List Nat}
end
section
variable {w w':World} {p:Value} {size most f:Int} {C:List (List Int)} {M:List Int} {H:List Bool} {S T:List Nat}
theorem Pl.drewN (h:Pl w p size most C M f H S) (n:Nat):Pl (w.drewN n) p size most C M f H S:=h.then ((aq.refl [] w).drewN n)
end
namespace Po
end Po
namespace Po
theorem Inv.take {size most:Nat} {s:St} (v:Inv size most s) (g:Int):Inv size most (take size most s g).1:=by
 unfold Po.take
 split
 ·rename_i ht;simp only [kF,Bool.and_eq_true,decide_eq_true_eq] at ht;have hg:s.C[g.toNat]?=some (s.C.getD g.toNat []):=by
   rw [List.getD_eq_getElem?_getD,List.getElem?_eq_getElem (by omega)];simp
  split
  ·split
   ·rename_i h;exact v.fresh h
   ·exact v
  ·rename_i h;exact v.qt hg h
 ·exact v
end Po
namespace Fl
open Sx
instance:bR Tryz.prog 45 3 3:={}
instance:aJ Tryz.prog 23:={}
instance:aJ Tryz.prog 24:={}
instance:aJ Tryz.prog 76:={}
instance:aJ Tryz.prog 77:={}
instance:aJ Tryz.prog 78:={}
instance:aJ Tryz.prog 81:={}
instance:aJ Tryz.prog 131:={}
instance:aJ Tryz.prog 132:={}
instance:aJ Tryz.prog 133:={}
instance:aJ Tryz.prog 134:={}
instance:aJ Tryz.prog 135:={}
instance:aJ Tryz.prog 136:={}
instance:aJ Tryz.prog 138:={}
instance:aJ Tryz.prog 139:={}
instance:aJ Tryz.prog 140:={}
instance:aJ Tryz.prog 146:={}
instance:aJ Tryz.prog 148:={}
instance:aJ Tryz.prog 193:={}
instance:aJ Tryz.prog 194:={}
instance:aJ Tryz.prog 195:={}
instance:aJ Tryz.prog 196:={}
end Fl
open Go.RowKit
section
variable {w w':World} {p:Value} {n:Nat} {R:List (List Int)} {S T:List Nat}
end
section
variable {w w':World} {b g1 o1 c1 g2 o2 c2 n:Nat} {A B:List (Int × Int × Int)}
end
namespace Qu
end Qu
theorem Z0 (w:World) (p:Value) (n:Nat) (R:List (List Int)) (S:List Nat) (k:Int) (h:Qq w p n R S) :
  Calls Tryz.prog 194 #[p,.int .i64 k] w fun e w'=>e=.returned (.int .i64 ((Qu.row R k).length:Int))∧w=w':=by
 obtain ⟨b,rfl⟩:=h.shape;have H:=Lib.hid h
 cases hk:Qu.line R k with
 | true =>
  obtain ⟨j,rfl,hj⟩:=Qu.By hk;obtain ⟨g2,o2,c2,c1,d0,d2⟩:=h.EE hj;have hr:=h.inv.tD;have HF:Hid ((Qu.row R j).length=(R.getD j []).length):=Lib.hid (by rw [Qu.yR hj]);generalize (R.getD j []).length=m at *;clear h d0
  go_enter Tryz.func194,Tryz.ntmps194
  go_wp2_with fail
  refine (oz _ _ _ _ _ _ H.out).mono ?_
  rintro e w1 ⟨rfl,rfl⟩
  rw [hk]
  go_wp2_with fail
  go_ret
  exact ⟨AV (by rw [HF.out]),rfl⟩
 | false =>
  have HF:Hid ((Qu.row R k).length=0):=Lib.hid (by simp [Qu.row,hk]);clear h
  go_enter Tryz.func194,Tryz.ntmps194
  go_wp2_with fail
  refine (oz _ _ _ _ _ _ H.out).mono ?_
  rintro e w1 ⟨rfl,rfl⟩
  rw [hk]
  go_wp2_with fail
  go_ret
  exact ⟨AV (by rw [HF.out];rfl),rfl⟩
open Go.RowKit
def AP (r:Po.St × Int × Bool) (p:Value) (size most:Nat) (S:List Nat) (w:World) (e:Ending) (w':World):Prop :=
 e=.returned (.tuple #[.int .i64 r.2.1,.bool r.2.2])∧∃ S',PS w' p size most r.1 S'∧aq S w w'∧∀ k∈S',k∈S∨w.heap.size≤k
def Hv (w:World) (b:Nat) (size most:Nat) (vc vh:Value) (f:Nat) (o m:List Int) (U Tm:List Nat) (v6:Value) (w':World):Prop :=
 ∃ ao cap vm U',v6=.slice ao o.length cap∧aq (b :: U) w w'∧cr w' b [.int .i64 size,.int .i64 most,vc,vm,.int .i64 f,vh] 140 ∧
  IR w' v6 3 o U'∧IR w' vm 3 m Tm∧(∀ x∈U',x∈U∨w.heap.size≤x)∧(o=[]→w'=w)
def AQ (w:World) (b:Nat) (size most:Nat) (vc vh:Value) (f:Nat) (M:List Int) (U Tm:List Nat) (k:Nat) (v6:Value) (w':World):Prop :=
 ∃ ao cap vm U',v6=.slice ao k cap∧aq (b :: U) w w'∧cr w' b [.int .i64 size,.int .i64 most,vc,vm,.int .i64 f,vh] 140 ∧
  IR w' v6 3 (M.reverse.take k) U'∧IR w' vm 3 (M.take (M.length - k)) Tm∧(∀ x∈U',x∈U∨w.heap.size≤x)∧(k=0→w'=w)
theorem AQ.step {w wr w7:World} {b size most:Nat} {vc vh:Value} {f:Nat} {M:List Int} {U Tm U6 U7:List Nat} {k gM pZ j jz kQ:Nat} {kR:Option Addr}
  (EY:b∉U) (yY:b∉Tm) (wN:∀ x∈Tm,x∉U) (hb:b < w.heap.size) (EW:∀ x∈Tm,x < w.heap.size) (cV:aq (b :: U) w wr)
  (dU:cr wr b [.int .i64 size,.int .i64 most,vc,.slice (some ⟨gM,pZ,none⟩) (j + 1) jz,.int .i64 f,vh] 140)
  (gu:IR wr (.slice (some ⟨gM,pZ,none⟩) (j + 1) jz) 3 (M.take (j + 1)) Tm) (kS:∀ x∈U6,x∈U∨w.heap.size≤x) (hj:M.length - k=j + 1)
  (r7:IR w7 (.slice kR (k + 1) kQ) 3 (M.reverse.take k ++ [M.getD j 0]) U7) (k7:aq U6 wr w7) (s7:∀ x∈U7,x∈U6∨wr.heap.size≤x) :
  AQ w b size most vc vh f M U Tm (k + 1) (.slice kR (k + 1) kQ) (w7.setCell ⟨b,3,none⟩ (.slice (some ⟨gM,pZ,none⟩) j jz)):=by
 have jZ:=cV.size;have rZ:b∉U6:=fun hx=>by rcases kS b hx with h | h;exact EY h;omega
 have EZ:b∉U7:=fun hx=>by rcases s7 b hx with h | h;exact rZ h;omega
 have lG:∀ x∈Tm,x∉U6:=fun x hx h6=>by rcases kS x h6 with h | h;exact wN x hx h;have:=EW x hx;omega
 have gQ:(M.take (j + 1)).length=j + 1:=by simp;omega
 have o7:aq [b] w7 (w7.setCell ⟨b,3,none⟩ (.slice (some ⟨gM,pZ,none⟩) j jz)):=(aq.refl [b] w7).setCell (by simp) _;have uX:IR wr (.slice (some ⟨gM,pZ,none⟩) j jz) 3 (M.take j) Tm:=by
  have:=IR.prefix (l:=M.take (j + 1)) (by rw [gQ];exact gu) j (by omega)
  rwa [List.take_take,Nat.min_eq_left (by omega)] at this
 refine ⟨kR,kQ,.slice (some ⟨gM,pZ,none⟩) j jz,U7,rfl,?_,?_,?_,?_,?_,fun h=>by omega⟩
 ·refine (cV.trans k7 (fun x hx=>?_)).setCell (by simp) _;rcases kS x hx with h | h
  ·left;simp [h]
  ·exact .inr h
 ·have:=(dU.aY k7 rZ).set 3 (.slice (some ⟨gM,pZ,none⟩) j jz);simpa using this
 ·rw [Po.JR M k j hj];exact r7.aY o7 (fun x hx h=>by simp at h;subst h;exact EZ hx)
 ·rw [show M.length - (k + 1)=j by omega];exact (uX.aY k7 lG).aY o7 (fun x hx h=>by simp at h;subst h;exact yY hx)
 ·intro x hx;rcases s7 x hx with h | h
  ·exact kS x h
  ·right;omega
set_option maxRecDepth 100000 in
set_option maxHeartbeats 1600000 in
theorem Z1 (w:World) (p:Value) (size most:Nat) (s:Po.St) (S:List Nat) (g:Int) (h:PS w p size most s S) (v:Po.Inv size most s) :
  Calls Tryz.prog 148 #[p,.int .i64 g] w (AP (Po.take size most s g) p size most S w):=by
 have HP:=Lib.hid h;have HV:=Lib.hid v;obtain ⟨b,vc,vm,vh,T1,Us,Tm,Th,rfl,hb,hc,hm,hh,ha,rfl⟩:=h;obtain ⟨ta,cF,o8⟩:=(⟨v.m1,v.m2,v.s1⟩:_∧_∧_)
 clear v
 cases ht:Po.kF s.C g with
 | false =>
  have HF:Hid (Po.take size most s g=(s,0,false)):=Lib.hid (by simp [Po.take,ht]);clear hb hc hm hh ha
  go_enter Tryz.func148,Tryz.ntmps148
  go_wp2_with fail
  refine (uN _ _ _ _ _ _ _ _ _ _ HP.out).mono ?_
  rintro e w1 ⟨rfl,rfl⟩
  rw [ht]
  go_wp2_with fail
  go_ret2
  unfold AP;rw [HF.out];exact ⟨rfl,_,HP.out,aq.refl _ _,fun k hk=>.inl hk⟩
 | true =>
  have h2:=ht;simp only [Po.kF,Bool.and_eq_true,decide_eq_true_eq] at h2;obtain ⟨n,rfl⟩:=Int.eq_ofNat_of_zero_le h2.1;have hn:n < s.C.length:=by omega
  have hle:=hc.le;unfold maxLen at hle;obtain ⟨ao,cap,rfl⟩:=hc.shape;have hk:=List.getElem?_eq_getElem hn;obtain ⟨c,mD⟩:∃ c,s.C[n]=c:=⟨_,rfl⟩
  rw [mD] at hk;have y8:s.C.getD n []=c:=by rw [List.getD_eq_getElem?_getD,hk];rfl
  have vV:Hid (Po.take size most s n=if Po.own most c s.M=[] then (if s.f < size then (⟨s.C,s.M,s.f + 1,s.H⟩,(s.f:Int),true) else (s,0,false)) else (Po.qt s n (Po.own most c s.M) (Po.bp most c s.M),(Po.own most c s.M).getLastD 0,true)):=Lib.hid (by
   unfold Po.take;rw [ht];simp only [if_true,Int.toNat_natCast,y8])
  have bY:c.length≤most:=HV.out.qv c (List.mem_of_getElem? hk);have Sq:s.M.length≤64:=HV.out.lens.1;obtain ⟨gT,fS,x0,U,rfl,rfl,y9,cT,fT,hr,hU,JU⟩:=hc.get hk;obtain ⟨o9,lF,rfl⟩:=hr.shape;have c2:w.cell? ⟨b,2,none⟩=some (.slice (some ⟨gT,fS,none⟩) s.C.length cap):=hb.cell 2;have cJ:(n:Int) < s.C.length:=by omega
  have HB:=Lib.hid hb;have HC:=Lib.hid hc;have HM:=Lib.hid hm;have HH:=Lib.hid hh;have HA:=Lib.hid ha;have HR:=Lib.hid hr;have HU:=Lib.hid hU;have HK:=Lib.hid hk;have gE:Hid (b∉U∧b∉Tm∧(∀ x∈Tm,x∉U)∧b < w.heap.size∧(∀ x∈Tm,x < w.heap.size)):=Lib.hid (by
   have mR:=ha;simp only [fq,List.pairwise_cons,List.mem_cons,List.not_mem_nil,or_false,forall_eq_or_imp,forall_eq] at mR;obtain ⟨⟨a1,a2,a3,a4⟩,⟨a5,a6,a7⟩,⟨a8,a9⟩,iA,_⟩:=mR;have jv:∀ x∈U,x∈Us.flatten:=fun x hx=>List.mem_flatten.2 ⟨U,List.mem_of_getElem? hU,hx⟩
   exact ⟨fun h=>a2 (jv b h),a3,fun x hx h=>a8 x (jv x h) hx,hb.lt,hm.lt⟩)
  clear hb hc hm hh ha hr hU hk mD y8 h2;have nY:=Po.Ja HV.out.m1 (M:=s.M) bY;obtain ⟨o,ho⟩:∃ o,Po.own most c s.M=o:=⟨_,rfl⟩
  have uY:=Lib.hid ho;rw [ho] at nY vV;clear ho;obtain ⟨q,hq⟩:∃ q,((c.length:Int) == 0)=q:=⟨_,rfl⟩
  have HQ:Hid (q=decide (c=[])):=Lib.hid (by rw [← hq,Bool.eq_iff_iff];simp)
  go_enter Tryz.func148,Tryz.ntmps148
  go_wp2_with fail
  refine (uN _ _ _ _ _ _ _ _ _ _ HP.out).mono ?_
  rintro e w1 ⟨rfl,rfl⟩
  rw [ht]
  go_upto_if 23 with fail
  go_cut [6] (fun v6 w'=>Hv w b size most (.slice (some ⟨gT,fS,none⟩) s.C.length cap) vh s.f o (Po.bp most c s.M) U Tm v6 w')
  case first =>
   cases q with
   | true =>
    have h0:c=[]:=by have:=HQ.out;simpa using this
    have acs:Hid (c.length=0):=Lib.hid (by simp [h0]);have Z2:Hid (Po.own most c s.M=s.M.reverse.take (min (Po.room most) s.M.length)):=Lib.hid (by subst h0;simp [Po.own,Po.nB]);have Z3:Hid (Po.bp most c s.M=s.M.take (s.M.length - min (Po.room most) s.M.length)):=Lib.hid (by subst h0;simp [Po.bp,Po.nB]);have E3:Hid (AQ w b size most (.slice (some ⟨gT,fS,none⟩) s.C.length cap) vh s.f s.M U Tm 0 (.slice o9 c.length lF) w):=Lib.hid (by
     subst h0;exact ⟨o9,lF,vm,U,by simp,aq.refl _ _,HB.out,by simpa using HR.out,by simpa using HM.out,fun x hx=>.inl hx,fun _=>rfl⟩)
    clear h0
    go_wp2_with fail
    go_loopw [6] (fun v6 wr=>∃ k:Nat,k≤min (Po.room most) s.M.length∧AQ w b size most (.slice (some ⟨gT,fS,none⟩) s.C.length cap) vh s.f s.M U Tm k v6 wr) (fun v6 _=>100 - wO v6)
    case atStart=>exact ⟨0,Nat.zero_le _,E3.out⟩
    case round =>
     obtain ⟨k,hk,tH,oC,wQ,U6,rfl,cV,dU,fZ,gu,kS,vW⟩:=hrel;have c1:wr.cell? ⟨b,1,none⟩=some (.int .i64 most):=dU.cell 1;have fK:(s.M.reverse.take k).length=k:=by simp;omega
     obtain ⟨l6,vn⟩:∃ l,s.M.reverse.take k=l:=⟨_,rfl⟩
     rw [vn] at fK fZ;subst fK
     by_cases cJ:l6.length < min (Po.room most) s.M.length
     ·obtain ⟨j,hj⟩:∃ j,s.M.length - l6.length=j + 1:=⟨s.M.length - l6.length - 1,by omega⟩
      rw [hj] at gu;have gQ:(s.M.take (j + 1)).length=j + 1:=by simp;omega
      obtain ⟨tI,jz,rfl⟩:=gu.shape;rw [gQ] at dU gu;obtain ⟨gM,pZ,rfl,rfl,hgM,ON,_⟩:=gu.cells (by omega);have cM:wr.cell? ⟨gM,pZ + j,none⟩=some (.int .i64 (s.M.getD j 0)):=by
       have:=ON j (by omega);rw [this,List.getD_eq_getElem?_getD,List.getD_eq_getElem?_getD,List.getElem?_take,if_pos (by omega)]
      have r9:j + 1≤jz:=by obtain ⟨_,_,_,e,h1,_⟩:=gu;simp at e;omega
      have c3:wr.cell? ⟨b,3,none⟩=some (.slice (some ⟨gM,pZ,none⟩) (j + 1) jz):=dU.cell 3;have acv:(j:Int) + 1≤jz:=by omega
      have acw:l6.length≤64:=by omega
      have Sw:j≤64:=by omega
      have ig:=Lib.hid cV;have u6:=Lib.hid dU;have oD:=Lib.hid fZ;have tJ:=Lib.hid gu;have Hw:=Lib.hid kS;clear vW;have Z4:=Lib.hid vn;have HJ:=Lib.hid hj;clear cV dU fZ gu kS vn ON gQ hj;obtain ⟨x,HX⟩:∃ x,Hid (s.M.getD j 0=x):=⟨_,rfl⟩
      rw [HX.out] at cM
      by_cases hr:1 < (most:Int) / 2
      all_goals
       have sX:(l6.length:Int) < if 1 < (most:Int) / 2 then (most:Int) / 2 else 1:=by unfold Po.room at cJ;split <;> omega
       first | rw [if_pos hr] at sX | rw [if_neg hr] at sX
       have Z5:=decide_eq_true sX;have Z6:Hid (l6.length + 1≤min (Po.room most) s.M.length):=Lib.hid cJ;clear cJ hk sX
       go_wp2_with (at_builtin;go_must (refine Iu rO oD.out (by omega) ?_))
       intro kR kQ w7 U7 r7 k7 s7;have E4:=Lib.hid (AQ.step gE.out.1 gE.out.2.1 gE.out.2.2.1 gE.out.2.2.2.1 gE.out.2.2.2.2 ig.out u6.out tJ.out Hw.out HJ.out (by rw [HX.out,Z4.out];exact r7) k7 s7);have rZ:b∉U6:=fun hx=>by
        rcases Hw.out b hx with h | h
        ·exact gE.out.1 h
        ·have:=gE.out.2.2.2.1;omega
       have d3:w7.cell? ⟨b,3,none⟩=some (.slice (some ⟨gM,pZ,none⟩) (j + 1) jz):=k7.cell c3 rZ;have f3:w7.frozen? ⟨b,3,none⟩=false:=(u6.out.aY k7 rZ).free 3;clear r7 k7 s7 rZ
       go_wp2_with fail
       go_roundw
       case rel=>exact ⟨l6.length + 1,Z6.out,E4.out⟩
       case measure=>simp [wO];omega
     ·have sj:Hid (Hv w b size most (.slice (some ⟨gT,fS,none⟩) s.C.length cap) vh s.f o (Po.bp most c s.M) U Tm (.slice tH l6.length oC) wr):=Lib.hid (by
       have hN:min (Po.room most) s.M.length=l6.length:=by omega
       rw [← uY.out,Z2.out,Z3.out,hN,vn];exact ⟨tH,oC,wQ,U6,rfl,cV,dU,fZ,gu,kS,fun h=>vW (by rw [h];rfl)⟩)
      obtain ⟨m,hm⟩:∃ m,(s.M.take (s.M.length - l6.length)).length=m:=⟨_,rfl⟩
      obtain ⟨tI,jz,rfl⟩:=gu.shape;have c3:wr.cell? ⟨b,3,none⟩=some (.slice tI m jz):=by have:=dU.cell 3;rw [hm] at this;exact this
      have cF:m=s.M.length - l6.length:=by rw [← hm];simp
      clear dU fZ gu kS cV hm vn vW
      by_cases hz:m=0
      ·subst hz;clear cJ hk cF
       go_wp2_with fail
       go_meet
       exact sj.out
      ·have wB:0 < m:=by omega
       have acy:m≤64:=by omega
       by_cases hr:1 < (most:Int) / 2
       all_goals
        have sX:¬ ((l6.length:Int) < if 1 < (most:Int) / 2 then (most:Int) / 2 else 1):=by unfold Po.room at cJ;split <;> omega
        first | rw [if_pos hr] at sX | rw [if_neg hr] at sX
        have Z5:=decide_eq_false sX;clear cJ hk sX cF hz
        go_wp2_with fail
        go_meet
        exact sj.out
   | false =>
    have h0:c≠[]:=by have:=HQ.out;simpa using this
    have sj:Hid (Hv w b size most (.slice (some ⟨gT,fS,none⟩) s.C.length cap) vh s.f o (Po.bp most c s.M) U Tm (.slice o9 c.length lF) w):=Lib.hid (by
     have e1:Po.own most c s.M=c:=by simp [Po.own,Po.nB,h0]
     have e2:Po.bp most c s.M=s.M:=by simp [Po.bp,Po.nB,h0]
     rw [← uY.out,e1,e2];exact ⟨o9,lF,vm,U,rfl,aq.refl _ _,HB.out,HR.out,HM.out,fun x hx=>.inl hx,fun _=>rfl⟩)
    clear h0
    go_wp2_with fail
    go_meet
    exact sj.out
  case rest =>
   obtain ⟨tH,oC,wQ,U6,rfl,cV,dU,fZ,gu,kS,vW⟩:=hcut;have d2:wc.cell? ⟨b,2,none⟩=some (.slice (some ⟨gT,fS,none⟩) s.C.length cap):=dU.cell 2;have d4:wc.cell? ⟨b,4,none⟩=some (.int .i64 s.f):=dU.cell 4;have d0:wc.cell? ⟨b,0,none⟩=some (.int .i64 size):=dU.cell 0;have ig:=Lib.hid cV;have u6:=Lib.hid dU;have oD:=Lib.hid fZ;have tJ:=Lib.hid gu;have Hw:=Lib.hid kS
   by_cases h0:o=[]
   ·subst h0;have hw:=vW rfl;subst hw;clear cV dU fZ gu kS vW;rw [if_pos rfl] at vV
    cases hf:decide (s.f < size) with
    | true =>
     have AS:Hid (Po.take size most s n=(⟨s.C,s.M,s.f + 1,s.H⟩,(s.f:Int),true)):=Lib.hid (by rw [vV.out,if_pos (by simpa using hf)]);have acz:s.f≤64:=by simp at hf;omega
     have f4:=HB.out.free 4
     go_wp2_with fail
     go_quiet (fail)
     go_wp2_with fail
     go_ret2
     unfold AP;rw [AS.out];have eY:cr (wc.setCell ⟨b,4,none⟩ (.int .i64 ((s.f:Int) + 1))) b [.int .i64 size,.int .i64 most,.slice (some ⟨gT,fS,none⟩) s.C.length cap,vm,.int .i64 ((s.f + 1:Nat):Int),vh] 140:=by
      have:=HB.out.set 4 (.int .i64 ((s.f:Int) + 1));simpa using this
     have Hx:aq [b] wc (wc.setCell ⟨b,4,none⟩ (.int .i64 ((s.f:Int) + 1))):=(aq.refl _ _).setCell (by simp) _;have mR:=HA.out;simp only [fq,List.pairwise_cons,List.mem_cons,List.not_mem_nil,or_false,forall_eq_or_imp,forall_eq] at mR;obtain ⟨⟨a1,a2,a3,a4⟩,_⟩:=mR;refine ⟨rfl,_,Pl.drewN ⟨b,.slice (some ⟨gT,fS,none⟩) s.C.length cap,vm,vh,[gT],Us,Tm,Th,rfl,eY,HC.out.aY Hx (by intro y hy h;simp at hy h;subst hy;exact a1 (by simp [h])) (fun A hA y hy h=>by simp at h;subst h;exact a2 (List.mem_flatten.2 ⟨A,hA,hy⟩)),HM.out.aY Hx (fun y hy h=>by simp at h;subst h;exact a3 hy),HH.out.aY Hx (fun y hy h=>by simp at h;subst h;exact a4 hy),HA.out,rfl⟩ nq,?_,fun k hk=>.inl hk⟩;exact ((aq.refl _ wc).setCell (by simp) _).drewN nq
    | false =>
     have AS:Hid (Po.take size most s n=(s,0,false)):=Lib.hid (by rw [vV.out,if_neg (by simpa using hf)])
     go_wp2_with fail
     go_quiet (fail)
     go_wp2_with fail
     go_ret2
     unfold AP;rw [AS.out];exact ⟨rfl,_,Pl.drewN HP.out _,(aq.refl _ _).drewN _,fun k hk=>.inl hk⟩
   ·obtain ⟨L,hL⟩:∃ L,o.length=L + 1:=⟨o.length - 1,by have:=List.length_pos_iff.2 h0;omega⟩
    rw [if_neg h0] at vV;have tF:0≤o.getLastD 0∧o.getLastD 0 < s.f:=HV.out.last HK.out uY.out.symm h0;have lp:=HV.out.fl;have hHl:=HV.out.hl;obtain ⟨x,hx⟩:=Int.eq_ofNat_of_zero_le tF.1;have y7:x < s.H.length:=by omega
    obtain ⟨gO,Z7,rfl,rfl,hgO,OO,_⟩:=fZ.cells (by omega);have cO:wc.cell? ⟨gO,Z7 + L,none⟩=some (.int .i64 (x:Int)):=by
     rw [OO L (by omega),← hx,List.getLastD_eq_getLast?,List.getLast?_eq_getElem?,List.getD_eq_getElem?_getD,hL];rfl
    have acC:L + 1≤oC:=by obtain ⟨_,_,_,e,h1,_⟩:=fZ;simp at e;omega
    have tK:=gE.out;have OP:=fZ;rw [hL] at fZ;have uX:=IR.prefix OP L (by omega);have ed:o.take L=o.dropLast:=by rw [List.dropLast_eq_take,hL];rfl
    rw [ed] at uX;obtain ⟨Sr,r8,rfl⟩:=HH.out.shape;have uW:=List.getElem?_eq_getElem y7;obtain ⟨gH,ja,rfl,rfl,E0,cH,fH⟩:=HH.out.cells uW;obtain ⟨S',zb,zc,ze⟩:=JM (t:=false) rfl rfl tK.2.2.2.1 HC.out HH.out HM.out HA.out HK.out HU.out (cV.mono (T:=b :: (U ++ Tm)) (fun y hy=>by left;simp at hy ⊢;rcases hy with h | h <;> simp [h])) dU uX kS gu (fun y hy=>.inl hy) (fun y hy tG=>by
     rcases kS y hy with h | h
     ·exact tK.2.2.1 y tG h
     ·have:=tK.2.2.2.2 y tG;omega) y7
    have E6:=Lib.hid zb;have kU:=Lib.hid zc;have E7:=Lib.hid ze;have mR:=HA.out;simp only [fq,List.pairwise_cons,List.mem_cons,List.not_mem_nil,or_false,forall_eq_or_imp,forall_eq] at mR;obtain ⟨⟨a1,a2,a3,a4⟩,⟨a5,a6,a7⟩,⟨a8,a9⟩,iA,jy⟩:=mR;have jv:∀ x∈U,x∈Us.flatten:=fun x hx=>List.mem_flatten.2 ⟨U,List.mem_of_getElem? HU.out,hx⟩
    have n1:b≠gT:=by simpa using a1
    have n2:b≠gH:=by simpa using a4
    have n3:gT≠gH:=by simpa using a7
    have OQ:gH∉(b :: U):=by
     simp;exact ⟨fun h=>n2 h.symm,fun h=>a9 gH (jv _ h) (by simp)⟩
    have OS:gT∉(b :: U):=by
     simp;exact ⟨fun h=>n1 h.symm,fun h=>a5 (jv _ h)⟩
    have e5:wc.cell? ⟨b,5,none⟩=some (.slice (some ⟨gH,ja,none⟩) s.H.length r8):=dU.cell 5;have eH:=cV.cell cH OQ;have J3:wc.frozen? ⟨gH,ja + x,none⟩=false:=(World.frozen?_of_block (a:=⟨gH,ja + x,none⟩) (cV.block gH E0 OQ)).trans fH;have J4:wc.frozen? ⟨gT,fS + n,none⟩=false:=(World.frozen?_of_block (a:=⟨gT,fS + n,none⟩) (cV.block gT y9 OS)).trans fT;have eT:=cV.cell cT OS;have AS:Hid (Po.take size most s n=(Po.qt s n o (Po.bp most c s.M),(x:Int),true)):=Lib.hid (by rw [vV.out,hx]);have HX:=Lib.hid hx;have hI1:(0:Int)≤(L:Int):=by omega
    have hI2:(L:Int)≤(oC:Int):=by omega
    have Sz:(x:Int) < (s.H.length:Int):=by omega
    have hI4:s.H.length≤64:=by omega
    have acG:L≤16:=by omega
    have acH:decide ((0:Int)≤L)=true:=by simp
    generalize s.H[x]=t0 at *;clear vV zb zc ze jv cV dU fZ gu kS vW OP uX ed h0 uW OO tF hx a2 a3 a8 a9 iA jy a1 a4 a5 a6 a7;rw [hL];clear hL
    go_wp2_with fail
    go_region
    go_wp2_with fail
    go_ret2
    unfold AP;rw [AS.out];refine ⟨rfl,S',Pl.drewN ?_ _,aq.drewN kU.out _,E7.out⟩
    show Pl _ _ _ _ _ _ _ (s.H.set (o.getLastD 0).toNat false) S';rw [HX.out];exact E6.out
open Go.RowKit
namespace Rn
theorem OT (N f i c:Nat) (hi:i < c) (hc:c < N):(f + i) % N≠(f + c) % N:=by
 intro h;have h1:=Nat.div_add_mod (f + i) N;have h2:=Nat.div_add_mod (f + c) N;rw [h] at h1;have h3:N * ((f + c) / N)=N * ((f + i) / N) + (c - i):=by omega
 have h4:(f + c) / N=(f + i) / N∨(f + i) / N + 1≤(f + c) / N:=by
  rcases Nat.lt_or_ge ((f + i) / N) ((f + c) / N) with h | h
  ·right;omega
  ·left
   have:=Nat.div_le_div_right (c:=N) (show f + i≤f + c by omega);omega
 rcases h4 with h4 | h4
 ·rw [h4] at h3;omega
 ·have:=Nat.mul_le_mul_left N h4;rw [Nat.mul_add] at this;omega
theorem getD_set_ne (l:List Int) (i j:Nat) (v:Int) (h:i≠j):(l.set i v).getD j 0=l.getD j 0:=by
 simp [List.getD,h]
theorem Z8 (l:List Int) (i:Nat) (v:Int) (h:i < l.length):(l.set i v).getD i 0=v:=by
 simp [List.getD,h]
theorem put (ps:List Int) (f c:Nat) (v:Int) (h:c < ps.length):fG (ps.set ((f + c) % ps.length) v) f (c + 1)=fG ps f c ++ [v]:=by
 have hp:0 < ps.length:=by omega
 unfold fG;rw [List.range_succ,List.map_append]
 congr 1
 ·apply List.map_congr_left;intro i hi;have p9:i < c:=by simpa using hi
  rw [List.length_set,getD_set_ne _ _ _ _ (fun e=>OT ps.length f i c p9 h e.symm)]
 ·simp only [List.map_cons,List.map_nil,List.length_set];rw [Z8 _ _ _ (Nat.mod_lt _ hp)]
theorem get (ps:List Int) (f c:Nat) (h:0 < c):fG ps ((f + 1) % ps.length) (c - 1)=(fG ps f c).tail:=by
 apply List.ext_getElem
 ·simp [fG]
 ·intro i h1 h2;simp only [fG,List.getElem_map,List.getElem_range,List.getElem_tail]
  congr 1
  rw [show f + (i + 1)=(f + 1) + i by omega,Nat.add_mod,Nat.mod_mod,← Nat.add_mod]
theorem Z9 (ps qs:List Int) (f c:Nat) (hl:ps.length=qs.length) (h:∀ i,i < c→ps.getD ((f + i) % ps.length) 0=qs.getD ((f + i) % ps.length) 0):fG ps f c=fG qs f c:=by
 unfold fG;apply List.map_congr_left;intro i hi;rw [h i (by simpa using hi),hl]
theorem pass (ps:List Int) (f:Nat) (v:Int) (h:0 < ps.length) (hf:f < ps.length):fG (ps.set f v) ((f + 1) % ps.length) ps.length=(fG ps f ps.length).tail ++ [v]:=by
 have e1:fG (ps.set f v) ((f + 1) % ps.length) ps.length=fG ((ps.set f v).set (((f + 1) % ps.length + (ps.length - 1)) % ps.length) v) ((f + 1) % ps.length) (ps.length - 1 + 1):=by
  have hq:((f + 1) % ps.length + (ps.length - 1)) % ps.length=f:=by
   rw [Nat.add_mod,Nat.mod_mod,← Nat.add_mod,show f + 1 + (ps.length - 1)=f + ps.length by omega,Nat.add_mod_right,Nat.mod_eq_of_lt hf]
  rw [hq,List.set_set,show ps.length - 1 + 1=ps.length by omega]
 have hl:(ps.set f v).length=ps.length:=by simp
 have e2:=put (ps.set f v) ((f + 1) % ps.length) (ps.length - 1) v (by rw [hl];omega);rw [hl] at e2;rw [e1,e2]
 congr 1
 have e3:=get ps f ps.length h;rw [← e3];apply Z9
 ·simp
 ·intro i hi;rw [hl];apply getD_set_ne;intro e;have:(f + 1 + i) % ps.length=f % ps.length:=by
   rw [Nat.mod_eq_of_lt hf];rw [Nat.add_mod,Nat.mod_mod,← Nat.add_mod] at e;exact e.symm
  have h2:=OT ps.length f 0 (i + 1) (by omega) (by omega);apply h2;rw [Nat.add_zero,← this,show f + (i + 1)=f + 1 + i by omega]
theorem head (ps:List Int) (f c:Nat) (h:0 < c) (hf:f < ps.length):(fG ps f c).headD 0=ps.getD f 0:=by
 obtain ⟨k,rfl⟩:∃ k,c=k + 1:=⟨c - 1,by omega⟩
 unfold fG;rw [List.range_succ_eq_map];simp [Nat.mod_eq_of_lt hf]
def hd (l:List Int):Int:=l.headD 0
def rj (N:Nat) (l:List Int):Bool:=decide (l.length=N) && !l.isEmpty
def uv (N:Nat) (l:List Int):Int:=if rj N l then hd l else 0
def uw (N:Nat) (l:List Int) (v:Int):List Int:=if rj N l then l.tail ++ [v] else l
end Rn
open Go.RowKit
section
variable {w w':World} {p:Value} {N:Nat} {l:List Int} {S T:List Nat}
theorem Rg.then (h:Rg w p N l S) (k:aq [] w w'):Rg w' p N l S:=h.aY k (by simp)
theorem Rg.drewN (h:Rg w p N l S) (n:Nat):Rg (w.drewN n) p N l S:=h.then ((aq.refl [] w).drewN n)
end
theorem aaa (w:World) (p:Value) (N:Nat) (l:List Int) (S:List Nat) (h:Rg w p N l S) :
  Calls Tryz.prog 193 #[p] w fun e w'=>e=.returned (.int .i64 l.length)∧w=w':=by
 obtain ⟨b,v,U,ps,f,rfl,hb,hr,hd,rfl,rfl,kV,hl,hle,hf⟩:=h;have c2:w.cell? ⟨b,2,none⟩=some (.int .i64 l.length):=hb.cell 2;clear hb hr hd kV hl hle hf
 go_enter Tryz.func193,Tryz.ntmps193
 go_wp2
 go_ret
 exact ⟨rfl,rfl⟩
theorem OU (w:World) (p:Value) (N:Nat) (l:List Int) (S:List Nat) (h:Rg w p N l S) :
  Calls Tryz.prog 243 #[p] w fun e w'=>e=.returned (.bool (decide (l.length=N)))∧∃ m,w'=w.drewN m:=by
 obtain ⟨b,v,U,ps,f,rfl,hb,hr,hd,rfl,rfl,kV,hl,hle,hf⟩:=h;obtain ⟨ao,cap,rfl⟩:=hr.shape;have c0:w.cell? ⟨b,0,none⟩=some (.slice ao ps.length cap):=hb.cell 0;have c2:w.cell? ⟨b,2,none⟩=some (.int .i64 l.length):=hb.cell 2;clear hb hr hd hl
 go_enter Tryz.func243,Tryz.ntmps243
 go_wp2_with fail
 go_quiet (fail)
 go_wp2
 go_ret
 exact ⟨eW (by rw [Bool.eq_iff_iff];simp;omega),_,rfl⟩
def Raw (w:World) (b g off cap:Nat) (ps:List Int) (f c:Int):Prop :=
 cr w b [.slice (some ⟨g,off,none⟩) ps.length cap,.int .i64 f,.int .i64 c] 148∧IR w (.slice (some ⟨g,off,none⟩) ps.length cap) 2 ps [g]∧b≠g
theorem Raw.draw {w:World} {b g off cap:Nat} {ps:List Int} {f c:Int} (h:Raw w b g off cap ps f c) (n:Nat):Raw (w.drewN n) b g off cap ps f c:=h
theorem Raw.put {w:World} {b g off cap:Nat} {ps:List Int} {f c:Int} (h:Raw w b g off cap ps f c) (j:Nat) (hj:j < ps.length) (v:Int) :
  Raw (w.setCell ⟨g,off + j,none⟩ (.int .i64 v)) b g off cap (ps.set j v) f c:=by
 obtain ⟨h1,h2,h3⟩:=h;refine ⟨?_,?_,h3⟩
 ·rw [List.length_set];exact h1.other h3 _
 ·rw [List.length_set];exact (h2.stored j hj v).1
theorem Raw.first {w:World} {b g off cap:Nat} {ps:List Int} {f c:Int} (h:Raw w b g off cap ps f c) (f':Int):Raw (w.setCell ⟨b,1,none⟩ (.int .i64 f')) b g off cap ps f' c :=
 ⟨by simpa using h.1.set 1 (.int .i64 f'),h.2.1.aY ((aq.refl [b] w).setCell (p:=⟨b,1,none⟩) (by simp) _) (by simp [h.2.2.symm]),h.2.2⟩
theorem Raw.count {w:World} {b g off cap:Nat} {ps:List Int} {f c:Int} (h:Raw w b g off cap ps f c) (c':Int):Raw (w.setCell ⟨b,2,none⟩ (.int .i64 c')) b g off cap ps f c' :=
 ⟨by simpa using h.1.set 2 (.int .i64 c'),h.2.1.aY ((aq.refl [b] w).setCell (p:=⟨b,2,none⟩) (by simp) _) (by simp [h.2.2.symm]),h.2.2⟩
theorem Raw.rg {w:World} {b g off cap:Nat} {ps:List Int} {f:Nat} {c:Int} (h:Raw w b g off cap ps f c) {N:Nat} (hN:N=ps.length) (l:List Int) (hc:c=(l.length:Int)) (kV:N≤64) (hl:l=Rn.fG ps f l.length) (hle:l.length≤N) (hf:f < N) :
  Rg w (.pointer (some ⟨b,0,none⟩)) N l [b,g]:=by
 subst hc;subst hN;exact ⟨b,_,[g],ps,f,rfl,h.1,h.2.1,by simpa using h.2.2,rfl,rfl,kV,hl,hle,.inl hf⟩
theorem Raw.cells {w:World} {b g off cap:Nat} {ps:List Int} {f c:Int} (h:Raw w b g off cap ps f c) :
  w.cell? ⟨b,0,none⟩=some (.slice (some ⟨g,off,none⟩) ps.length cap)∧w.cell? ⟨b,1,none⟩=some (.int .i64 f)∧w.cell? ⟨b,2,none⟩=some (.int .i64 c)∧w.frozen? ⟨b,1,none⟩=false∧w.frozen? ⟨b,2,none⟩=false :=
 ⟨h.1.cell 0,h.1.cell 1,h.1.cell 2,h.1.free 1,h.1.free 2⟩
theorem Raw.place {w:World} {b g off cap:Nat} {ps:List Int} {f c:Int} (h:Raw w b g off cap ps f c) (j:Nat) (hj:j < ps.length) :
  w.cell? ⟨g,off + j,none⟩=some (.int .i64 (ps.getD j 0))∧w.frozen? ⟨g,off + j,none⟩=false:=by
 obtain ⟨g',xV,e,_,_,hc,hf⟩:=h.2.1.cells (by omega);obtain ⟨rfl,rfl⟩:=by simpa using e
 exact ⟨hc j hj,hf j⟩
theorem Rg.raw {w:World} {b N:Nat} {l:List Int} {S:List Nat} (h:Rg w (.pointer (some ⟨b,0,none⟩)) N l S) (hN:0 < N) :
  ∃ g off cap ps f,N=ps.length∧S=[b,g]∧Raw w b g off cap ps ((f:Nat):Int) l.length∧ps.length≤64∧l=Rn.fG ps f l.length∧l.length≤ps.length∧f < ps.length:=by
 obtain ⟨b',sv,U,ps,f,iY,hb,hr,hd,rfl,rfl,kV,hl,hle,hf⟩:=h;obtain rfl:b=b':=by simpa using iY
 obtain ⟨ao,cap,rfl⟩:=hr.shape;obtain ⟨g,off,rfl,rfl,hg,hc,OM⟩:=hr.cells (by omega);exact ⟨g,off,cap,ps,f,rfl,rfl,⟨hb,hr,by simpa using hd⟩,kV,hl,hle,by omega⟩
def OV (p:Value) (N:Nat) (x:Int) (ok:Bool) (l':List Int) (S:List Nat) (w:World) (e:Ending) (w':World):Prop :=
 e=.returned (.tuple #[.int .i64 x,.bool ok])∧aq S w w'∧Rg w' p N l' S
set_option maxHeartbeats 800000 in
theorem aab (w:World) (p:Value) (N:Nat) (l:List Int) (S:List Nat) (h:Rg w p N l S) :
  Calls Tryz.prog 196 #[p] w (OV p N (Rn.hd l) (!l.isEmpty) l.tail S w):=by
 obtain ⟨b,rfl⟩:=h.shape;have H0:=Lib.hid h;have hle:=h.le
 by_cases ki:l=[]
 ·subst ki;obtain ⟨b',sv,U,ps,f,iY,hb,hr,hd,rfl,rfl,Hy⟩:=h;clear Hy;obtain rfl:b=b':=by simpa using iY
  have c2:w.cell? ⟨b,2,none⟩=some (.int .i64 (0:Int)):=hb.cell 2;clear hb hr hd iY hle
  go_enter Tryz.func196,Tryz.ntmps196
  go_wp2
  go_ret2
  exact ⟨rfl,aq.refl _ _,H0.out⟩
 ·have Dv:0 < l.length:=List.length_pos_iff.2 ki;obtain ⟨g,off,cap,ps,f,rfl,rfl,cG,kV,hl,_,oF⟩:=h.raw (by omega);have Hz:Hid (Rn.hd l=ps.getD f 0):=Lib.hid (by unfold Rn.hd;rw [hl];exact Rn.head ps f _ Dv oF);have HY:Hid (l.tail=Rn.fG ps ((f + 1) % ps.length) l.tail.length):=Lib.hid (by
   rw [List.length_tail];have:=Rn.get ps f l.length Dv;rw [this,← hl])
  have HE:Hid ((!l.isEmpty)=true):=Lib.hid (by simp [ki]);obtain ⟨j,hj⟩:∃ j,j=(f + 1) % ps.length:=⟨_,rfl⟩
  have zi:j < ps.length:=by rw [hj];exact Nat.mod_lt _ (by omega)
  have HJ:=Lib.hid hj;have hq:((l.length:Int) == 0)=false:=by simp [ki]
  obtain ⟨c0,c1,c2,f1,f2⟩:=cG.cells;obtain ⟨cg,fg⟩:=cG.place f oF;have HR:=Lib.hid cG;have h1l:1≤(l.length:Int):=by omega
  have hfI:(f:Int) < ps.length:=by omega
  clear cG hj hl ki h H0;obtain ⟨x,HX⟩:∃ x,Hid (ps.getD f 0=x):=⟨_,rfl⟩
  rw [HX.out] at cg
  go_enter Tryz.func196,Tryz.ntmps196
  go_wp2_with fail
  go_quiet (fail)
  go_wp2_with fail
  refine (Fh _ b _ _ cap f 1 (by exact c0) (by exact c1) oF kV (by omega)).mono ?_
  rintro e w2 ⟨rfl,m2,rfl⟩
  rw [← HJ.out]
  go_wp2_with fail
  go_ret2
  refine ⟨?_,?_,?_⟩
  ·rw [HE.out,Hz.out,HX.out];rfl
  ·exact (((aq.refl [b,g] w).drewN _).setCell (by simp) _).setCell (by simp) _
  ·refine ((((HR.out.draw _).first j).count ((l.length:Int) - 1)).rg rfl l.tail (by simp;omega) kV ?_ (by simp;omega) zi);rw [HJ.out];exact HY.out
set_option maxHeartbeats 1600000 in
theorem aad (w:World) (p:Value) (N:Nat) (l:List Int) (S:List Nat) (v:Int) (h:Rg w p N l S) :
  Calls Tryz.prog 195 #[p,.int .i64 v] w (OV p N (Rn.uv N l) (Rn.rj N l) (Rn.uw N l v) S w):=by
 obtain ⟨b,rfl⟩:=h.shape;have H0:=Lib.hid h;have hle:=h.le
 by_cases j7:l.length=N∧l≠[]
 ·obtain ⟨hN,ki⟩:=j7;have Dv:0 < l.length:=List.length_pos_iff.2 ki;obtain ⟨g,off,cap,ps,f,rfl,rfl,cG,kV,hl,_,oF⟩:=h.raw (by omega);have vf:Hid (Rn.rj ps.length l=true):=Lib.hid (by simp [Rn.rj,hN,ki]);have Hz:Hid (Rn.hd l=ps.getD f 0):=Lib.hid (by unfold Rn.hd;rw [hl];exact Rn.head ps f _ Dv oF);have HY:Hid (l.tail ++ [v]=Rn.fG (ps.set f v) ((f + 1) % ps.length) (l.tail ++ [v]).length):=Lib.hid (by
   have e1:(l.tail ++ [v]).length=ps.length:=by simp;omega
   rw [e1,Rn.pass ps f v (by omega) oF,← hN,← hl])
  obtain ⟨j,hj⟩:∃ j,j=(f + 1) % ps.length:=⟨_,rfl⟩
  have zi:j < ps.length:=by rw [hj];exact Nat.mod_lt _ (by omega)
  have HJ:=Lib.hid hj;have hq:((l.length:Int) == 0)=false:=by simp [ki]
  have og:decide (l.length=ps.length)=true:=by simp [hN]
  obtain ⟨c0,c1,c2,f1,f2⟩:=cG.cells;obtain ⟨cg,fg⟩:=cG.place f oF;have HR:=Lib.hid cG;have HN:=Lib.hid hN;have hfI:(f:Int) < ps.length:=by omega
  have yJ:=cG.2.2;clear cG hj hl ki hN h;obtain ⟨x,HX⟩:∃ x,Hid (ps.getD f 0=x):=⟨_,rfl⟩
  rw [HX.out] at cg
  go_enter Tryz.func195,Tryz.ntmps195
  go_wp2_with fail
  refine (OU _ _ _ _ _ H0.out).mono ?_
  rintro e w1 ⟨rfl,m1,rfl⟩
  rw [og];have kP:=Lib.hid (HR.out.draw m1);have HW:=Lib.hid ((aq.refl [b,g] w).drewN m1);clear HR H0 c0 c1 c2 f1 f2 cg fg og;generalize w.drewN m1=w1 at *;obtain ⟨c0,c1,c2,f1,f2⟩:=kP.out.cells;obtain ⟨cg,fg⟩:=kP.out.place f oF;rw [HX.out] at cg
  go_wp2_with fail
  go_quiet (fail)
  go_wp2_with fail
  go_region
  go_wp2_with fail
  have qJ:=Lib.hid ((kP.out.draw (nq + 1)).put f oF v);obtain ⟨e0,e1,e2,e3,e4⟩:=qJ.out.cells;rw [List.length_set] at e0;refine (Fh _ b _ _ cap f 1 (by exact e0) (by exact e1) oF kV (by omega)).mono ?_
  rintro e w2 ⟨rfl,m2,rfl⟩
  rw [← HJ.out]
  go_wp2_with fail
  go_ret2
  refine ⟨?_,?_,?_⟩
  ·rw [vf.out];have:Rn.uv ps.length l=x:=by simp only [Rn.uv,vf.out,if_true];rw [Hz.out,HX.out]
   rw [this];rfl
  ·exact HW.out.trans (((((aq.refl [b,g] w1).drewN _).setCell (by simp) _).drewN _).setCell (by simp) _) (fun x hx=>.inl hx)
  ·have:Rn.uw ps.length l v=l.tail ++ [v]:=by simp only [Rn.uw,vf.out,if_true]
   rw [this];refine ((qJ.out.draw _).first j).rg (by simp) (l.tail ++ [v]) (by simp;omega) kV ?_ (by simp;omega) zi;rw [HJ.out];exact HY.out
 ·have HF:Hid (Rn.rj N l=false):=Lib.hid (by simp only [Rn.rj];rw [← Bool.not_eq_true];simpa using j7);have zF:Hid (Rn.uv N l=0):=Lib.hid (by simp [Rn.uv,HF.out]);have OX:Hid (Rn.uw N l v=l):=Lib.hid (by simp [Rn.uw,HF.out]);obtain ⟨b',sv,U,ps,f,iY,hb,hr,hd,rfl,Hy⟩:=h;clear Hy;obtain rfl:b=b':=by simpa using iY
  have c2:w.cell? ⟨b,2,none⟩=some (.int .i64 l.length):=hb.cell 2
  cases hq:((l.length:Int) == 0) with
  | true =>
   clear hb hr hd iY hle j7
   go_enter Tryz.func195,Tryz.ntmps195
   go_wp2_with fail
   go_ret2
   exact ⟨by rw [HF.out,zF.out];rfl,aq.refl _ _,by rw [OX.out];exact H0.out⟩
  | false =>
   have og:decide (l.length=N)=false:=by
    simp at hq;simp;intro e;exact j7 ⟨e,hq⟩
   clear hb hr hd iY hle j7
   go_enter Tryz.func195,Tryz.ntmps195
   go_wp2_with fail
   refine (OU _ _ _ _ _ H0.out).mono ?_
   rintro e w1 ⟨rfl,m1,rfl⟩
   rw [og]
   go_wp2_with fail
   go_ret2
   exact ⟨by rw [HF.out,zF.out];rfl,(aq.refl _ _).drewN _,by rw [OX.out];exact H0.out.drewN _⟩
open Go.RowKit
namespace Rn
end Rn
open Go.RowKit
namespace Fl
open Sx
section
variable {P:Program} {c:Cx} {k:List Item} {f:Fm} {L:List an} {ops:Array Oper} {l:List Oper} {o:Oper} {T:TypeId} {ps:String} {af:Array Edge} {gd:Option (Nat × Bool)} {t:Nat}
end
section
variable {P:Program} {c:Cx} {k:List Item} {f:Fm} {L:List an} {ops:Array Oper} {l:List Oper} {o:Oper} {T:TypeId} {ps:String} {af:Array Edge} {gd:Option (Nat × Bool)} {t:Nat}
end
section
variable {P:Program} {F:FuncId} {ok:Nat→Prop} {e:World} {L0 L:List an} {ι:Type} {post:ι→D × List an} {fn:Func} {N:Nat} {f:Fm} {k:List Item}
theorem J.ux (E:List an) {L':List an} (hL:L=E ++ L') (hf:P.funcs[F]?=some fn) {rs:List ResultVar} {ds:List D} (iQ:fn.results=rs.toArray) (h:iI P f L rs ds) {d:D} (i:ι) (hle:eU (qh ds) d) (hp:post i=(d,L')):J P (cx F ok e L0 post N) [] f L:=by
 subst hL;exact J.fin hf iQ h i hle ((List.range L'.length).map (· + E.length)) (List.pairwise_map.2 (List.nodup_range.imp (fun h e=>h (by omega)))) (Kr E L') hp
end
section
variable {P:Program} {F:FuncId} {ds:List D}
end
end Fl
open Go.RowKit
namespace Fl
open Sx
end Fl
open Go.RowKit
namespace Fl
open Sx
theorem aae (p:Value) (n:Nat) (R:List (List Int)) (S:List Nat) (k:Int):av Tryz.prog 194 [.c (.v p),.c (nI k)] [aO (tQ p n R) S] (fun _:Unit=>(.c (nI (Qu.row R k).length),[aO (tQ p n R) S])) :=
 av.jb tQ.ok tQ.ok fun ok e xs hd h=>by
  obtain rfl:=hd.v2;refine (Z0 e p n R S k h).mono ?_
  rintro en w' ⟨rfl,rfl⟩
  exact ⟨_,rfl,aq.refl _ _,h,RD.v rfl⟩
theorem aaf (p:Value) (size most:Nat) (s:Po.St) (S:List Nat) (g:Int) (v:Po.Inv size most s):av Tryz.prog 148 [.c (.v p),.c (nI g)] [aO (tP p size most s) S] (fun S':List Nat=>(.aZ [.c (nI (Po.take size most s g).2.1),.c (bI (Po.take size most s g).2.2)],[aO (tP p size most (Po.take size most s g).1) S'])) :=
 av.aO (ι:=List Nat) (Ψ:=fun _=>tP p size most (Po.take size most s g).1) (S':=fun S'=>S') (d:=fun _=>.aZ [.c (nI (Po.take size most s g).2.1),.c (bI (Po.take size most s g).2.2)]) tP.ok (fun _=>tP.ok) fun ok e xs hd h=>by
  obtain rfl:=hd.v2;refine (Z1 e p size most s S g h v).mono ?_
  rintro en w' ⟨rfl,S',h1,h2,h3⟩
  exact ⟨S',_,rfl,h2,h3,h1,RD.vj rfl rfl⟩
theorem aag (l:List (Value × Nat × List Int)) (S:List Nat) {i:Nat} {p:Value} {N:Nat} {b:List Int} (hi:l[i]?=some (p,N,b)):av Tryz.prog 196 [.c (.v p)] [aO (tR l) S] (fun _:Unit=>(.aZ [.c (nI (Rn.hd b)),.c (bI (!b.isEmpty))],[aO (tR (l.set i (p,N,b.tail))) S])) :=
 av.jb tR.ok tR.ok fun ok e xs hd h=>by
  obtain rfl:=hd.v1;obtain ⟨Si,h1,h2,h3⟩:=h.at_ hi;refine (aab e p N b Si h1).mono ?_
  rintro en w' ⟨rfl,k1,k2⟩
  exact ⟨_,rfl,k1.mono (fun x hx=>.inl (h2 x hx)),h3 _ _ k1 k2,RD.vj rfl rfl⟩
theorem aah (l:List (Value × Nat × List Int)) (S:List Nat) {i:Nat} {p:Value} {N:Nat} {b:List Int} (hi:l[i]?=some (p,N,b)) (v:Int):av Tryz.prog 195 [.c (.v p),.c (nI v)] [aO (tR l) S] (fun _:Unit=>(.aZ [.c (nI (Rn.uv N b)),.c (bI (Rn.rj N b))],[aO (tR (l.set i (p,N,Rn.uw N b v))) S])) :=
 av.jb tR.ok tR.ok fun ok e xs hd h=>by
  obtain rfl:=hd.v2;obtain ⟨Si,h1,h2,h3⟩:=h.at_ hi;refine (aad e p N b Si v h1).mono ?_
  rintro en w' ⟨rfl,k1,k2⟩
  exact ⟨_,rfl,k1.mono (fun x hx=>.inl (h2 x hx)),h3 _ _ k1 k2,RD.vj rfl rfl⟩
theorem aai (l:List (Value × Nat × List Int)) (S:List Nat) {i:Nat} {p:Value} {N:Nat} {b:List Int} (hi:l[i]?=some (p,N,b)):av Tryz.prog 193 [.c (.v p)] [aO (tR l) S] (fun _:Unit=>(.c (nI b.length),[aO (tR l) S])) :=
 av.jb tR.ok tR.ok fun ok e xs hd h=>by
  obtain rfl:=hd.v1;obtain ⟨Si,h1,h2,h3⟩:=h.at_ hi;refine (aaa e p N b Si h1).mono ?_
  rintro en w' ⟨rfl,rfl⟩
  exact ⟨_,rfl,aq.refl _ _,h,RD.v rfl⟩
end Fl
open Go.RowKit
namespace Fl
open Sx
section
variable {P:Program} {c:Cx} {k:List Item} {f:Fm} {L L2:List an}
end
section
variable {P:Program} {c:Cx} {k:List Item} {f:Fm} {L L2:List an}
end
end Fl
open Go.RowKit
namespace Fl
open Sx
set_option maxRecDepth 100000
section
variable {P:Program} {c:Cx} {f:Fm} {L:List an} {T:TypeId} {ps:String} {af:Array Edge} {gd:Option (Nat × Bool)} {t:Nat}
end
end Fl
open Go.RowKit
namespace Fl
open Sx
set_option maxRecDepth 100000
end Fl
open Go.RowKit
namespace Fl
open Sx
set_option maxRecDepth 100000
end Fl
open Go.RowKit
namespace Fl
open Sx
set_option maxRecDepth 100000
end Fl
open Go.RowKit
namespace Fl
open Sx
set_option maxRecDepth 100000
end Fl
open Go.RowKit
namespace Fl
open Sx
section
variable {α:Type} {E:World→List Value→α→List Nat→Prop} {enc:α→List A}
end
end Fl
open Go.RowKit
namespace Fl
open Sx
set_option maxRecDepth 100000
section
variable {P:Program} {c:Cx} {k:List Item} {f:Fm} {L L2:List an} {T:TypeId} {ps:String} {af:Array Edge} {gd:Option (Nat × Bool)} {t:Nat}
end
end Fl
open Go.RowKit
namespace Fl
open Sx
set_option maxRecDepth 100000
section
variable {P:Program} {c:Cx} {f:Fm} {L:List an} {T:TypeId} {ps:String} {af:Array Edge} {gd:Option (Nat × Bool)} {t:Nat}
theorem Qt.OY {x y:Operand} {X Y:Nat} {m:Bool} [i:Bb P X] (h:bg f x=some (.c (.v (.bool m)))) (hy:bg f y=some (.c (.v (.bool m)))):Qt P c [] ⟨t,.binOp .neq X x y Y,T,ps,af,gd⟩ f L (.c (.v (.bool false))) :=
 (Qt.yh h hy).eq (by simp)
theorem H7 {ok:Nat→Prop} {w:World}:∀ {zs:List Value} {xs:List Value},RC ok w (vs zs) xs→xs=zs
 | [],xs,h=>h.n0
 | z :: zs,xs,h=>by
  obtain ⟨ys,rfl,r⟩:=RC.c1 (fA:=vs zs) h;rw [H7 r]
theorem Qt.eqS {x y:Operand} {X Y:Nat} (zs:List Value) (h:bg f x=some (.agg (vs zs))) (hy:bg f y=some (.agg (vs zs))) (hr:∀ w,(binOp .eql X (.agg zs.toArray) (.agg zs.toArray)).run P w=.ok (.bool true) w) (hg:P.eqGuardType P.depth X=false):Qt P c [] ⟨t,.binOp .eql X x y Y,T,ps,af,gd⟩ f L (.c (.v (.bool true))):=⟨fun a w s=>by
 have rx:=s.ev h;have ry:=s.ev hy;unfold RD at rx ry;obtain ⟨v1,e1,r1⟩:=rx;obtain ⟨v2,e2,r2⟩:=ry;rw [H7 r1] at e1;rw [H7 r2] at e2;refine ⟨.bool true,by unfold RD RA;exact ⟨rfl,rfl⟩,fun w' k=>?_⟩;simp [execOp,e1,e2,hr,Sem.run_bind,run_eqGuard_agg _ _ _ _ _ _ _ hg]⟩
end
theorem aak:Tryz.prog.underlying 45=some (.struct (Tryz.prog.fieldsOf 45)):=by kernel_rfl
theorem aal:Tryz.prog.stoodInHeld 45=false:=by kernel_rfl
theorem aam:Tryz.prog.eqGuardType Tryz.prog.depth 45=false:=by kernel_rfl
theorem aan:∃ f0 f1 f2 f3 f4:Field,(Tryz.prog.fieldsOf 45).toList=[f0,f1,f2,f3,f4]∧(f0.name≠"_"∧f1.name≠"_"∧f2.name≠"_"∧f3.name≠"_"∧f4.name≠"_")∧(f0.type=3∧f1.type=3∧f2.type=2∧f3.type=4∧f4.type=3)∧f0.offset=0∧f1.offset=1∧f2.offset=2∧f3.offset=3∧f4.offset=4:=by
 unfold Program.fieldsOf;rw [Tryz.underlying45];exact ⟨_,_,_,_,_,rfl,⟨by decide,by decide,by decide,by decide,by decide⟩,⟨rfl,rfl,rfl,rfl,rfl⟩,rfl,rfl,rfl,rfl,rfl⟩
theorem aao (w:World) (x0:Int) (x1:Int) (x2:Int) (x3:Bool) (x4:Int):(binOp .eql 45 (.agg #[.int .i64 x0,.int .i64 x1,.int .i64 x2,.bool x3,.int .i64 x4]) (.agg #[.int .i64 x0,.int .i64 x1,.int .i64 x2,.bool x3,.int .i64 x4])).run Tryz.prog w=.ok (.bool true) w:=by
 obtain ⟨f0,f1,f2,f3,f4,hf,⟨n0,n1,n2,n3,n4⟩,⟨t0,t1,t2,t3,t4⟩,o0,o1,o2,o3,o4⟩:=aan;rw [run_eql_struct,run_equalIn_struct _ _ _ _ _ aak aal,hf];have hi:=Tryz.underlying3;have fo:=Tryz.underlying2;have hb:=Tryz.underlying4;simp [Op.eqFields,n0,t0,o0,n1,t1,o1,n2,t2,o2,n3,t3,o3,n4,t4,o4,go_sem,hi,fo,hb]
end Fl
open Go.RowKit
namespace Fl
open Sx
set_option maxRecDepth 100000
end Fl
open Go.RowKit
namespace Sx
section
variable {s:ah} {g k:Nat} {x y:Gr} {f:Gr→Gr} {i j:Int} {d e:Su} {c:Int} {n:Cn}
end
end Sx
namespace Fl
open Sx
section
variable {P:Program} {F:FuncId} {ds:List D} {L Ll Lr:List an}
end
instance qS.succ {q:an} {L:List an} {b:Nat} {B:List an} {mk:List an→List an} [h:qS L b B mk]:qS (q :: L) b B (fun A=>q :: mk A):=⟨by rw [h.h],by
 obtain ⟨E,hE⟩:=h.e;exact ⟨q :: E,fun X=>by rw [hE X];rfl⟩⟩
section
variable {P:Program} {c:Cx} {k:List Item} {f:Fm} {L L2:List an} {T X:TypeId} {ps:String} {af:Array Edge} {gd:Option (Nat × Bool)} {t:Nat}
end
def uy (L:List an):List Nat:=List.range L.length
theorem OZ {L:List an} {x:Nat} (h:x∈bq L):x∈jM L (uy L):=by
 obtain ⟨r,hr,hx⟩:=dz.1 h;obtain ⟨i,hi⟩:=List.getElem?_of_mem hr;exact yA.2 ⟨i,List.mem_range.2 (List.getElem?_eq_some_iff.1 hi).1,r,hi,hx⟩
def ku (S:List Nat) (L:List an):Prop:=∀ x∈S,x∈bq L
theorem ku.nil {L:List an}:ku [] L:=fun x hx=>by cases hx
theorem ku.bq {L Ll:List an} {L':Unit→List an} [h:vK L Ll (fun _:Unit=>([]:List an)) L']:ku (Fl.bq Ll) L:=fun x hx=>by
 obtain ⟨E,h1,_⟩:=h.h;rw [h1,oS];exact .inr hx
section
variable {P:Program} {c:Cx} {k:List Item} {f f0:Fm} {L L0:List an} {ops:Array Oper} {o:Oper} {m:Option Nat} {n:Nat} {aM:Array Bool}
theorem JW.O0 (m:Option Nat) (h:JD P c ops m (uy L) n aM k f L f L):JW P c ops n aM k f L:=JW.iU _ _ h
theorem JS.p6 {S:List Nat} {i t:Nat} {ι:Type} {g:ι→D} {L':ι→List an} (hi:ops[i]?=some o) (hd:o.dst=some t) (hw:ee ops o f=true) (ht:t < c.N) (q:Ld P c o f L S (fun x=>(t,g x) :: f) L') (hS:ku S L)
  (h:∀ x,JD P c ops m (uy L0) n (aM.setIfInBounds i true) k ((t,g x) :: f) (L' x) ((t,stays (g x)) :: f0) L0):JS P c ops m (uy L0) n aM k f L f0 L0 i:=⟨fun a w w0 s s0 kp ho=>by
 refine wpOp_step hi (fun K hK=>?_);rw [ee.run hw s,if_pos rfl];refine q.go a w s K _ fun x v w' qo sx hf=>?_
 have oU:aq (jM L0 (uy L0)) w0 w':=kp.trans qo fun x hx=>by
  rcases ho x (hS x hx) with h | h
  ·exact .inl (OZ h)
  ·exact .inr h
 refine hK _ _ (.inr ⟨oU,(h x).go _ w' w0 sx ?_ oU ?_⟩)
 ·rw [hd];exact s0.lX ht (stays.rep (by
   have h1:=sx.fr t (g x) (qg _ _ _);have h2:=s.size;rw [hd] at h1;simpa [Act.put,Array.getD_eq_getD_getElem?,Array.getElem?_setIfInBounds,h2,ht] using h1))
 ·intro y hy;rcases hf y hy with h1 | h1
  ·exact ho y h1
  ·exact .inr (Nat.le_trans kp.size h1)⟩
end
theorem O1 {b:Nat} {u:U} {s:ah} {k:Nat} (v:List Int) (hk:k < s.au.length) (h8:k < 8):wd b u (aA s ((k:Int) + 1) { cn s ((k:Int) + 1) with buf:=v })=(wd b u s).set 11 (aO (tR ((kW u s).set k (u.rs k,(cn s ((k:Int) + 1)).cap.toNat,v))) u.TR):=by
 rw [Cy hk h8,GB (c:={ cn s ((k:Int) + 1) with buf:=v }) h8 rfl rfl];dsimp only;rw [Gz hk,Gy hk];rfl
section
variable {P:Program} {c:Cx} {k:List Item} {fm:Fm} {L B:List an} {mk:List an→List an} {ops:Array Oper} {l:List Oper} {u:U} {s:ah} {g:Nat}
end
section
variable (b:Nat) (u:U) (s:ah)
variable {s}
theorem aap (Q:Qs s) {k:Nat} (hk:k < s.au.length) (x:Int) (h0:0≤x) (h1:x < s.aB.length) (hn:∀ c,x∉(cn s c).recv∧x∉(cn s c).send) :
  av Tryz.prog 109 [.c (.v u.pQ),.c (nI (2 * ((k:Int) + 1) - 2)),.c (nI x)] (wd b u s) (fun _:Unit=>(.c (bI true),wd b u (aA s ((k:Int) + 1) { cn s ((k:Int) + 1) with recv:=(cn s ((k:Int) + 1)).recv ++ [x] }))):=by
 have c8:=Q.c8;have h:=Fq u.pQ s.aB.length (qW s) u.TQ (2 * ((k:Int) + 1) - 2) x;have e:Qu.push s.aB.length (qW s) (2 * ((k:Int) + 1) - 2) x=(((qW s).set (2 * k) ((cn s ((k:Int) + 1)).recv ++ [x])).set (2 * k + 1) (cn s ((k:Int) + 1)).send,true):=by
  have hl:Qu.loc (qW s) x=none:=by
   rw [Qu.qD];intro hm;obtain ⟨l,hl,hx⟩:=List.mem_flatten.1 hm;obtain ⟨j,hj⟩:=List.getElem?_of_mem hl;have CU:j < 16:=by have:=(List.getElem?_eq_some_iff.1 hj).1;rwa [Aj] at this
   rw [M5 s CU] at hj
   cases hj
   split at hx
   ·exact (hn _).1 hx
   ·exact (hn _).2 hx
  have hr:=Fv (s:=s) (k:=k) (by omega);have wR:Qu.line (qW s) (2 * ((k:Int) + 1) - 2)=true:=by unfold Qu.line;rw [Aj];simp only [Bool.and_eq_true,decide_eq_true_eq];omega
  have hs:((qW s).set (2 * k) ((cn s ((k:Int) + 1)).recv ++ [x]))[2 * k + 1]?=some (cn s ((k:Int) + 1)).send:=by
   rw [List.getElem?_set_ne (by omega)];exact (Ag (by omega)).2
  unfold Qu.push;rw [wR,hl,if_pos (by simp;omega),hr,qT hs,show (2 * ((k:Int) + 1) - 2).toNat=2 * k by omega]
 rw [e] at h;exact av.at_ 9 rfl h fun _=>M0 _ _ hk (by omega)
end
end Fl
end Go.Proofs.YtdjhhbpedllnhaaGreat
