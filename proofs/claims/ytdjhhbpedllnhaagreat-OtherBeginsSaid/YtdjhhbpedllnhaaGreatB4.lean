/-
  What the laws need, part B4.
  Conditions: none.
-/
import Derived.Test.YtdjhhbpedllnhaaGreatB3
import Derived.Laws.StructEq
set_option linter.unusedVariables false
set_option linter.unusedSimpArgs false
set_option linter.unnecessarySimpa false
set_option maxHeartbeats 2000000
namespace Go.Proofs.YtdjhhbpedllnhaaGreat
open Go.RowKit
namespace Pn
end Pn
set_option maxRecDepth 100000 in
set_option maxHeartbeats 3200000 in
theorem PC (w:World) (o:Pn.Op) (va:Value) (SA:List Nat) (ha:GV mh 3 w va o.cases SA) (hb:1≤o.kind∧o.kind≤9∧0≤o.ch∧o.ch≤8∧0≤o.n∧o.n≤4∧0≤o.v∧o.v≤255∧o.cases.length≤6) (hk:o.kind=1) :
  Calls Tryz.prog 169 #[.agg #[.int .i64 o.kind,.int .i64 o.ch,.int .i64 o.n,.int .i64 o.v,va,.bool o.de]] w fun e w'=>e=.returned (.bool (Pn.fG o))∧aP [] w w':=by
 have nQ:=ha.le;unfold maxLen at nQ;obtain ⟨ao,cap,rfl⟩:=ha.shape;have HA:=Lib.hid ha;obtain ⟨q,iL⟩:∃ q,Pn.fG o=q:=⟨_,rfl⟩
 rw [iL];have HQ:=Lib.hid iL;have KA:Hid (aP [] w (w.alloc (.cells #[.int .i64 o.kind,.int .i64 o.ch,.int .i64 o.n,.int .i64 o.v,.slice ao o.cases.length cap,.bool o.de] 50))):=Lib.hid ((aP.refl [] w).alloc _);clear ha iL;obtain ⟨b1,b2,b3,b4,b5,b6,b7,b8,b9⟩:=hb;obtain ⟨k,ch,n,v,cs,de⟩:=o;simp only at *;have HS:Hid ((Pn.jD k=false→ch=0)→(Pn.jE k=false→v=0)→(k≠1→n=0)→(k≠9→cs=[]∧de=false)→(∀ (j:Nat) (c:Pn.Cs),cs[j]?=some c→Pn.kL c=true)→true=q):=Lib.hid (fun d1 d2 d3 d4 h=>by
  rw [← HQ.out,eq_comm];unfold Pn.fG;rw [decide_eq_true_iff];refine ⟨b1,b2,b3,b4,b5,b6,b7,b8,b9,d1,d2,d3,d4,fun c hc=>?_⟩;obtain ⟨j,hj,rfl⟩:=List.getElem_of_mem hc;exact h j _ (List.getElem?_eq_getElem hj))
 have HF:Hid (¬ ((Pn.jD k=false→ch=0)∧(Pn.jE k=false→v=0)∧(k≠1→n=0)∧(k≠9→cs=[]∧de=false))→false=q):=Lib.hid (fun hn=>by
  rw [← HQ.out,eq_comm];unfold Pn.fG;rw [decide_eq_false_iff_not];rintro ⟨h1,h2,h3,h4,h5,h6,h7,h8,h9,mZ,mj,lJ,kD,_⟩;exact hn ⟨mZ,mj,lJ,kD⟩)
 subst hk;have fZ:Hid (Pn.jD 1=false∧Pn.jE 1=false):=Lib.hid (by constructor <;> simp [Pn.jD,Pn.jE] <;> omega)
 by_cases cF:ch=0∧v=0∧de=false∧cs.length=0
 ·obtain ⟨e0,e1,e2,e3⟩:=cF;subst e0 e1 e2;have e9:cs.length≤0:=by omega
  have uo:=Lib.hid (HS.out (fun _=>rfl) (fun _=>rfl) (fun h=>absurd rfl h) (fun _=>⟨List.eq_nil_of_length_eq_zero (by omega),rfl⟩));clear HS HF
  try clear e3
  try clear e2
  go_enter Tryz.func169,Tryz.ntmps169
  go_wp2_with fail
  refine (sE _ _).mono ?_
  rintro e w3 ⟨rfl,rfl⟩
  rw [fZ.out.1]
  go_wp2_with (go_at_call 221;refine (sF _ _).mono ?_;rintro e w4 ⟨rfl,rfl⟩;rw [fZ.out.2])
  go_loopw [97] (fun u wr=>∃ j:Nat,j≤cs.length∧u=.int .i64 j∧Hid (aP [] w wr∧∀ (i:Nat) (c:Pn.Cs),i < j→cs[i]?=some c→Pn.kL c=true)) (fun u _=>cs.length - (intOf u).toNat)
  case atStart=>exact ⟨0,Nat.zero_le _,rfl,Lib.hid ⟨KA.out,fun i c hi=>by omega⟩⟩
  case round =>
   obtain ⟨j,hj,rfl,HI⟩:=hrel;obtain ⟨wo,rfl⟩:∃ wo:World,wo=wr:=⟨_,rfl⟩
   obtain rfl:j=cs.length:=by omega
   have HN:Hid (true=q):=Lib.hid (uo.out fun i c hc=>HI.out.2 i c (List.getElem?_eq_some_iff.1 hc).1 hc)
   go_wp2_with fail
   go_ret
   exact ⟨jz HN.out,HI.out.1⟩
 ·have HN:Hid (false=q):=Lib.hid (HF.out (by rintro ⟨d1,d2,d3,d4⟩;have q1:=fZ.out.1;have q2:=fZ.out.2;exact cF ⟨d1 q1,d2 q2,(d4 (by omega)).2,by simp [(d4 (by omega)).1]⟩));have HC:Hid (ch=0→v=0→de=false→cs.length=0→False):=Lib.hid (fun e0 e1 e2 e3=>cF ⟨e0,e1,e2,e3⟩);clear cF
  go_enter Tryz.func169,Tryz.ntmps169
  go_wp2_with fail
  refine (sE _ _).mono ?_
  rintro e w3 ⟨rfl,rfl⟩
  rw [fZ.out.1]
  go_upto_if 93 with (go_at_call 221;refine (sF _ _).mono ?_;rintro e w4 ⟨rfl,rfl⟩;rw [fZ.out.2])
  all_goals
   go_wp2_with fail
   all_goals
    first
     | (exfalso;refine HC.out ?_ ?_ ?_ ?_ <;> (first | assumption | omega | (simpa using ‹¬de=true›));done)
     | (go_ret;exact ⟨jz HN.out,(aP.refl [] w).alloc _⟩)
open Go.RowKit
namespace Pn
end Pn
set_option maxRecDepth 100000 in
set_option maxHeartbeats 3200000 in
theorem PD (w:World) (o:Pn.Op) (va:Value) (SA:List Nat) (ha:GV mh 3 w va o.cases SA) (hb:1≤o.kind∧o.kind≤9∧0≤o.ch∧o.ch≤8∧0≤o.n∧o.n≤4∧0≤o.v∧o.v≤255∧o.cases.length≤6) (hv:o.kind=2∨o.kind=4) (hk:¬ o.kind=1) :
  Calls Tryz.prog 169 #[.agg #[.int .i64 o.kind,.int .i64 o.ch,.int .i64 o.n,.int .i64 o.v,va,.bool o.de]] w fun e w'=>e=.returned (.bool (Pn.fG o))∧aP [] w w':=by
 have nQ:=ha.le;unfold maxLen at nQ;obtain ⟨ao,cap,rfl⟩:=ha.shape;have HA:=Lib.hid ha;obtain ⟨q,iL⟩:∃ q,Pn.fG o=q:=⟨_,rfl⟩
 rw [iL];have HQ:=Lib.hid iL;have KA:Hid (aP [] w (w.alloc (.cells #[.int .i64 o.kind,.int .i64 o.ch,.int .i64 o.n,.int .i64 o.v,.slice ao o.cases.length cap,.bool o.de] 50))):=Lib.hid ((aP.refl [] w).alloc _);clear ha iL;obtain ⟨b1,b2,b3,b4,b5,b6,b7,b8,b9⟩:=hb;obtain ⟨k,ch,n,v,cs,de⟩:=o;simp only at *;have HS:Hid ((Pn.jD k=false→ch=0)→(Pn.jE k=false→v=0)→(k≠1→n=0)→(k≠9→cs=[]∧de=false)→(∀ (j:Nat) (c:Pn.Cs),cs[j]?=some c→Pn.kL c=true)→true=q):=Lib.hid (fun d1 d2 d3 d4 h=>by
  rw [← HQ.out,eq_comm];unfold Pn.fG;rw [decide_eq_true_iff];refine ⟨b1,b2,b3,b4,b5,b6,b7,b8,b9,d1,d2,d3,d4,fun c hc=>?_⟩;obtain ⟨j,hj,rfl⟩:=List.getElem_of_mem hc;exact h j _ (List.getElem?_eq_getElem hj))
 have HF:Hid (¬ ((Pn.jD k=false→ch=0)∧(Pn.jE k=false→v=0)∧(k≠1→n=0)∧(k≠9→cs=[]∧de=false))→false=q):=Lib.hid (fun hn=>by
  rw [← HQ.out,eq_comm];unfold Pn.fG;rw [decide_eq_false_iff_not];rintro ⟨h1,h2,h3,h4,h5,h6,h7,h8,h9,mZ,mj,lJ,kD,_⟩;exact hn ⟨mZ,mj,lJ,kD⟩)
 have q1:(k != 1)=true:=by simp;omega
 have q9:(k != 9)=true:=by simp;omega
 have fZ:Hid (Pn.jD k=true∧Pn.jE k=true):=Lib.hid (by constructor <;> simp [Pn.jD,Pn.jE] <;> omega)
 by_cases cF:n=0∧de=false∧cs.length=0
 ·obtain ⟨e0,e1,e2⟩:=cF;subst e0 e1;have e9:cs.length≤0:=by omega
  have uo:=Lib.hid (HS.out (fun h=>by rw [fZ.out.1] at h;cases h) (fun h=>by rw [fZ.out.2] at h;cases h) (fun _=>rfl) (fun _=>⟨List.eq_nil_of_length_eq_zero (by omega),rfl⟩));clear HS HF
  try clear e3
  try clear e2
  go_enter Tryz.func169,Tryz.ntmps169
  go_wp2_with fail
  refine (sE _ _).mono ?_
  rintro e w3 ⟨rfl,rfl⟩
  rw [fZ.out.1]
  go_wp2_with (go_at_call 221;refine (sF _ _).mono ?_;rintro e w4 ⟨rfl,rfl⟩;rw [fZ.out.2])
  go_loopw [97] (fun u wr=>∃ j:Nat,j≤cs.length∧u=.int .i64 j∧Hid (aP [] w wr∧∀ (i:Nat) (c:Pn.Cs),i < j→cs[i]?=some c→Pn.kL c=true)) (fun u _=>cs.length - (intOf u).toNat)
  case atStart=>exact ⟨0,Nat.zero_le _,rfl,Lib.hid ⟨KA.out,fun i c hi=>by omega⟩⟩
  case round =>
   obtain ⟨j,hj,rfl,HI⟩:=hrel;obtain ⟨wo,rfl⟩:∃ wo:World,wo=wr:=⟨_,rfl⟩
   obtain rfl:j=cs.length:=by omega
   have HN:Hid (true=q):=Lib.hid (uo.out fun i c hc=>HI.out.2 i c (List.getElem?_eq_some_iff.1 hc).1 hc)
   go_wp2_with fail
   go_ret
   exact ⟨jz HN.out,HI.out.1⟩
 ·have HN:Hid (false=q):=Lib.hid (HF.out (by rintro ⟨d1,d2,d3,d4⟩;have q1:=fZ.out.1;have q2:=fZ.out.2;exact cF ⟨d3 (by omega),(d4 (by omega)).2,by simp [(d4 (by omega)).1]⟩));have HC:Hid (n=0→de=false→cs.length=0→False):=Lib.hid (fun e0 e1 e2=>cF ⟨e0,e1,e2⟩);clear cF
  go_enter Tryz.func169,Tryz.ntmps169
  go_wp2_with fail
  refine (sE _ _).mono ?_
  rintro e w3 ⟨rfl,rfl⟩
  rw [fZ.out.1]
  go_upto_if 93 with (go_at_call 221;refine (sF _ _).mono ?_;rintro e w4 ⟨rfl,rfl⟩;rw [fZ.out.2])
  all_goals
   go_wp2_with fail
   all_goals
    first
     | (exfalso;refine HC.out ?_ ?_ ?_ <;> (first | assumption | omega | (simpa using ‹¬de=true›));done)
     | (go_ret;exact ⟨jz HN.out,(aP.refl [] w).alloc _⟩)
open Go.RowKit
namespace Pn
theorem PE {o:Op} {j:Nat} {c:Cs} (h:o.cases[j]?=some c) (hc:kL c=false):fG o=false:=PA h (by rw [IA];exact hc)
end Pn
set_option maxRecDepth 100000 in
set_option maxHeartbeats 3200000 in
theorem PF (w:World) (o:Pn.Op) (va:Value) (SA:List Nat) (ha:GV mh 3 w va o.cases SA) (hb:1≤o.kind∧o.kind≤9∧0≤o.ch∧o.ch≤8∧0≤o.n∧o.n≤4∧0≤o.v∧o.v≤255∧o.cases.length≤6) (hk:o.kind=9) :
  Calls Tryz.prog 169 #[.agg #[.int .i64 o.kind,.int .i64 o.ch,.int .i64 o.n,.int .i64 o.v,va,.bool o.de]] w fun e w'=>e=.returned (.bool (Pn.fG o))∧aP [] w w':=by
 have nQ:=ha.le;unfold maxLen at nQ;obtain ⟨ao,cap,rfl⟩:=ha.shape;have HA:=Lib.hid ha;obtain ⟨q,iL⟩:∃ q,Pn.fG o=q:=⟨_,rfl⟩
 rw [iL];have HQ:=Lib.hid iL;have KA:Hid (aP [] w (w.alloc (.cells #[.int .i64 o.kind,.int .i64 o.ch,.int .i64 o.n,.int .i64 o.v,.slice ao o.cases.length cap,.bool o.de] 50))):=Lib.hid ((aP.refl [] w).alloc _);clear ha iL;obtain ⟨b1,b2,b3,b4,b5,b6,b7,b8,b9⟩:=hb;obtain ⟨k,ch,n,v,cs,de⟩:=o;simp only at *;have HS:Hid ((Pn.jD k=false→ch=0)→(Pn.jE k=false→v=0)→(k≠1→n=0)→(k≠9→cs=[]∧de=false)→(∀ (j:Nat) (c:Pn.Cs),cs[j]?=some c→Pn.kL c=true)→true=q):=Lib.hid (fun d1 d2 d3 d4 h=>by
  rw [← HQ.out,eq_comm];unfold Pn.fG;rw [decide_eq_true_iff];refine ⟨b1,b2,b3,b4,b5,b6,b7,b8,b9,d1,d2,d3,d4,fun c hc=>?_⟩;obtain ⟨j,hj,rfl⟩:=List.getElem_of_mem hc;exact h j _ (List.getElem?_eq_getElem hj))
 have HF:Hid (¬ ((Pn.jD k=false→ch=0)∧(Pn.jE k=false→v=0)∧(k≠1→n=0)∧(k≠9→cs=[]∧de=false))→false=q):=Lib.hid (fun hn=>by
  rw [← HQ.out,eq_comm];unfold Pn.fG;rw [decide_eq_false_iff_not];rintro ⟨h1,h2,h3,h4,h5,h6,h7,h8,h9,mZ,mj,lJ,kD,_⟩;exact hn ⟨mZ,mj,lJ,kD⟩)
 subst hk;have fZ:Hid (Pn.jD 9=false∧Pn.jE 9=false):=Lib.hid (by constructor <;> simp [Pn.jD,Pn.jE] <;> omega)
 by_cases cF:ch=0∧v=0∧n=0
 ·obtain ⟨e0,e1,e2⟩:=cF;subst e0 e1 e2;have uo:=Lib.hid (HS.out (fun _=>rfl) (fun _=>rfl) (fun _=>rfl) (fun h=>absurd rfl h));clear HS HF
  try clear e3
  try clear e2
  go_enter Tryz.func169,Tryz.ntmps169
  go_wp2_with fail
  refine (sE _ _).mono ?_
  rintro e w3 ⟨rfl,rfl⟩
  rw [fZ.out.1]
  go_wp2_with (go_at_call 221;refine (sF _ _).mono ?_;rintro e w4 ⟨rfl,rfl⟩;rw [fZ.out.2])
  go_loopw [97] (fun u wr=>∃ j:Nat,j≤cs.length∧u=.int .i64 j∧Hid (aP [] w wr∧∀ (i:Nat) (c:Pn.Cs),i < j→cs[i]?=some c→Pn.kL c=true)) (fun u _=>cs.length - (intOf u).toNat)
  case atStart=>exact ⟨0,Nat.zero_le _,rfl,Lib.hid ⟨KA.out,fun i c hi=>by omega⟩⟩
  case round =>
   obtain ⟨j,hj,rfl,HI⟩:=hrel;obtain ⟨wo,rfl⟩:∃ wo:World,wo=wr:=⟨_,rfl⟩
   by_cases iu:j < cs.length
   ·obtain ⟨x,hx⟩:∃ x,cs[j]?=some x:=⟨_,List.getElem?_eq_getElem iu⟩
    obtain ⟨g1,PG,rfl,_,m8,a0,a1,a2⟩:=(HA.out.then yF HI.out.1).case hx;have HX:=Lib.hid hx;clear hx;obtain ⟨xs,xc,xv⟩:=x;simp only at a0 a1 a2;have KR:Hid (aP [] w (wo.alloc (.cells #[.bool xs,.int .i64 xc,.int .i64 xv] 72))):=Lib.hid (HI.out.1.alloc _)
    by_cases hr:0≤xc∧xc≤8∧0≤xv∧xv≤255∧(xs=false→xv=0)
    ·have HO:Hid (Pn.kL ⟨xs,xc,xv⟩=true):=Lib.hid (by unfold Pn.kL;rw [decide_eq_true_iff];exact hr);obtain ⟨e1,e2,e3,e4,e5⟩:=hr
     cases xs with
     | true =>
      clear e5
      go_wp2_with fail
      go_roundw
      case rel=>exact ⟨j + 1,by omega,by go_num,Lib.hid ⟨KR.out,fun i c hi hc=>by
       by_cases e:i=j
       ·subst e;rw [HX.out] at hc;cases hc;exact HO.out
       ·exact HI.out.2 i c (by omega) hc⟩⟩
      case measure=>simp [intOf];omega
     | false =>
      have e6:=e5 rfl;subst e6;clear e5
      go_wp2_with fail
      go_roundw
      case rel=>exact ⟨j + 1,by omega,by go_num,Lib.hid ⟨KR.out,fun i c hi hc=>by
       by_cases e:i=j
       ·subst e;rw [HX.out] at hc;cases hc;exact HO.out
       ·exact HI.out.2 i c (by omega) hc⟩⟩
      case measure=>simp [intOf];omega
    ·have HN:Hid (false=q):=Lib.hid (by rw [← HQ.out,Pn.PE HX.out (by unfold Pn.kL;rw [decide_eq_false_iff_not];exact hr)]);have HR:=Lib.hid hr;clear hr
     cases xs with
     | true =>
      have Ej:Hid (0≤xc→xc≤8→0≤xv→xv≤255→False):=Lib.hid (fun a b c d=>HR.out ⟨a,b,c,d,fun h=>by cases h⟩);clear HR
      go_upto_if 128 with fail
      all_goals
       go_wp2_with fail
       all_goals
        first
         | (exfalso;refine Ej.out ?_ ?_ ?_ ?_ <;> omega)
         | (go_ret;exact ⟨jz HN.out,HI.out.1.alloc _⟩)
     | false =>
      have Ej:Hid (0≤xc→xc≤8→0≤xv→xv≤255→xv≠0):=Lib.hid (fun a b c d e=>HR.out ⟨a,b,c,d,fun _=>e⟩);clear HR
      go_upto_if 128 with fail
      all_goals
       go_wp2_with fail
       all_goals
        first
         | (exfalso;refine Ej.out ?_ ?_ ?_ ?_ ?_ <;> (first | omega | (have h:=(show ((((0≤xc∧xc≤8)∧0≤xv)∧xv≤255)∧(xv != 0)=false) by assumption).2;simpa using h)))
         | (go_ret;exact ⟨jz HN.out,HI.out.1.alloc _⟩)
   ·obtain rfl:j=cs.length:=by omega
    have HN:Hid (true=q):=Lib.hid (uo.out fun i c hc=>HI.out.2 i c (List.getElem?_eq_some_iff.1 hc).1 hc)
    go_wp2_with fail
    go_ret
    exact ⟨jz HN.out,HI.out.1⟩
 ·have HN:Hid (false=q):=Lib.hid (HF.out (by rintro ⟨d1,d2,d3,d4⟩;have q1:=fZ.out.1;have q2:=fZ.out.2;exact cF ⟨d1 q1,d2 q2,d3 (by omega)⟩));have HC:Hid (ch=0→v=0→n=0→False):=Lib.hid (fun e0 e1 e2=>cF ⟨e0,e1,e2⟩);clear cF
  go_enter Tryz.func169,Tryz.ntmps169
  go_wp2_with fail
  refine (sE _ _).mono ?_
  rintro e w3 ⟨rfl,rfl⟩
  rw [fZ.out.1]
  go_upto_if 93 with (go_at_call 221;refine (sF _ _).mono ?_;rintro e w4 ⟨rfl,rfl⟩;rw [fZ.out.2])
  all_goals
   go_wp2_with fail
   all_goals
    first
     | (exfalso;refine HC.out ?_ ?_ ?_ <;> (first | assumption | omega | (simpa using ‹¬de=true›));done)
     | (go_ret;exact ⟨jz HN.out,(aP.refl [] w).alloc _⟩)
open Go.RowKit
namespace Pn
end Pn
set_option maxRecDepth 100000 in
set_option maxHeartbeats 3200000 in
theorem PI (w:World) (o:Pn.Op) (va:Value) (SA:List Nat) (ha:GV mh 3 w va o.cases SA) (hb:1≤o.kind∧o.kind≤9∧0≤o.ch∧o.ch≤8∧0≤o.n∧o.n≤4∧0≤o.v∧o.v≤255∧o.cases.length≤6) (hk:¬ o.kind=1) (hv:¬ (o.kind=2∨o.kind=4)) (Ek:¬ o.kind=9) :
  Calls Tryz.prog 169 #[.agg #[.int .i64 o.kind,.int .i64 o.ch,.int .i64 o.n,.int .i64 o.v,va,.bool o.de]] w fun e w'=>e=.returned (.bool (Pn.fG o))∧aP [] w w':=by
 have nQ:=ha.le;unfold maxLen at nQ;obtain ⟨ao,cap,rfl⟩:=ha.shape;have HA:=Lib.hid ha;obtain ⟨q,iL⟩:∃ q,Pn.fG o=q:=⟨_,rfl⟩
 rw [iL];have HQ:=Lib.hid iL;have KA:Hid (aP [] w (w.alloc (.cells #[.int .i64 o.kind,.int .i64 o.ch,.int .i64 o.n,.int .i64 o.v,.slice ao o.cases.length cap,.bool o.de] 50))):=Lib.hid ((aP.refl [] w).alloc _);clear ha iL;obtain ⟨b1,b2,b3,b4,b5,b6,b7,b8,b9⟩:=hb;obtain ⟨k,ch,n,v,cs,de⟩:=o;simp only at *;have HS:Hid ((Pn.jD k=false→ch=0)→(Pn.jE k=false→v=0)→(k≠1→n=0)→(k≠9→cs=[]∧de=false)→(∀ (j:Nat) (c:Pn.Cs),cs[j]?=some c→Pn.kL c=true)→true=q):=Lib.hid (fun d1 d2 d3 d4 h=>by
  rw [← HQ.out,eq_comm];unfold Pn.fG;rw [decide_eq_true_iff];refine ⟨b1,b2,b3,b4,b5,b6,b7,b8,b9,d1,d2,d3,d4,fun c hc=>?_⟩;obtain ⟨j,hj,rfl⟩:=List.getElem_of_mem hc;exact h j _ (List.getElem?_eq_getElem hj))
 have HF:Hid (¬ ((Pn.jD k=false→ch=0)∧(Pn.jE k=false→v=0)∧(k≠1→n=0)∧(k≠9→cs=[]∧de=false))→false=q):=Lib.hid (fun hn=>by
  rw [← HQ.out,eq_comm];unfold Pn.fG;rw [decide_eq_false_iff_not];rintro ⟨h1,h2,h3,h4,h5,h6,h7,h8,h9,mZ,mj,lJ,kD,_⟩;exact hn ⟨mZ,mj,lJ,kD⟩)
 have q1:(k != 1)=true:=by simp;omega
 have q9:(k != 9)=true:=by simp;omega
 have fZ:Hid (Pn.jD k=true∧Pn.jE k=false):=Lib.hid (by constructor <;> simp [Pn.jD,Pn.jE] <;> omega)
 by_cases cF:v=0∧n=0∧de=false∧cs.length=0
 ·obtain ⟨e0,e1,e2,e3⟩:=cF;subst e0 e1 e2;have e9:cs.length≤0:=by omega
  have uo:=Lib.hid (HS.out (fun h=>by rw [fZ.out.1] at h;cases h) (fun _=>rfl) (fun _=>rfl) (fun _=>⟨List.eq_nil_of_length_eq_zero (by omega),rfl⟩));clear HS HF
  try clear e3
  try clear e2
  go_enter Tryz.func169,Tryz.ntmps169
  go_wp2_with fail
  refine (sE _ _).mono ?_
  rintro e w3 ⟨rfl,rfl⟩
  rw [fZ.out.1]
  go_wp2_with (go_at_call 221;refine (sF _ _).mono ?_;rintro e w4 ⟨rfl,rfl⟩;rw [fZ.out.2])
  go_loopw [97] (fun u wr=>∃ j:Nat,j≤cs.length∧u=.int .i64 j∧Hid (aP [] w wr∧∀ (i:Nat) (c:Pn.Cs),i < j→cs[i]?=some c→Pn.kL c=true)) (fun u _=>cs.length - (intOf u).toNat)
  case atStart=>exact ⟨0,Nat.zero_le _,rfl,Lib.hid ⟨KA.out,fun i c hi=>by omega⟩⟩
  case round =>
   obtain ⟨j,hj,rfl,HI⟩:=hrel;obtain ⟨wo,rfl⟩:∃ wo:World,wo=wr:=⟨_,rfl⟩
   obtain rfl:j=cs.length:=by omega
   have HN:Hid (true=q):=Lib.hid (uo.out fun i c hc=>HI.out.2 i c (List.getElem?_eq_some_iff.1 hc).1 hc)
   go_wp2_with fail
   go_ret
   exact ⟨jz HN.out,HI.out.1⟩
 ·have HN:Hid (false=q):=Lib.hid (HF.out (by rintro ⟨d1,d2,d3,d4⟩;have q1:=fZ.out.1;have q2:=fZ.out.2;exact cF ⟨d2 q2,d3 (by omega),(d4 (by omega)).2,by simp [(d4 (by omega)).1]⟩));have HC:Hid (v=0→n=0→de=false→cs.length=0→False):=Lib.hid (fun e0 e1 e2 e3=>cF ⟨e0,e1,e2,e3⟩);clear cF
  go_enter Tryz.func169,Tryz.ntmps169
  go_wp2_with fail
  refine (sE _ _).mono ?_
  rintro e w3 ⟨rfl,rfl⟩
  rw [fZ.out.1]
  go_upto_if 93 with (go_at_call 221;refine (sF _ _).mono ?_;rintro e w4 ⟨rfl,rfl⟩;rw [fZ.out.2])
  all_goals
   go_wp2_with fail
   all_goals
    first
     | (exfalso;refine HC.out ?_ ?_ ?_ ?_ <;> (first | assumption | omega | (simpa using ‹¬de=true›));done)
     | (go_ret;exact ⟨jz HN.out,(aP.refl [] w).alloc _⟩)
open Go.RowKit
set_option maxRecDepth 100000 in
set_option maxHeartbeats 3200000 in
theorem IB (w:World) (o:Pn.Op) (va:Value) (SA:List Nat) (ha:GV mh 3 w va o.cases SA) :
  Calls Tryz.prog 169 #[.agg #[.int .i64 o.kind,.int .i64 o.ch,.int .i64 o.n,.int .i64 o.v,va,.bool o.de]] w fun e w'=>e=.returned (.bool (Pn.fG o))∧aP [] w w':=by
 by_cases hb:1≤o.kind∧o.kind≤9∧0≤o.ch∧o.ch≤8∧0≤o.n∧o.n≤4∧0≤o.v∧o.v≤255∧o.cases.length≤6
 ·by_cases hk:o.kind=1
  ·exact PC w o va SA ha hb hk
  by_cases hv:o.kind=2∨o.kind=4
  ·exact PD w o va SA ha hb hv hk
  by_cases Ek:o.kind=9
  ·exact PF w o va SA ha hb Ek
  ·exact PI w o va SA ha hb hk hv Ek
 ·exact PB w o va SA ha hb
open Go.RowKit
namespace Pn
theorem PJ {l:List Op} {j:Nat} {o:Op} (h:l[j]?=some o) (ho:fG o=false):lY l=false:=by
 unfold lY;rw [decide_eq_false_iff_not];rintro ⟨_,h2⟩;have:=h2 o (List.mem_of_getElem? h);rw [ho] at this;cases this
theorem PK {l:List Op} (h:16 < l.length):lY l=false:=by
 unfold lY;rw [decide_eq_false_iff_not];rintro ⟨h1,_⟩;omega
theorem PL {l:List Op} (h:l.length≤16) (ho:∀ (j:Nat) (o:Op),j < l.length→l[j]?=some o→fG o=true):lY l=true:=by
 unfold lY;rw [decide_eq_true_iff];refine ⟨h,fun o hm=>?_⟩;obtain ⟨j,hj,rfl⟩:=List.getElem_of_mem hm;exact ho j _ hj (List.getElem?_eq_getElem hj)
theorem IC {p:List (List Op)} {k:Nat} {l:List Op} (h:p[k]?=some l) (hl:lY l=false):right p=false:=by
 unfold right;rw [decide_eq_false_iff_not];rintro ⟨_,_,h2⟩;have:=h2 l (List.mem_of_getElem? h);rw [hl] at this;cases this
theorem PM {p:List (List Op)} (h:p.length < 1∨8 < p.length):right p=false:=by
 unfold right;rw [decide_eq_false_iff_not];rintro ⟨h1,h2,_⟩;omega
theorem PN {p:List (List Op)} (h1:1≤p.length) (h2:p.length≤8) (ho:∀ (j:Nat) (l:List Op),j < p.length→p[j]?=some l→lY l=true):right p=true:=by
 unfold right;rw [decide_eq_true_iff];refine ⟨h1,h2,fun o hm=>?_⟩;obtain ⟨j,hj,rfl⟩:=List.getElem_of_mem hm;exact ho j _ hj (List.getElem?_eq_getElem hj)
end Pn
set_option maxHeartbeats 1600000 in
theorem PO (w:World) (v:Value) (p:List (List Pn.Op)) (S:List Nat) (h:GV sD 1 w v p S) :
  Calls Tryz.prog 92 #[v] w fun e w'=>e=.returned (.bool (Pn.right p))∧aP [] w w':=by
 have hle:=h.le;unfold maxLen at hle;obtain ⟨ao,cap,rfl⟩:=h.shape;have HP:=Lib.hid h;obtain ⟨q,iL⟩:∃ q,Pn.right p=q:=⟨_,rfl⟩
 rw [iL];have HQ:=Lib.hid iL;clear h iL
 go_enter Tryz.func92,Tryz.ntmps92
 go_wp2_with fail
 go_loopw [9] (fun u wr=>∃ k:Nat,k≤p.length∧u=.int .i64 k∧Hid (aP [] w wr∧∀ (j:Nat) (l:List Pn.Op),j < k→p[j]?=some l→Pn.lY l=true)) (fun u _=>p.length - (intOf u).toNat)
 case atStart=>exact ⟨0,Nat.zero_le _,rfl,Lib.hid ⟨aP.refl _ _,fun j l hj=>by omega⟩⟩
 case round =>
  obtain ⟨k,hk,rfl,HI⟩:=hrel;obtain ⟨wo,rfl⟩:∃ wo:World,wo=wr:=⟨_,rfl⟩
  by_cases iu:k < p.length
  ·obtain ⟨l,hx⟩:∃ l,p[k]?=some l:=⟨_,List.getElem?_eq_getElem iu⟩
   obtain ⟨g1,PG,_,U1,rfl,_,_,a0,⟨v1,xT,AV⟩,_⟩:=(HP.out.then Ix HI.out.1).one hx
   cases xT;have qQ:=AV.le;unfold maxLen at qQ;obtain ⟨am,cm,rfl⟩:=AV.shape;have HU:=Lib.hid AV;have HX:=Lib.hid hx;clear hx AV
   go_wp2_with fail
   go_loopw [15] (fun u wr=>∃ j:Nat,j≤l.length∧u=.int .i64 j∧Hid (aP [] w wr∧aP [] wo wr∧∀ (i:Nat) (o:Pn.Op),i < j→l[i]?=some o→Pn.fG o=true)) (fun u _=>l.length - (intOf u).toNat)
   case atStart=>exact ⟨0,Nat.zero_le _,rfl,Lib.hid ⟨HI.out.1,aP.refl _ _,fun i o hi=>by omega⟩⟩
   case round =>
    obtain ⟨j,hj,rfl,HJ⟩:=hrel;obtain ⟨wi,rfl⟩:∃ wi:World,wi=wr:=⟨_,rfl⟩
    by_cases PR:j < l.length
    ·obtain ⟨o,ho⟩:∃ o,l[j]?=some o:=⟨_,List.getElem?_eq_getElem PR⟩
     obtain ⟨g2,XJ,vc,U2,rfl,_,_,⟨b0,b1,b2,b3,b4,b5⟩,hu,_⟩:=(HU.out.then Eh HJ.out.2.1).op ho;obtain ⟨ac,cc,rfl⟩:=hu.shape;have HO:=Lib.hid ho;have HG:=Lib.hid hu;clear ho hu
     cases hr:Pn.fG o with
     | false =>
      have HN:Hid (false=q):=Lib.hid (by rw [← HQ.out,Pn.IC HX.out (Pn.PJ HO.out hr)])
      go_wp2_with fail
      refine (IB _ o _ U2 (HG.out.then yF ((aP.refl [] wi).alloc _))).mono ?_
      rintro e w3 ⟨rfl,k3⟩
      rw [hr];have K3:=Lib.hid ((HJ.out.1.alloc _).then k3);have K4:=Lib.hid ((HJ.out.2.1.alloc _).then k3);clear k3
      go_wp2_with fail
      go_ret
      exact ⟨jz HN.out,K3.out⟩
     | true =>
      go_wp2_with fail
      refine (IB _ o _ U2 (HG.out.then yF ((aP.refl [] wi).alloc _))).mono ?_
      rintro e w3 ⟨rfl,k3⟩
      rw [hr];have K3:=Lib.hid ((HJ.out.1.alloc _).then k3);have K4:=Lib.hid ((HJ.out.2.1.alloc _).then k3);have PT:=Lib.hid hr;clear k3 hr
      go_wp2_with fail
      go_roundw
      case rel=>exact ⟨j + 1,by omega,by go_num,Lib.hid ⟨K3.out,K4.out,fun i o2 hi h2=>by
       by_cases e:i=j
       ·subst e;rw [HO.out] at h2;cases h2;exact PT.out
       ·exact HJ.out.2.2 i o2 (by omega) h2⟩⟩
      case measure=>simp [intOf];omega
    ·obtain rfl:j=l.length:=by omega
     by_cases ID:16 < l.length
     ·have HN:Hid (false=q):=Lib.hid (by rw [← HQ.out,Pn.IC HX.out (Pn.PK ID)])
      go_wp2_with fail
      go_ret
      exact ⟨jz HN.out,HJ.out.1⟩
     have PU:l.length≤16:=by omega
     clear ID;have PV:Hid (Pn.lY l=true):=Lib.hid (Pn.PL PU HJ.out.2.2)
     go_wp2_with fail
     go_roundw
     case rel=>exact ⟨k + 1,by omega,by go_num,Lib.hid ⟨HJ.out.1,fun i l2 hi h2=>by
      by_cases e:i=k
      ·subst e;rw [HX.out] at h2;cases h2;exact PV.out
      ·exact HI.out.2 i l2 (by omega) h2⟩⟩
     case measure=>simp [intOf];omega
  ·obtain rfl:k=p.length:=by omega
   by_cases hlen:p.length < 1∨8 < p.length
   ·have HN:Hid (false=q):=Lib.hid (by rw [← HQ.out,Pn.PM hlen]);rcases hlen with hl | hl
    ·go_wp2_with fail
     all_goals
      go_ret
      exact ⟨jz (by have h:=HN.out;subst h;first | rfl | (simp <;> omega)),HI.out.1⟩
    ·have vt:1≤p.length:=by omega
     go_wp2_with fail
     all_goals
      go_ret
      exact ⟨jz (by have h:=HN.out;subst h;first | rfl | (simp <;> omega)),HI.out.1⟩
   ·have vt:1≤p.length:=by omega
    have PW:p.length≤8:=by omega
    have HN:Hid (true=q):=Lib.hid (by rw [← HQ.out,Pn.PN vt PW HI.out.2])
    go_wp2_with fail
    all_goals
     go_ret
     exact ⟨jz (by have h:=HN.out;subst h;first | rfl | (simp <;> omega)),HI.out.1⟩
open Go.RowKit
namespace Fl
open Sx
section
variable {α:Type} {E:World→List Value→α→List Nat→Prop} {enc:α→List A}
def Is (enc:α→List A) (E:World→List Value→α→List Nat→Prop):Prop :=
 ∀ (ok:Nat→Prop) (w:World) (cs:List Value) (a:α),RC ok w (enc a) cs→∃ U,E w cs a U∧∀ x∈U,ok x∧x < w.heap.size
theorem Is.parts (h:Is enc E) {ok:Nat→Prop} {w:World} {sz:Nat}:∀ {l:List α} {xs:List Value},RX ok w sz (l.map enc) xs→∃ S,qG E sz w xs l S∧∀ x∈S,ok x∧x < w.heap.size
 | [],xs,r=>⟨[],fun k a hk=>by simp at hk,by simp⟩
 | a :: l,xs,r=>by
  obtain ⟨vs,ys,rfl,h2,h3,h4⟩:=r;obtain ⟨U,u1,u2⟩:=h ok w vs a h3;obtain ⟨S,s1,s2⟩:=Is.parts h h4;refine ⟨U ++ S,fun k b hk=>?_,fun x hx=>(List.mem_append.1 hx).elim (u2 x) (s2 x)⟩
  cases k with
  | zero =>
   simp at hk;subst hk;refine ⟨U,?_,fun x hx=>List.mem_append_left _ hx⟩;have:chunk (vs ++ ys) sz 0=vs:=by unfold chunk;simp [← h2]
   rw [this];exact u1
  | succ k =>
   simp at hk;obtain ⟨V,v1,v2⟩:=s1 k b hk;refine ⟨V,?_,fun x hx=>List.mem_append_right _ (v2 x hx)⟩;have:chunk (vs ++ ys) sz (k + 1)=chunk ys sz k:=by
    unfold chunk;rw [show (k + 1) * sz=vs.length + k * sz by rw [h2,Nat.add_mul];omega,List.drop_length_add_append]
   rw [this];exact v1
theorem RA.jR {ok:Nat→Prop} {w:World} {sz:Nat} {l:List (List A)} {x:Value} (h:RA ok w (.r sz l) x):∃ ys S,View w x sz l.length ys S∧RX ok w sz l ys∧∀ g∈S,ok g∧g < w.heap.size:=by
 obtain ⟨ys,S,v1,v2,v3⟩:=h.view;exact ⟨ys,S,v1,v2,fun g hg=>⟨v3 g hg,v1.lt g hg⟩⟩
theorem Is.gv (h:Is enc E) {ok:Nat→Prop} {w:World} {sz:Nat} {l:List α} {v:Value} (r:RA ok w (.r sz (l.map enc)) v):∃ S,GV E sz w v l S∧∀ x∈S,ok x∧x < w.heap.size:=by
 obtain ⟨ys,T,v1,v2,v3⟩:=r.jR;rw [List.length_map] at v1;obtain ⟨S,s1,s2⟩:=h.parts v2;exact ⟨T ++ S,⟨ys,T,v1,s1.mono fun x hx=>List.mem_append_right _ hx,fun x hx=>List.mem_append_left _ hx,fun x hx=>(List.mem_append.1 hx).elim (fun h=>(v3 x h).2) (fun h=>(s2 x h).2),v2.one⟩,fun x hx=>(List.mem_append.1 hx).elim (v3 x) (s2 x)⟩
theorem Is.row (h:Is enc E) {sz:Nat}:Is (fun l:List α=>[A.r sz (l.map enc)]) (pO E sz):=fun ok w cs l r=>by
 unfold RC at r;obtain ⟨x,xs,rfl,r1,r2⟩:=r;unfold RC at r2;subst r2;obtain ⟨S,s1,s2⟩:=h.gv r1;exact ⟨S,⟨x,rfl,s1⟩,s2⟩
end
theorem RC.c1 {ok:Nat→Prop} {w:World} {v:Value} {fF:List A} {cs:List Value} (h:RC ok w (.v v :: fF) cs):∃ ys,cs=v :: ys∧RC ok w fF ys:=by
 unfold RC at h;obtain ⟨x,xs,rfl,h1,h2⟩:=h;unfold RA at h1;exact ⟨xs,by rw [h1.1],h2⟩
theorem RC.n0 {ok:Nat→Prop} {w:World} {cs:List Value} (h:RC ok w [] cs):cs=[]:=by unfold RC at h;exact h
theorem PX:Is mc mh:=fun ok w cs c r=>by
 obtain ⟨y1,e1,r1⟩:=RC.c1 (fF:=[nI c.ch,nI c.v]) r;obtain ⟨y2,e2,r2⟩:=r1.c1;obtain ⟨y3,e3,r3⟩:=r2.c1;have e4:=r3.n0;subst e4 e3 e2;exact ⟨[],⟨e1,rfl⟩,by simp⟩
theorem PY:Is dH vW:=fun ok w cs o r=>by
 obtain ⟨y1,e1,r1⟩:=RC.c1 (fF:=[nI o.ch,nI o.n,nI o.v,.r 3 (o.cases.map mc),bI o.de]) r;obtain ⟨y2,e2,r2⟩:=r1.c1;obtain ⟨y3,e3,r3⟩:=r2.c1;obtain ⟨y4,e4,r4⟩:=r3.c1;unfold RC at r4;obtain ⟨x,y5,e5,r5,r6⟩:=r4;obtain ⟨y6,e6,r7⟩:=r6.c1;have e7:=r7.n0;obtain ⟨S,s1,s2⟩:=PX.gv r5;subst e7 e6 e5 e4 e3 e2;exact ⟨S,⟨x,e1,s1⟩,s2⟩
theorem PZ:Is (fun l:List Pn.Op=>[A.r 6 (l.map dH)]) sD:=PY.row
theorem P0 {ok:Nat→Prop} {w:World} {p:List (List Pn.Op)} {v:Value} (r:RA ok w (rA p) v):∃ S,GV sD 1 w v p S∧∀ x∈S,ok x∧x < w.heap.size:=PZ.gv r
theorem cK.c {ok:Nat→Prop} {w:World} {a:A} {ds:List D} {xs:List Value} (h:cK ok w (.c a :: ds) xs):∃ x ys,xs=x :: ys∧RA ok w a x∧cK ok w ds ys:=by
 unfold cK at h;obtain ⟨x,ys,rfl,h1,h2⟩:=h;unfold RD at h1;exact ⟨x,ys,rfl,h1,h2⟩
theorem P4 (p:List (List Pn.Op)):Pure Tryz.prog 92 [.c (rA p)] (.c (bI (Pn.right p))) :=
 an.plain fun ok e xs hd=>by
  obtain ⟨v,ys,rfl,r,h⟩:=hd.c;rw [h.Pa];obtain ⟨S,s1,s2⟩:=P0 r;refine (PO e v p S s1).mono ?_
  rintro en w' ⟨rfl,k⟩
  exact ⟨_,rfl,k,RD.v rfl⟩
end Fl
open Go.RowKit
namespace Fl
open Sx
set_option maxRecDepth 100000
section
variable {P:Program} {c:Cx} {k:List Item} {f:Fm} {L L2:List aj} {T:TypeId} {ps:String} {af:Array Edge} {gd:Option (Nat × Bool)} {t:Nat}
theorem Ld.vX {F:FuncId} {args:List Operand} {tys:Array TypeId} {dh ds:List D} {ι:Type} {dd:ι→D} {r:ι→aj} [i:aG P F] (hC:an P F ds [] (fun x=>(dd x,[r x]))) (ht:t < c.N) (h:iw f args=some dh) (hle:aJ dh ds) :
  Ld P c ⟨some t,.call ⟨.value (.func F),args.toArray,tys⟩,T,ps,af,gd⟩ f L [] (fun x=>(t,dd x) :: f) (fun x=>r x :: L) :=
 Ld.call (P:=P) (c:=c) (T:=T) (ps:=ps) (af:=af) (gd:=gd) (L:=L) (f:=f) (tys:=tys) hC ht h hle (Ll:=[]) (Lr:=L) rfl
theorem gY {r:aj} {T' L L':List aj} (i:Nat) (h:L[i]?=some r) (e:L.eraseIdx i=L') (k:T'.Perm L'):(r :: T').Perm L:=by
 subst e;exact (k.cons r).trans (oC L i h)
theorem J.Qa {Φ:World→List Nat→Prop} (D6:vw Φ) (h0:∀ w,Φ w []) (h:J P c k f (aM Φ [] :: L)):J P c k f L:=⟨fun a w s=>by
 have hf:bu (aM Φ [] :: L)=bu L:=by simp [bu,aM,aj.cA]
 have ho:bM c (aM Φ [] :: L)=bM c L:=by funext x;unfold bM;rw [hf]
 refine h.go a w ⟨s.kp,s.size,s.jO,fun q hq=>?_,fun x hx=>s.fL x (hf ▸ hx),List.pairwise_cons.2 ⟨fun q _ x hx=>by simp [aM,aj.cA] at hx,s.ap⟩,fun t d ht=>by rw [ho];exact s.fr t d ht⟩;rw [ho];rcases List.mem_cons.1 hq with rfl | hq
 ·exact (aM.holds D6).2 (h0 w)
 ·exact s.res q hq⟩
end
theorem tR.none (w:World):tR [] w []:=⟨[],rfl,rfl,List.Pairwise.nil,fun i x Si h=>by simp at h⟩
theorem Qb {p:List (List Pn.Op)} (h:Pn.right p=true):1≤p.length∧p.length≤8∧∀ ops∈p,ops.length≤16∧∀ o∈ops,o.cases.length≤6:=by
 unfold Pn.right at h;rw [decide_eq_true_iff] at h;refine ⟨h.1,h.2.1,fun ops ho=>?_⟩;have h2:=h.2.2 ops ho;unfold Pn.lY at h2;rw [decide_eq_true_iff] at h2;refine ⟨h2.1,fun o yE=>?_⟩;have h3:=h2.2 o yE;unfold Pn.fG at h3;rw [decide_eq_true_iff] at h3;exact h3.2.2.2.2.2.2.2.2.1
end Fl
open Go.RowKit
namespace Fl
open Sx
set_option maxRecDepth 100000
section
variable {P:Program} {c:Cx} {f:Fm} {L:List aj} {T:TypeId} {ps:String} {af:Array Edge} {gd:Option (Nat × Bool)} {t:Nat}
end
end Fl
open Go.RowKit
namespace Fl
open Sx
set_option maxRecDepth 100000
structure Fe (s:ah):Prop where
 gs:s.gs.length≤100000
 ch:s.av.length≤100000
 su:s.aA.length≤100000
 dr:s.di.length≤100000
 dn:s.done.length≤100000
 cl:s.cache.length=s.gs.length
 cb:∀ l∈s.cache,l.length≤100000
 mb:s.middle.length≤100000
 gb:∀ g∈s.gs,g.ops.length≤100000∧(∀ o∈g.ops,o.cases.length≤100000)∧g.order.length≤100000∧g.aB.length≤100000∧g.aq.length≤100000∧g.au.length≤100000
 hb:∀ c∈s.av,c.buf.length≤100000∧c.recv.length≤100000∧c.send.length≤100000
end Fl
end Go.Proofs.YtdjhhbpedllnhaaGreat
