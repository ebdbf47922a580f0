/-
  What the laws need, part A20.
  Conditions: none.
-/
import Derived.Test.YtofnbflkhgammaaGreatA19
set_option linter.unusedVariables false
set_option linter.unusedSimpArgs false
set_option linter.unnecessarySimpa false
set_option maxHeartbeats 2000000
namespace Go.Proofs.YtofnbflkhgammaaGreat
open Go.RowKit
namespace Pn
theorem Vu {o:Op} {j:Nat} {c:Cs} (h:o.cases[j]?=some c) (hc:kC c=false):c7 o=false:=FA h (by rw [Fz];exact hc)
end Pn
set_option maxRecDepth 100000 in
set_option maxHeartbeats 3200000 in
theorem Vv (w:World) (o:Pn.Op) (va:Value) (SA:List Nat) (ha:GV lE 3 w va o.cases SA) (hb:1≤o.kind∧o.kind≤9∧0≤o.ch∧o.ch≤8∧0≤o.n∧o.n≤4∧0≤o.v∧o.v≤255∧o.cases.length≤6) (hk:o.kind=9) :
  Calls Tryz.prog 176 #[.agg #[.int .i64 o.kind,.int .i64 o.ch,.int .i64 o.n,.int .i64 o.v,va,.bool o.de]] w fun e w'=>e=.returned (.bool (Pn.c7 o))∧aj [] w w':=by
 have iw:=ha.le;unfold maxLen at iw;obtain ⟨ao,cap,rfl⟩:=ha.shape;have HA:=Lib.hid ha;obtain ⟨q,fM⟩:∃ q,Pn.c7 o=q:=⟨_,rfl⟩
 rw [fM];have HQ:=Lib.hid fM;have KA:Hid (aj [] w (w.alloc (.cells #[.int .i64 o.kind,.int .i64 o.ch,.int .i64 o.n,.int .i64 o.v,.slice ao o.cases.length cap,.bool o.de] 50))):=Lib.hid ((aj.refl [] w).alloc _);clear ha fM;obtain ⟨b1,b2,b3,b4,b5,b6,b7,b8,b9⟩:=hb;obtain ⟨k,ch,n,v,cs,de⟩:=o;simp only at *;have HS:Hid ((Pn.gj k=false→ch=0)→(Pn.gq k=false→v=0)→(k≠1→n=0)→(k≠9→cs=[]∧de=false)→(∀ (j:Nat) (c:Pn.Cs),cs[j]?=some c→Pn.kC c=true)→true=q):=Lib.hid (fun d1 d2 d3 d4 h=>by
  rw [← HQ.out,eq_comm];unfold Pn.c7;rw [decide_eq_true_iff];refine ⟨b1,b2,b3,b4,b5,b6,b7,b8,b9,d1,d2,d3,d4,fun c hc=>?_⟩;obtain ⟨j,hj,rfl⟩:=List.getElem_of_mem hc;exact h j _ (List.getElem?_eq_getElem hj))
 have HF:Hid (¬ ((Pn.gj k=false→ch=0)∧(Pn.gq k=false→v=0)∧(k≠1→n=0)∧(k≠9→cs=[]∧de=false))→false=q):=Lib.hid (fun hn=>by
  rw [← HQ.out,eq_comm];unfold Pn.c7;rw [decide_eq_false_iff_not];rintro ⟨h1,h2,h3,h4,h5,h6,h7,h8,h9,jw,iY,iZ,fU,_⟩;exact hn ⟨jw,iY,iZ,fU⟩)
 subst hk;have fQ:Hid (Pn.gj 9=false∧Pn.gq 9=false):=Lib.hid (by constructor <;> simp [Pn.gj,Pn.gq] <;> omega)
 by_cases bQ:ch=0∧v=0∧n=0
 ·obtain ⟨e0,e1,e2⟩:=bQ;subst e0 e1 e2;have lC:=Lib.hid (HS.out (fun _=>rfl) (fun _=>rfl) (fun _=>rfl) (fun h=>absurd rfl h));clear HS HF
  try clear e3
  try clear e2
  go_enter Tryz.func176,Tryz.ntmps176
  go_wp2_with fail
  refine (tf _ _).mono ?_
  rintro e w3 ⟨rfl,rfl⟩
  rw [fQ.out.1]
  go_wp2_with (go_at_call 197;refine (tg _ _).mono ?_;rintro e w4 ⟨rfl,rfl⟩;rw [fQ.out.2])
  go_loopw [97] (fun u wr=>∃ j:Nat,j≤cs.length∧u=.int .i64 j∧Hid (aj [] w wr∧∀ (i:Nat) (c:Pn.Cs),i < j→cs[i]?=some c→Pn.kC c=true)) (fun u _=>cs.length - (intOf u).toNat)
  case atStart=>exact ⟨0,Nat.zero_le _,rfl,Lib.hid ⟨KA.out,fun i c hi=>by omega⟩⟩
  case round =>
   obtain ⟨j,hj,rfl,HI⟩:=hrel;obtain ⟨wo,rfl⟩:∃ wo:World,wo=wr:=⟨_,rfl⟩
   by_cases cA:j < cs.length
   ·obtain ⟨x,hx⟩:∃ x,cs[j]?=some x:=⟨_,List.getElem?_eq_getElem cA⟩
    obtain ⟨g1,FB,rfl,_,um,a0,a1,a2⟩:=(HA.out.then td HI.out.1).case hx;have HX:=Lib.hid hx;clear hx;obtain ⟨xs,xc,xv⟩:=x;simp only at a0 a1 a2;have KR:Hid (aj [] w (wo.alloc (.cells #[.bool xs,.int .i64 xc,.int .i64 xv] 83))):=Lib.hid (HI.out.1.alloc _)
    by_cases hr:0≤xc∧xc≤8∧0≤xv∧xv≤255∧(xs=false→xv=0)
    ·have HO:Hid (Pn.kC ⟨xs,xc,xv⟩=true):=Lib.hid (by unfold Pn.kC;rw [decide_eq_true_iff];exact hr);obtain ⟨e1,e2,e3,e4,e5⟩:=hr
     cases xs with
     | true =>
      clear e5
      go_wp2_with fail
      go_roundw
      case rel=>exact ⟨j + 1,by omega,by go_num,Lib.hid ⟨KR.out,fun i c hi hc=>by
       by_cases e:i=j
       ·subst e;rw [HX.out] at hc;cases hc;exact HO.out
       ·exact HI.out.2 i c (by omega) hc⟩⟩
      case measure=>simp [intOf];omega
     | false =>
      have e6:=e5 rfl;subst e6;clear e5
      go_wp2_with fail
      go_roundw
      case rel=>exact ⟨j + 1,by omega,by go_num,Lib.hid ⟨KR.out,fun i c hi hc=>by
       by_cases e:i=j
       ·subst e;rw [HX.out] at hc;cases hc;exact HO.out
       ·exact HI.out.2 i c (by omega) hc⟩⟩
      case measure=>simp [intOf];omega
    ·have HN:Hid (false=q):=Lib.hid (by rw [← HQ.out,Pn.Vu HX.out (by unfold Pn.kC;rw [decide_eq_false_iff_not];exact hr)]);have HR:=Lib.hid hr;clear hr
     cases xs with
     | true =>
      have ud:Hid (0≤xc→xc≤8→0≤xv→xv≤255→False):=Lib.hid (fun a b c d=>HR.out ⟨a,b,c,d,fun h=>by cases h⟩);clear HR
      go_upto_if 128 with fail
      all_goals
       go_wp2_with fail
       all_goals
        first
         | (exfalso;refine ud.out ?_ ?_ ?_ ?_ <;> omega)
         | (go_ret;exact ⟨cS HN.out,HI.out.1.alloc _⟩)
     | false =>
      have ud:Hid (0≤xc→xc≤8→0≤xv→xv≤255→xv≠0):=Lib.hid (fun a b c d e=>HR.out ⟨a,b,c,d,fun _=>e⟩);clear HR
      go_upto_if 128 with fail
      all_goals
       go_wp2_with fail
       all_goals
        first
         | (exfalso;refine ud.out ?_ ?_ ?_ ?_ ?_ <;> (first | omega | (have h:=(show ((((0≤xc∧xc≤8)∧0≤xv)∧xv≤255)∧(xv != 0)=false) by assumption).2;simpa using h)))
         | (go_ret;exact ⟨cS HN.out,HI.out.1.alloc _⟩)
   ·obtain rfl:j=cs.length:=by omega
    have HN:Hid (true=q):=Lib.hid (lC.out fun i c hc=>HI.out.2 i c (List.getElem?_eq_some_iff.1 hc).1 hc)
    go_wp2_with fail
    go_ret
    exact ⟨cS HN.out,HI.out.1⟩
 ·have HN:Hid (false=q):=Lib.hid (HF.out (by rintro ⟨d1,d2,d3,d4⟩;have q1:=fQ.out.1;have q2:=fQ.out.2;exact bQ ⟨d1 q1,d2 q2,d3 (by omega)⟩));have HC:Hid (ch=0→v=0→n=0→False):=Lib.hid (fun e0 e1 e2=>bQ ⟨e0,e1,e2⟩);clear bQ
  go_enter Tryz.func176,Tryz.ntmps176
  go_wp2_with fail
  refine (tf _ _).mono ?_
  rintro e w3 ⟨rfl,rfl⟩
  rw [fQ.out.1]
  go_upto_if 93 with (go_at_call 197;refine (tg _ _).mono ?_;rintro e w4 ⟨rfl,rfl⟩;rw [fQ.out.2])
  all_goals
   go_wp2_with fail
   all_goals
    first
     | (exfalso;refine HC.out ?_ ?_ ?_ <;> (first | assumption | omega | (simpa using ‹¬de=true›));done)
     | (go_ret;exact ⟨cS HN.out,(aj.refl [] w).alloc _⟩)
open Go.RowKit
namespace Pn
end Pn
set_option maxRecDepth 100000 in
set_option maxHeartbeats 3200000 in
theorem Vw (w:World) (o:Pn.Op) (va:Value) (SA:List Nat) (ha:GV lE 3 w va o.cases SA) (hb:1≤o.kind∧o.kind≤9∧0≤o.ch∧o.ch≤8∧0≤o.n∧o.n≤4∧0≤o.v∧o.v≤255∧o.cases.length≤6) (hk:¬ o.kind=1) (hv:¬ (o.kind=2∨o.kind=4)) (wq:¬ o.kind=9) :
  Calls Tryz.prog 176 #[.agg #[.int .i64 o.kind,.int .i64 o.ch,.int .i64 o.n,.int .i64 o.v,va,.bool o.de]] w fun e w'=>e=.returned (.bool (Pn.c7 o))∧aj [] w w':=by
 have iw:=ha.le;unfold maxLen at iw;obtain ⟨ao,cap,rfl⟩:=ha.shape;have HA:=Lib.hid ha;obtain ⟨q,fM⟩:∃ q,Pn.c7 o=q:=⟨_,rfl⟩
 rw [fM];have HQ:=Lib.hid fM;have KA:Hid (aj [] w (w.alloc (.cells #[.int .i64 o.kind,.int .i64 o.ch,.int .i64 o.n,.int .i64 o.v,.slice ao o.cases.length cap,.bool o.de] 50))):=Lib.hid ((aj.refl [] w).alloc _);clear ha fM;obtain ⟨b1,b2,b3,b4,b5,b6,b7,b8,b9⟩:=hb;obtain ⟨k,ch,n,v,cs,de⟩:=o;simp only at *;have HS:Hid ((Pn.gj k=false→ch=0)→(Pn.gq k=false→v=0)→(k≠1→n=0)→(k≠9→cs=[]∧de=false)→(∀ (j:Nat) (c:Pn.Cs),cs[j]?=some c→Pn.kC c=true)→true=q):=Lib.hid (fun d1 d2 d3 d4 h=>by
  rw [← HQ.out,eq_comm];unfold Pn.c7;rw [decide_eq_true_iff];refine ⟨b1,b2,b3,b4,b5,b6,b7,b8,b9,d1,d2,d3,d4,fun c hc=>?_⟩;obtain ⟨j,hj,rfl⟩:=List.getElem_of_mem hc;exact h j _ (List.getElem?_eq_getElem hj))
 have HF:Hid (¬ ((Pn.gj k=false→ch=0)∧(Pn.gq k=false→v=0)∧(k≠1→n=0)∧(k≠9→cs=[]∧de=false))→false=q):=Lib.hid (fun hn=>by
  rw [← HQ.out,eq_comm];unfold Pn.c7;rw [decide_eq_false_iff_not];rintro ⟨h1,h2,h3,h4,h5,h6,h7,h8,h9,jw,iY,iZ,fU,_⟩;exact hn ⟨jw,iY,iZ,fU⟩)
 have q1:(k != 1)=true:=by simp;omega
 have q9:(k != 9)=true:=by simp;omega
 have fQ:Hid (Pn.gj k=true∧Pn.gq k=false):=Lib.hid (by constructor <;> simp [Pn.gj,Pn.gq] <;> omega)
 by_cases bQ:v=0∧n=0∧de=false∧cs.length=0
 ·obtain ⟨e0,e1,e2,e3⟩:=bQ;subst e0 e1 e2;have e9:cs.length≤0:=by omega
  have lC:=Lib.hid (HS.out (fun h=>by rw [fQ.out.1] at h;cases h) (fun _=>rfl) (fun _=>rfl) (fun _=>⟨List.eq_nil_of_length_eq_zero (by omega),rfl⟩));clear HS HF
  try clear e3
  try clear e2
  go_enter Tryz.func176,Tryz.ntmps176
  go_wp2_with fail
  refine (tf _ _).mono ?_
  rintro e w3 ⟨rfl,rfl⟩
  rw [fQ.out.1]
  go_wp2_with (go_at_call 197;refine (tg _ _).mono ?_;rintro e w4 ⟨rfl,rfl⟩;rw [fQ.out.2])
  go_loopw [97] (fun u wr=>∃ j:Nat,j≤cs.length∧u=.int .i64 j∧Hid (aj [] w wr∧∀ (i:Nat) (c:Pn.Cs),i < j→cs[i]?=some c→Pn.kC c=true)) (fun u _=>cs.length - (intOf u).toNat)
  case atStart=>exact ⟨0,Nat.zero_le _,rfl,Lib.hid ⟨KA.out,fun i c hi=>by omega⟩⟩
  case round =>
   obtain ⟨j,hj,rfl,HI⟩:=hrel;obtain ⟨wo,rfl⟩:∃ wo:World,wo=wr:=⟨_,rfl⟩
   obtain rfl:j=cs.length:=by omega
   have HN:Hid (true=q):=Lib.hid (lC.out fun i c hc=>HI.out.2 i c (List.getElem?_eq_some_iff.1 hc).1 hc)
   go_wp2_with fail
   go_ret
   exact ⟨cS HN.out,HI.out.1⟩
 ·have HN:Hid (false=q):=Lib.hid (HF.out (by rintro ⟨d1,d2,d3,d4⟩;have q1:=fQ.out.1;have q2:=fQ.out.2;exact bQ ⟨d2 q2,d3 (by omega),(d4 (by omega)).2,by simp [(d4 (by omega)).1]⟩));have HC:Hid (v=0→n=0→de=false→cs.length=0→False):=Lib.hid (fun e0 e1 e2 e3=>bQ ⟨e0,e1,e2,e3⟩);clear bQ
  go_enter Tryz.func176,Tryz.ntmps176
  go_wp2_with fail
  refine (tf _ _).mono ?_
  rintro e w3 ⟨rfl,rfl⟩
  rw [fQ.out.1]
  go_upto_if 93 with (go_at_call 197;refine (tg _ _).mono ?_;rintro e w4 ⟨rfl,rfl⟩;rw [fQ.out.2])
  all_goals
   go_wp2_with fail
   all_goals
    first
     | (exfalso;refine HC.out ?_ ?_ ?_ ?_ <;> (first | assumption | omega | (simpa using ‹¬de=true›));done)
     | (go_ret;exact ⟨cS HN.out,(aj.refl [] w).alloc _⟩)
open Go.RowKit
set_option maxRecDepth 100000 in
set_option maxHeartbeats 3200000 in
theorem LR (w:World) (o:Pn.Op) (va:Value) (SA:List Nat) (ha:GV lE 3 w va o.cases SA) :
  Calls Tryz.prog 176 #[.agg #[.int .i64 o.kind,.int .i64 o.ch,.int .i64 o.n,.int .i64 o.v,va,.bool o.de]] w fun e w'=>e=.returned (.bool (Pn.c7 o))∧aj [] w w':=by
 by_cases hb:1≤o.kind∧o.kind≤9∧0≤o.ch∧o.ch≤8∧0≤o.n∧o.n≤4∧0≤o.v∧o.v≤255∧o.cases.length≤6
 ·by_cases hk:o.kind=1
  ·exact Vs w o va SA ha hb hk
  by_cases hv:o.kind=2∨o.kind=4
  ·exact Vt w o va SA ha hb hv hk
  by_cases wq:o.kind=9
  ·exact Vv w o va SA ha hb wq
  ·exact Vw w o va SA ha hb hk hv wq
 ·exact Vr w o va SA ha hb
open Go.RowKit
namespace Pn
theorem LS {l:List Op} {j:Nat} {o:Op} (h:l[j]?=some o) (ho:c7 o=false):kD l=false:=by
 unfold kD;rw [decide_eq_false_iff_not];rintro ⟨_,h2⟩;have:=h2 o (List.mem_of_getElem? h);rw [ho] at this;cases this
theorem LU {l:List Op} (h:16 < l.length):kD l=false:=by
 unfold kD;rw [decide_eq_false_iff_not];rintro ⟨h1,_⟩;omega
theorem LV {l:List Op} (h:l.length≤16) (ho:∀ (j:Nat) (o:Op),j < l.length→l[j]?=some o→c7 o=true):kD l=true:=by
 unfold kD;rw [decide_eq_true_iff];refine ⟨h,fun o hm=>?_⟩;obtain ⟨j,hj,rfl⟩:=List.getElem_of_mem hm;exact ho j _ hj (List.getElem?_eq_getElem hj)
theorem BL {p:List (List Op)} {k:Nat} {l:List Op} (h:p[k]?=some l) (hl:kD l=false):right p=false:=by
 unfold right;rw [decide_eq_false_iff_not];rintro ⟨_,_,h2⟩;have:=h2 l (List.mem_of_getElem? h);rw [hl] at this;cases this
theorem LW {p:List (List Op)} (h:p.length < 1∨8 < p.length):right p=false:=by
 unfold right;rw [decide_eq_false_iff_not];rintro ⟨h1,h2,_⟩;omega
theorem LX {p:List (List Op)} (h1:1≤p.length) (h2:p.length≤8) (ho:∀ (j:Nat) (l:List Op),j < p.length→p[j]?=some l→kD l=true):right p=true:=by
 unfold right;rw [decide_eq_true_iff];refine ⟨h1,h2,fun o hm=>?_⟩;obtain ⟨j,hj,rfl⟩:=List.getElem_of_mem hm;exact ho j _ hj (List.getElem?_eq_getElem hj)
end Pn
set_option maxHeartbeats 1600000 in
theorem Vx (w:World) (v:Value) (p:List (List Pn.Op)) (S:List Nat) (h:GV rL 1 w v p S) :
  Calls Tryz.prog 119 #[v] w fun e w'=>e=.returned (.bool (Pn.right p))∧aj [] w w':=by
 have hle:=h.le;unfold maxLen at hle;obtain ⟨ao,cap,rfl⟩:=h.shape;have HP:=Lib.hid h;obtain ⟨q,fM⟩:∃ q,Pn.right p=q:=⟨_,rfl⟩
 rw [fM];have HQ:=Lib.hid fM;clear h fM
 by_cases hlen:p.length < 1∨8 < p.length
 ·have HN:Hid (false=q):=Lib.hid (by rw [← HQ.out,Pn.LW hlen]);rcases hlen with hl | hl
  ·have BM:p.length≤8:=by omega
   go_enter Tryz.func119,Tryz.ntmps119
   go_wp2_with fail
   go_ret
   exact ⟨cS HN.out,aj.refl _ _⟩
  ·have nj:1≤p.length:=by omega
   go_enter Tryz.func119,Tryz.ntmps119
   go_wp2_with fail
   go_ret
   exact ⟨cS HN.out,aj.refl _ _⟩
 have nj:1≤p.length:=by omega
 have BM:p.length≤8:=by omega
 clear hlen
 go_enter Tryz.func119,Tryz.ntmps119
 go_wp2_with fail
 go_loopw [17] (fun u wr=>∃ k:Nat,k≤p.length∧u=.int .i64 k∧Hid (aj [] w wr∧∀ (j:Nat) (l:List Pn.Op),j < k→p[j]?=some l→Pn.kD l=true)) (fun u _=>p.length - (intOf u).toNat)
 case atStart=>exact ⟨0,Nat.zero_le _,rfl,Lib.hid ⟨aj.refl _ _,fun j l hj=>by omega⟩⟩
 case round =>
  obtain ⟨k,hk,rfl,HI⟩:=hrel;obtain ⟨wo,rfl⟩:∃ wo:World,wo=wr:=⟨_,rfl⟩
  by_cases cA:k < p.length
  ·obtain ⟨l,hx⟩:∃ l,p[k]?=some l:=⟨_,List.getElem?_eq_getElem cA⟩
   obtain ⟨g1,FB,_,U1,rfl,_,_,a0,⟨v1,nr,rM⟩,_⟩:=(HP.out.then Fy HI.out.1).one hx
   cases nr;have oF:=rM.le;unfold maxLen at oF;obtain ⟨am,cm,rfl⟩:=rM.shape;have HU:=Lib.hid rM;have HX:=Lib.hid hx;clear hx rM
   by_cases yY:16 < l.length
   ·have HN:Hid (false=q):=Lib.hid (by rw [← HQ.out,Pn.BL HX.out (Pn.LU yY)])
    go_wp2_with fail
    go_ret
    exact ⟨cS HN.out,HI.out.1⟩
   have FC:l.length≤16:=by omega
   clear yY
   go_wp2_with fail
   go_loopw [26] (fun u wr=>∃ j:Nat,j≤l.length∧u=.int .i64 j∧Hid (aj [] w wr∧aj [] wo wr∧∀ (i:Nat) (o:Pn.Op),i < j→l[i]?=some o→Pn.c7 o=true)) (fun u _=>l.length - (intOf u).toNat)
   case atStart=>exact ⟨0,Nat.zero_le _,rfl,Lib.hid ⟨HI.out.1,aj.refl _ _,fun i o hi=>by omega⟩⟩
   case round =>
    obtain ⟨j,hj,rfl,HJ⟩:=hrel;obtain ⟨wi,rfl⟩:∃ wi:World,wi=wr:=⟨_,rfl⟩
    by_cases qZ:j < l.length
    ·obtain ⟨o,ho⟩:∃ o,l[j]?=some o:=⟨_,List.getElem?_eq_getElem qZ⟩
     obtain ⟨g2,sX,vc,U2,rfl,_,_,⟨b0,b1,b2,b3,b4,b5⟩,hu,_⟩:=(HU.out.then BF HJ.out.2.1).op ho;obtain ⟨ac,cc,rfl⟩:=hu.shape;have HO:=Lib.hid ho;have HG:=Lib.hid hu;clear ho hu
     cases hr:Pn.c7 o with
     | false =>
      have HN:Hid (false=q):=Lib.hid (by rw [← HQ.out,Pn.BL HX.out (Pn.LS HO.out hr)])
      go_wp2_with fail
      refine (LP _ o _ U2 (HG.out.then td ((aj.refl [] wi).alloc _))).mono ?_
      rintro e w3 ⟨rfl,k3⟩
      rw [hr];have K3:=Lib.hid ((HJ.out.1.alloc _).then k3);have K4:=Lib.hid ((HJ.out.2.1.alloc _).then k3);clear k3
      go_wp2_with fail
      go_ret
      exact ⟨cS HN.out,K3.out⟩
     | true =>
      go_wp2_with fail
      refine (LP _ o _ U2 (HG.out.then td ((aj.refl [] wi).alloc _))).mono ?_
      rintro e w3 ⟨rfl,k3⟩
      rw [hr];have K3:=Lib.hid ((HJ.out.1.alloc _).then k3);have K4:=Lib.hid ((HJ.out.2.1.alloc _).then k3);have FD:=Lib.hid hr;clear k3 hr
      go_wp2_with fail
      go_roundw
      case rel=>exact ⟨j + 1,by omega,by go_num,Lib.hid ⟨K3.out,K4.out,fun i o2 hi h2=>by
       by_cases e:i=j
       ·subst e;rw [HO.out] at h2;cases h2;exact FD.out
       ·exact HJ.out.2.2 i o2 (by omega) h2⟩⟩
      case measure=>simp [intOf];omega
    ·obtain rfl:j=l.length:=by omega
     have FE:Hid (Pn.kD l=true):=Lib.hid (Pn.LV FC HJ.out.2.2)
     go_wp2_with fail
     go_roundw
     case rel=>exact ⟨k + 1,by omega,by go_num,Lib.hid ⟨HJ.out.1,fun i l2 hi h2=>by
      by_cases e:i=k
      ·subst e;rw [HX.out] at h2;cases h2;exact FE.out
      ·exact HI.out.2 i l2 (by omega) h2⟩⟩
     case measure=>simp [intOf];omega
  ·obtain rfl:k=p.length:=by omega
   have HN:Hid (true=q):=Lib.hid (by rw [← HQ.out,Pn.LX nj BM HI.out.2])
   go_wp2_with fail
   go_ret
   exact ⟨cS HN.out,HI.out.1⟩
set_option maxHeartbeats 1600000 in
theorem Vy (w:World) (v:Value) (p:List (List Pn.Op)) (S:List Nat) (h:GV rL 1 w v p S) :
  Calls Tryz.prog 122 #[v] w fun e w'=>e=.returned (.bool (Pn.right p))∧aj [] w w':=by
 have hle:=h.le;unfold maxLen at hle;obtain ⟨ao,cap,rfl⟩:=h.shape;have HP:=Lib.hid h;obtain ⟨q,fM⟩:∃ q,Pn.right p=q:=⟨_,rfl⟩
 rw [fM];have HQ:=Lib.hid fM;clear h fM
 go_enter Tryz.func122,Tryz.ntmps122
 go_wp2_with fail
 go_loopw [9] (fun u wr=>∃ k:Nat,k≤p.length∧u=.int .i64 k∧Hid (aj [] w wr∧∀ (j:Nat) (l:List Pn.Op),j < k→p[j]?=some l→Pn.kD l=true)) (fun u _=>p.length - (intOf u).toNat)
 case atStart=>exact ⟨0,Nat.zero_le _,rfl,Lib.hid ⟨aj.refl _ _,fun j l hj=>by omega⟩⟩
 case round =>
  obtain ⟨k,hk,rfl,HI⟩:=hrel;obtain ⟨wo,rfl⟩:∃ wo:World,wo=wr:=⟨_,rfl⟩
  by_cases cA:k < p.length
  ·obtain ⟨l,hx⟩:∃ l,p[k]?=some l:=⟨_,List.getElem?_eq_getElem cA⟩
   obtain ⟨g1,FB,_,U1,rfl,_,_,a0,⟨v1,nr,rM⟩,_⟩:=(HP.out.then Fy HI.out.1).one hx
   cases nr;have oF:=rM.le;unfold maxLen at oF;obtain ⟨am,cm,rfl⟩:=rM.shape;have HU:=Lib.hid rM;have HX:=Lib.hid hx;clear hx rM
   go_wp2_with fail
   go_loopw [15] (fun u wr=>∃ j:Nat,j≤l.length∧u=.int .i64 j∧Hid (aj [] w wr∧aj [] wo wr∧∀ (i:Nat) (o:Pn.Op),i < j→l[i]?=some o→Pn.c7 o=true)) (fun u _=>l.length - (intOf u).toNat)
   case atStart=>exact ⟨0,Nat.zero_le _,rfl,Lib.hid ⟨HI.out.1,aj.refl _ _,fun i o hi=>by omega⟩⟩
   case round =>
    obtain ⟨j,hj,rfl,HJ⟩:=hrel;obtain ⟨wi,rfl⟩:∃ wi:World,wi=wr:=⟨_,rfl⟩
    by_cases qZ:j < l.length
    ·obtain ⟨o,ho⟩:∃ o,l[j]?=some o:=⟨_,List.getElem?_eq_getElem qZ⟩
     obtain ⟨g2,sX,vc,U2,rfl,_,_,⟨b0,b1,b2,b3,b4,b5⟩,hu,_⟩:=(HU.out.then BF HJ.out.2.1).op ho;obtain ⟨ac,cc,rfl⟩:=hu.shape;have HO:=Lib.hid ho;have HG:=Lib.hid hu;clear ho hu
     cases hr:Pn.c7 o with
     | false =>
      have HN:Hid (false=q):=Lib.hid (by rw [← HQ.out,Pn.BL HX.out (Pn.LS HO.out hr)])
      go_wp2_with fail
      refine (LR _ o _ U2 (HG.out.then td ((aj.refl [] wi).alloc _))).mono ?_
      rintro e w3 ⟨rfl,k3⟩
      rw [hr];have K3:=Lib.hid ((HJ.out.1.alloc _).then k3);have K4:=Lib.hid ((HJ.out.2.1.alloc _).then k3);clear k3
      go_wp2_with fail
      go_ret
      exact ⟨cS HN.out,K3.out⟩
     | true =>
      go_wp2_with fail
      refine (LR _ o _ U2 (HG.out.then td ((aj.refl [] wi).alloc _))).mono ?_
      rintro e w3 ⟨rfl,k3⟩
      rw [hr];have K3:=Lib.hid ((HJ.out.1.alloc _).then k3);have K4:=Lib.hid ((HJ.out.2.1.alloc _).then k3);have FD:=Lib.hid hr;clear k3 hr
      go_wp2_with fail
      go_roundw
      case rel=>exact ⟨j + 1,by omega,by go_num,Lib.hid ⟨K3.out,K4.out,fun i o2 hi h2=>by
       by_cases e:i=j
       ·subst e;rw [HO.out] at h2;cases h2;exact FD.out
       ·exact HJ.out.2.2 i o2 (by omega) h2⟩⟩
      case measure=>simp [intOf];omega
    ·obtain rfl:j=l.length:=by omega
     by_cases yY:16 < l.length
     ·have HN:Hid (false=q):=Lib.hid (by rw [← HQ.out,Pn.BL HX.out (Pn.LU yY)])
      go_wp2_with fail
      go_ret
      exact ⟨cS HN.out,HJ.out.1⟩
     have FC:l.length≤16:=by omega
     clear yY;have FE:Hid (Pn.kD l=true):=Lib.hid (Pn.LV FC HJ.out.2.2)
     go_wp2_with fail
     go_roundw
     case rel=>exact ⟨k + 1,by omega,by go_num,Lib.hid ⟨HJ.out.1,fun i l2 hi h2=>by
      by_cases e:i=k
      ·subst e;rw [HX.out] at h2;cases h2;exact FE.out
      ·exact HI.out.2 i l2 (by omega) h2⟩⟩
     case measure=>simp [intOf];omega
  ·obtain rfl:k=p.length:=by omega
   by_cases hlen:p.length < 1∨8 < p.length
   ·have HN:Hid (false=q):=Lib.hid (by rw [← HQ.out,Pn.LW hlen]);rcases hlen with hl | hl
    ·go_wp2_with fail
     all_goals
      go_ret
      exact ⟨cS (by have h:=HN.out;subst h;first | rfl | (simp <;> omega)),HI.out.1⟩
    ·have nj:1≤p.length:=by omega
     go_wp2_with fail
     all_goals
      go_ret
      exact ⟨cS (by have h:=HN.out;subst h;first | rfl | (simp <;> omega)),HI.out.1⟩
   ·have nj:1≤p.length:=by omega
    have BM:p.length≤8:=by omega
    have HN:Hid (true=q):=Lib.hid (by rw [← HQ.out,Pn.LX nj BM HI.out.2])
    go_wp2_with fail
    all_goals
     go_ret
     exact ⟨cS (by have h:=HN.out;subst h;first | rfl | (simp <;> omega)),HI.out.1⟩
end Go.Proofs.YtofnbflkhgammaaGreat
