/-
  What the laws need, part B14.
  Conditions: none.
-/
import Derived.Test.YtgjpdogjekmemaaGreatB13
import Derived.Laws.Pointers
import Derived.Laws.StructEq
set_option linter.unusedVariables false
set_option linter.unusedSimpArgs false
set_option linter.unnecessarySimpa false
set_option maxHeartbeats 2000000
namespace Go.Proofs.YtgjpdogjekmemaaGreat
open Go.RowKit
namespace Pn
end Pn
set_option maxRecDepth 100000 in
set_option maxHeartbeats 3200000 in
theorem Jt (w:World) (o:Pn.Op) (va:Value) (SA:List Nat) (ha:GV jG 3 w va o.cases SA) (hb:1≤o.kind∧o.kind≤9∧0≤o.ch∧o.ch≤8∧0≤o.n∧o.n≤4∧0≤o.v∧o.v≤255∧o.cases.length≤6) (hk:¬ o.kind=1) (hv:¬ (o.kind=2∨o.kind=4)) (yY:¬ o.kind=9) :
  Calls Tryz.prog 82 #[.agg #[.int .i64 o.kind,.int .i64 o.ch,.int .i64 o.n,.int .i64 o.v,va,.bool o.cT]] w fun e w'=>e=.returned (.bool (Pn.dO o))∧aP [] w w':=by
 have m9:=ha.le;unfold maxLen at m9;obtain ⟨ao,cap,rfl⟩:=ha.shape;have HA:=Lib.hid ha;obtain ⟨q,fR⟩:∃ q,Pn.dO o=q:=⟨_,rfl⟩
 rw [fR];have HQ:=Lib.hid fR;have KA:Hid (aP [] w (w.alloc (.cells #[.int .i64 o.kind,.int .i64 o.ch,.int .i64 o.n,.int .i64 o.v,.slice ao o.cases.length cap,.bool o.cT] 58))):=Lib.hid ((aP.refl [] w).alloc _);clear ha fR;obtain ⟨b1,b2,b3,b4,b5,b6,b7,b8,b9⟩:=hb;obtain ⟨k,ch,n,v,cs,cT⟩:=o;simp only at *;have HS:Hid ((Pn.gO k=false→ch=0)→(Pn.gP k=false→v=0)→(k≠1→n=0)→(k≠9→cs=[]∧cT=false)→(∀ (j:Nat) (c:Pn.Cs),cs[j]?=some c→Pn.iN c=true)→true=q):=Lib.hid (fun d1 d2 d3 d4 h=>by
  rw [← HQ.out,eq_comm];unfold Pn.dO;rw [decide_eq_true_iff];refine ⟨b1,b2,b3,b4,b5,b6,b7,b8,b9,d1,d2,d3,d4,fun c hc=>?_⟩;obtain ⟨j,hj,rfl⟩:=List.getElem_of_mem hc;exact h j _ (List.getElem?_eq_getElem hj))
 have HF:Hid (¬ ((Pn.gO k=false→ch=0)∧(Pn.gP k=false→v=0)∧(k≠1→n=0)∧(k≠9→cs=[]∧cT=false))→false=q):=Lib.hid (fun hn=>by
  rw [← HQ.out,eq_comm];unfold Pn.dO;rw [decide_eq_false_iff_not];rintro ⟨h1,h2,h3,h4,h5,h6,h7,h8,h9,jX,jD,jh,iE,_⟩;exact hn ⟨jX,jD,jh,iE⟩)
 have q1:(k != 1)=true:=by simp;omega
 have q9:(k != 9)=true:=by simp;omega
 have eu:Hid (Pn.gO k=true∧Pn.gP k=false):=Lib.hid (by constructor <;> simp [Pn.gO,Pn.gP] <;> omega)
 by_cases bZ:v=0∧n=0∧cT=false∧cs.length=0
 ·obtain ⟨e0,e1,e2,e3⟩:=bZ;subst e0 e1 e2;have e9:cs.length≤0:=by omega
  have pE:=Lib.hid (HS.out (fun h=>by rw [eu.out.1] at h;cases h) (fun _=>rfl) (fun _=>rfl) (fun _=>⟨List.eq_nil_of_length_eq_zero (by omega),rfl⟩));clear HS HF
  try clear e3
  try clear e2
  go_enter Tryz.func82,Tryz.ntmps82
  go_wp2_with fail
  refine (oB _ _).mono ?_
  rintro e w3 ⟨rfl,rfl⟩
  rw [eu.out.1]
  go_wp2_with (go_at_call 97;refine (oC _ _).mono ?_;rintro e w4 ⟨rfl,rfl⟩;rw [eu.out.2])
  go_loopw [97] (fun u wr=>∃ j:Nat,j≤cs.length∧u=.int .i64 j∧Hid (aP [] w wr∧∀ (i:Nat) (c:Pn.Cs),i < j→cs[i]?=some c→Pn.iN c=true)) (fun u _=>cs.length - (intOf u).toNat)
  case atStart=>exact ⟨0,Nat.zero_le _,rfl,Lib.hid ⟨KA.out,fun i c hi=>by omega⟩⟩
  case round =>
   obtain ⟨j,hj,rfl,HI⟩:=hrel;obtain ⟨wo,rfl⟩:∃ wo:World,wo=wr:=⟨_,rfl⟩
   obtain rfl:j=cs.length:=by omega
   have HN:Hid (true=q):=Lib.hid (pE.out fun i c hc=>HI.out.2 i c (List.getElem?_eq_some_iff.1 hc).1 hc)
   go_wp2_with fail
   go_ret
   exact ⟨gK HN.out,HI.out.1⟩
 ·have HN:Hid (false=q):=Lib.hid (HF.out (by rintro ⟨d1,d2,d3,d4⟩;have q1:=eu.out.1;have q2:=eu.out.2;exact bZ ⟨d2 q2,d3 (by omega),(d4 (by omega)).2,by simp [(d4 (by omega)).1]⟩));have HC:Hid (v=0→n=0→cT=false→cs.length=0→False):=Lib.hid (fun e0 e1 e2 e3=>bZ ⟨e0,e1,e2,e3⟩);clear bZ
  go_enter Tryz.func82,Tryz.ntmps82
  go_wp2_with fail
  refine (oB _ _).mono ?_
  rintro e w3 ⟨rfl,rfl⟩
  rw [eu.out.1]
  go_upto_if 93 with (go_at_call 97;refine (oC _ _).mono ?_;rintro e w4 ⟨rfl,rfl⟩;rw [eu.out.2])
  all_goals
   go_wp2_with fail
   all_goals
    first
     | (exfalso;refine HC.out ?_ ?_ ?_ ?_ <;> (first | assumption | omega | (simpa using ‹¬cT=true›));done)
     | (go_ret;exact ⟨gK HN.out,(aP.refl [] w).alloc _⟩)
open Go.RowKit
set_option maxRecDepth 100000 in
set_option maxHeartbeats 3200000 in
theorem CZ (w:World) (o:Pn.Op) (va:Value) (SA:List Nat) (ha:GV jG 3 w va o.cases SA) :
  Calls Tryz.prog 82 #[.agg #[.int .i64 o.kind,.int .i64 o.ch,.int .i64 o.n,.int .i64 o.v,va,.bool o.cT]] w fun e w'=>e=.returned (.bool (Pn.dO o))∧aP [] w w':=by
 by_cases hb:1≤o.kind∧o.kind≤9∧0≤o.ch∧o.ch≤8∧0≤o.n∧o.n≤4∧0≤o.v∧o.v≤255∧o.cases.length≤6
 ·by_cases hk:o.kind=1
  ·exact Jo w o va SA ha hb hk
  by_cases hv:o.kind=2∨o.kind=4
  ·exact Jp w o va SA ha hb hv hk
  by_cases yY:o.kind=9
  ·exact Jr w o va SA ha hb yY
  ·exact Jt w o va SA ha hb hk hv yY
 ·exact Jn w o va SA ha hb
open Go.RowKit
namespace Pn
theorem Ju {l:List Op} {j:Nat} {o:Op} (h:l[j]?=some o) (ho:dO o=false):js l=false:=by
 unfold js;rw [decide_eq_false_iff_not];rintro ⟨_,h2⟩;have:=h2 o (List.mem_of_getElem? h);rw [ho] at this;cases this
theorem Jv {l:List Op} (h:16 < l.length):js l=false:=by
 unfold js;rw [decide_eq_false_iff_not];rintro ⟨h1,_⟩;omega
theorem Jw {l:List Op} (h:l.length≤16) (ho:∀ (j:Nat) (o:Op),j < l.length→l[j]?=some o→dO o=true):js l=true:=by
 unfold js;rw [decide_eq_true_iff];refine ⟨h,fun o hm=>?_⟩;obtain ⟨j,hj,rfl⟩:=List.getElem_of_mem hm;exact ho j _ hj (List.getElem?_eq_getElem hj)
theorem C6 {p:List (List Op)} {k:Nat} {l:List Op} (h:p[k]?=some l) (hl:js l=false):right p=false:=by
 unfold right;rw [decide_eq_false_iff_not];rintro ⟨_,_,h2⟩;have:=h2 l (List.mem_of_getElem? h);rw [hl] at this;cases this
theorem Jx {p:List (List Op)} (h:p.length < 1∨8 < p.length):right p=false:=by
 unfold right;rw [decide_eq_false_iff_not];rintro ⟨h1,h2,_⟩;omega
theorem Jy {p:List (List Op)} (h1:1≤p.length) (h2:p.length≤8) (ho:∀ (j:Nat) (l:List Op),j < p.length→p[j]?=some l→js l=true):right p=true:=by
 unfold right;rw [decide_eq_true_iff];refine ⟨h1,h2,fun o hm=>?_⟩;obtain ⟨j,hj,rfl⟩:=List.getElem_of_mem hm;exact ho j _ hj (List.getElem?_eq_getElem hj)
end Pn
set_option maxHeartbeats 1600000 in
theorem Jz (w:World) (v:Value) (p:List (List Pn.Op)) (S:List Nat) (h:GV oA 1 w v p S) :
  Calls Tryz.prog 56 #[v] w fun e w'=>e=.returned (.bool (Pn.right p))∧aP [] w w':=by
 have hle:=h.le;unfold maxLen at hle;obtain ⟨ao,cap,rfl⟩:=h.shape;have HP:=Lib.hid h;obtain ⟨q,fR⟩:∃ q,Pn.right p=q:=⟨_,rfl⟩
 rw [fR];have HQ:=Lib.hid fR;clear h fR
 go_enter Tryz.func56,Tryz.ntmps56
 go_wp2_with fail
 go_loopw [9] (fun u wr=>∃ k:Nat,k≤p.length∧u=.int .i64 k∧Hid (aP [] w wr∧∀ (j:Nat) (l:List Pn.Op),j < k→p[j]?=some l→Pn.js l=true)) (fun u _=>p.length - (intOf u).toNat)
 case atStart=>exact ⟨0,Nat.zero_le _,rfl,Lib.hid ⟨aP.refl _ _,fun j l hj=>by omega⟩⟩
 case round =>
  obtain ⟨k,hk,rfl,HI⟩:=hrel;obtain ⟨wo,rfl⟩:∃ wo:World,wo=wr:=⟨_,rfl⟩
  by_cases gq:k < p.length
  ·obtain ⟨l,hx⟩:∃ l,p[k]?=some l:=⟨_,List.getElem?_eq_getElem gq⟩
   obtain ⟨g1,Js,_,U1,rfl,_,_,a0,⟨v1,JA,vL⟩,_⟩:=(HP.out.then CQ HI.out.1).one hx
   cases JA;have rN:=vL.le;unfold maxLen at rN;obtain ⟨am,cm,rfl⟩:=vL.shape;have HU:=Lib.hid vL;have HX:=Lib.hid hx;clear hx vL
   go_wp2_with fail
   go_loopw [15] (fun u wr=>∃ j:Nat,j≤l.length∧u=.int .i64 j∧Hid (aP [] w wr∧aP [] wo wr∧∀ (i:Nat) (o:Pn.Op),i < j→l[i]?=some o→Pn.dO o=true)) (fun u _=>l.length - (intOf u).toNat)
   case atStart=>exact ⟨0,Nat.zero_le _,rfl,Lib.hid ⟨HI.out.1,aP.refl _ _,fun i o hi=>by omega⟩⟩
   case round =>
    obtain ⟨j,hj,rfl,HJ⟩:=hrel;obtain ⟨wi,rfl⟩:∃ wi:World,wi=wr:=⟨_,rfl⟩
    by_cases JB:j < l.length
    ·obtain ⟨o,ho⟩:∃ o,l[j]?=some o:=⟨_,List.getElem?_eq_getElem JB⟩
     obtain ⟨g2,M5,vc,U2,rfl,_,_,⟨b0,b1,b2,b3,b4,b5⟩,hu,_⟩:=(HU.out.then yV HJ.out.2.1).op ho;obtain ⟨ac,cc,rfl⟩:=hu.shape;have HO:=Lib.hid ho;have HG:=Lib.hid hu;clear ho hu
     cases hr:Pn.dO o with
     | false =>
      have HN:Hid (false=q):=Lib.hid (by rw [← HQ.out,Pn.C6 HX.out (Pn.Ju HO.out hr)])
      go_wp2_with fail
      refine (CZ _ o _ U2 (HG.out.then tT ((aP.refl [] wi).alloc _))).mono ?_
      rintro e w3 ⟨rfl,k3⟩
      rw [hr];have K3:=Lib.hid ((HJ.out.1.alloc _).then k3);have K4:=Lib.hid ((HJ.out.2.1.alloc _).then k3);clear k3
      go_wp2_with fail
      go_ret
      exact ⟨gK HN.out,K3.out⟩
     | true =>
      go_wp2_with fail
      refine (CZ _ o _ U2 (HG.out.then tT ((aP.refl [] wi).alloc _))).mono ?_
      rintro e w3 ⟨rfl,k3⟩
      rw [hr];have K3:=Lib.hid ((HJ.out.1.alloc _).then k3);have K4:=Lib.hid ((HJ.out.2.1.alloc _).then k3);have JC:=Lib.hid hr;clear k3 hr
      go_wp2_with fail
      go_roundw
      case rel=>exact ⟨j + 1,by omega,by go_num,Lib.hid ⟨K3.out,K4.out,fun i o2 hi h2=>by
       by_cases e:i=j
       ·subst e;rw [HO.out] at h2;cases h2;exact JC.out
       ·exact HJ.out.2.2 i o2 (by omega) h2⟩⟩
      case measure=>simp [intOf];omega
    ·obtain rfl:j=l.length:=by omega
     by_cases C7:16 < l.length
     ·have HN:Hid (false=q):=Lib.hid (by rw [← HQ.out,Pn.C6 HX.out (Pn.Jv C7)])
      go_wp2_with fail
      go_ret
      exact ⟨gK HN.out,HJ.out.1⟩
     have JE:l.length≤16:=by omega
     clear C7;have JF:Hid (Pn.js l=true):=Lib.hid (Pn.Jw JE HJ.out.2.2)
     go_wp2_with fail
     go_roundw
     case rel=>exact ⟨k + 1,by omega,by go_num,Lib.hid ⟨HJ.out.1,fun i l2 hi h2=>by
      by_cases e:i=k
      ·subst e;rw [HX.out] at h2;cases h2;exact JF.out
      ·exact HI.out.2 i l2 (by omega) h2⟩⟩
     case measure=>simp [intOf];omega
  ·obtain rfl:k=p.length:=by omega
   by_cases hlen:p.length < 1∨8 < p.length
   ·have HN:Hid (false=q):=Lib.hid (by rw [← HQ.out,Pn.Jx hlen]);rcases hlen with hl | hl
    ·go_wp2_with fail
     all_goals
      go_ret
      exact ⟨gK (by have h:=HN.out;subst h;first | rfl | (simp <;> omega)),HI.out.1⟩
    ·have p6:1≤p.length:=by omega
     go_wp2_with fail
     all_goals
      go_ret
      exact ⟨gK (by have h:=HN.out;subst h;first | rfl | (simp <;> omega)),HI.out.1⟩
   ·have p6:1≤p.length:=by omega
    have JG:p.length≤8:=by omega
    have HN:Hid (true=q):=Lib.hid (by rw [← HQ.out,Pn.Jy p6 JG HI.out.2])
    go_wp2_with fail
    all_goals
     go_ret
     exact ⟨gK (by have h:=HN.out;subst h;first | rfl | (simp <;> omega)),HI.out.1⟩
open Go.RowKit
namespace Fl
open Sx
section
variable {α:Type} {E:World→List Value→α→List Nat→Prop} {enc:α→List A}
def Is (enc:α→List A) (E:World→List Value→α→List Nat→Prop):Prop :=
 ∀ (ok:Nat→Prop) (w:World) (cs:List Value) (a:α),RC ok w (enc a) cs→∃ U,E w cs a U∧∀ x∈U,ok x∧x < w.heap.size
theorem Is.parts (h:Is enc E) {ok:Nat→Prop} {w:World} {sz:Nat}:∀ {l:List α} {xs:List Value},RX ok w sz (l.map enc) xs→∃ S,mh E sz w xs l S∧∀ x∈S,ok x∧x < w.heap.size
 | [],xs,r=>⟨[],fun k a hk=>by simp at hk,by simp⟩
 | a :: l,xs,r=>by
  obtain ⟨vs,ys,rfl,h2,h3,h4⟩:=r;obtain ⟨U,u1,u2⟩:=h ok w vs a h3;obtain ⟨S,s1,s2⟩:=Is.parts h h4;refine ⟨U ++ S,fun k b hk=>?_,fun x hx=>(List.mem_append.1 hx).elim (u2 x) (s2 x)⟩
  cases k with
  | zero =>
   simp at hk;subst hk;refine ⟨U,?_,fun x hx=>List.mem_append_left _ hx⟩;have:chunk (vs ++ ys) sz 0=vs:=by unfold chunk;simp [← h2]
   rw [this];exact u1
  | succ k =>
   simp at hk;obtain ⟨V,v1,v2⟩:=s1 k b hk;refine ⟨V,?_,fun x hx=>List.mem_append_right _ (v2 x hx)⟩;have:chunk (vs ++ ys) sz (k + 1)=chunk ys sz k:=by
    unfold chunk;rw [show (k + 1) * sz=vs.length + k * sz by rw [h2,Nat.add_mul];omega,List.drop_length_add_append]
   rw [this];exact v1
theorem RA.cr {ok:Nat→Prop} {w:World} {sz:Nat} {l:List (List A)} {x:Value} (h:RA ok w (.r sz l) x):∃ ys S,View w x sz l.length ys S∧RX ok w sz l ys∧∀ g∈S,ok g∧g < w.heap.size:=by
 obtain ⟨ys,S,v1,v2,v3⟩:=h.view;exact ⟨ys,S,v1,v2,fun g hg=>⟨v3 g hg,v1.lt g hg⟩⟩
theorem Is.gv (h:Is enc E) {ok:Nat→Prop} {w:World} {sz:Nat} {l:List α} {v:Value} (r:RA ok w (.r sz (l.map enc)) v):∃ S,GV E sz w v l S∧∀ x∈S,ok x∧x < w.heap.size:=by
 obtain ⟨ys,T,v1,v2,v3⟩:=r.cr;rw [List.length_map] at v1;obtain ⟨S,s1,s2⟩:=h.parts v2;exact ⟨T ++ S,⟨ys,T,v1,s1.mono fun x hx=>List.mem_append_right _ hx,fun x hx=>List.mem_append_left _ hx,fun x hx=>(List.mem_append.1 hx).elim (fun h=>(v3 x h).2) (fun h=>(s2 x h).2),v2.one⟩,fun x hx=>(List.mem_append.1 hx).elim (v3 x) (s2 x)⟩
theorem Is.row (h:Is enc E) {sz:Nat}:Is (fun l:List α=>[A.r sz (l.map enc)]) (lG E sz):=fun ok w cs l r=>by
 unfold RC at r;obtain ⟨x,xs,rfl,r1,r2⟩:=r;unfold RC at r2;subst r2;obtain ⟨S,s1,s2⟩:=h.gv r1;exact ⟨S,⟨x,rfl,s1⟩,s2⟩
end
theorem RC.c1 {ok:Nat→Prop} {w:World} {v:Value} {iM:List A} {cs:List Value} (h:RC ok w (.v v :: iM) cs):∃ ys,cs=v :: ys∧RC ok w iM ys:=by
 unfold RC at h;obtain ⟨x,xs,rfl,h1,h2⟩:=h;unfold RA at h1;exact ⟨xs,by rw [h1.1],h2⟩
theorem RC.n0 {ok:Nat→Prop} {w:World} {cs:List Value} (h:RC ok w [] cs):cs=[]:=by unfold RC at h;exact h
theorem JH:Is nE jG:=fun ok w cs c r=>by
 obtain ⟨y1,e1,r1⟩:=RC.c1 (iM:=[nI c.ch,nI c.v]) r;obtain ⟨y2,e2,r2⟩:=r1.c1;obtain ⟨y3,e3,r3⟩:=r2.c1;have e4:=r3.n0;subst e4 e3 e2;exact ⟨[],⟨e1,rfl⟩,by simp⟩
theorem JI:Is gR qT:=fun ok w cs o r=>by
 obtain ⟨y1,e1,r1⟩:=RC.c1 (iM:=[nI o.ch,nI o.n,nI o.v,.r 3 (o.cases.map nE),bI o.cT]) r;obtain ⟨y2,e2,r2⟩:=r1.c1;obtain ⟨y3,e3,r3⟩:=r2.c1;obtain ⟨y4,e4,r4⟩:=r3.c1;unfold RC at r4;obtain ⟨x,y5,e5,r5,r6⟩:=r4;obtain ⟨y6,e6,r7⟩:=r6.c1;have e7:=r7.n0;obtain ⟨S,s1,s2⟩:=JH.gv r5;subst e7 e6 e5 e4 e3 e2;exact ⟨S,⟨x,e1,s1⟩,s2⟩
theorem JJ:Is (fun l:List Pn.Op=>[A.r 6 (l.map gR)]) oA:=JI.row
theorem JK {ok:Nat→Prop} {w:World} {p:List (List Pn.Op)} {v:Value} (r:RA ok w (sW p) v):∃ S,GV oA 1 w v p S∧∀ x∈S,ok x∧x < w.heap.size:=JJ.gv r
theorem bU.c {ok:Nat→Prop} {w:World} {a:A} {ds:List D} {xs:List Value} (h:bU ok w (.c a :: ds) xs):∃ x ys,xs=x :: ys∧RA ok w a x∧bU ok w ds ys:=by
 unfold bU at h;obtain ⟨x,ys,rfl,h1,h2⟩:=h;unfold RD at h1;exact ⟨x,ys,rfl,h1,h2⟩
theorem JL (p:List (List Pn.Op)):Pure Tryz.prog 56 [.c (sW p)] (.c (bI (Pn.right p))) :=
 aA.plain fun ok e xs hd=>by
  obtain ⟨v,ys,rfl,r,h⟩:=hd.c;rw [h.HH];obtain ⟨S,s1,s2⟩:=JK r;refine (Jz e v p S s1).mono ?_
  rintro en w' ⟨rfl,k⟩
  exact ⟨_,rfl,k,RD.v rfl⟩
end Fl
open Go.RowKit
namespace Fl
open Sx
set_option maxRecDepth 100000
section
variable {P:Program} {c:Cx} {k:List Item} {f:Fm} {L L2:List ak} {T:TypeId} {ps:String} {af:Array Edge} {gd:Option (Nat × Bool)} {t:Nat}
end
theorem JM {p:List (List Pn.Op)} (h:Pn.right p=true):1≤p.length∧p.length≤8∧∀ ops∈p,ops.length≤16∧∀ o∈ops,o.cases.length≤6:=by
 unfold Pn.right at h;rw [decide_eq_true_iff] at h;refine ⟨h.1,h.2.1,fun ops ho=>?_⟩;have h2:=h.2.2 ops ho;unfold Pn.js at h2;rw [decide_eq_true_iff] at h2;refine ⟨h2.1,fun o JN=>?_⟩;have h3:=h2.2 o JN;unfold Pn.dO at h3;rw [decide_eq_true_iff] at h3;exact h3.2.2.2.2.2.2.2.2.1
end Fl
open Go.RowKit
namespace Fl
open Sx
set_option maxRecDepth 100000
section
variable {P:Program} {c:Cx} {f:Fm} {L:List ak} {T:TypeId} {ps:String} {af:Array Edge} {gd:Option (Nat × Bool)} {t:Nat}
end
end Fl
open Go.RowKit
namespace Fl
open Sx
set_option maxRecDepth 100000
structure Fe (s:ai):Prop where
 gs:s.gs.length≤100000
 ch:s.aK.length≤100000
 su:s.aL.length≤100000
 dr:s.cY.length≤100000
 dn:s.done.length≤100000
 cl:s.cache.length=s.gs.length
 cb:∀ l∈s.cache,l.length≤100000
 mb:s.middle.length≤100000
 gb:∀ g∈s.gs,g.ops.length≤100000∧(∀ o∈g.ops,o.cases.length≤100000)∧g.order.length≤100000∧g.aE.length≤100000∧g.aq.length≤100000∧g.an.length≤100000
 hb:∀ c∈s.aK,c.buf.length≤100000∧c.recv.length≤100000∧c.send.length≤100000
end Fl
open Go.RowKit
theorem JP (w:World) (size iY most:Int) :
  Calls Tryz.prog 57 #[.int .i64 size,.int .i64 iY,.int .i64 most] w fun e w'=>e=.returned (.bool (Po.fits size iY most))∧w=w':=by
 have JQ:size < 0∨(0≤size∧64 < size)∨(0≤size∧size≤64∧iY < 0)∨(0≤size∧size≤64∧0≤iY∧8 < iY)∨(0≤size∧size≤64∧0≤iY∧iY≤8∧most < 1)∨(0≤size∧size≤64∧0≤iY∧iY≤8∧1≤most∧16 < most)∨(0≤size∧size≤64∧0≤iY∧iY≤8∧1≤most∧most≤16):=by omega
 obtain ⟨c,hc⟩:∃ c,c=Po.fits size iY most:=⟨_,rfl⟩
 have HC:=Lib.hid hc;rw [← hc];clear hc;rcases JQ with h1 | ⟨h1,h2⟩ | ⟨h1,h2,h3⟩ | ⟨h1,h2,h3,h4⟩ | ⟨h1,h2,h3,h4,h5⟩ | ⟨h1,h2,h3,h4,h5,h6⟩ | ⟨h1,h2,h3,h4,h5,h6⟩
 all_goals go_enter Tryz.func57,Tryz.ntmps57
 all_goals go_wp2_with fail
 all_goals go_ret
 all_goals exact ⟨gK (by rw [HC.out,Bool.eq_iff_iff];simp [Po.fits];omega),rfl⟩
open Go.RowKit
namespace Fl
open Sx
set_option maxRecDepth 100000
theorem JR (s g c:Int):Po.fits s g c=Sx.can s g c:=by
 rfl
theorem JU (s g c:Int):Pure Tryz.prog 57 [.c (nI s),.c (nI g),.c (nI c)] (.c (bI (Sx.can s g c))) :=
 aA.plain fun ok e xs hd=>by
  obtain rfl:=hd.v3;refine (JP e s g c).mono ?_
  rintro en w' ⟨rfl,rfl⟩
  rw [JR];exact ⟨_,rfl,aP.refl _ _,RD.v rfl⟩
def C8 (sn:Nat) (cn:Int) (d:List Int) (g su k:A):List A:=[nI sn,nI cn,nI 0,g,.v (.slice none 0 0),su,k,.v (.slice none 0 0),nI 0,uI d,nI 0,.v (.slice none 0 0)]
theorem JV (p:List (List Pn.Op)) (sn cn:Int) (d:List Int) :
  Pure Tryz.prog 19 [.c (sW p),.agg [nI sn,nI cn],.c (uI d)] (.aU [.agg (aC (Sx.new p sn cn d).1),.c (nI (Sx.new p sn cn d).2)]):=by
 have CR:=JL p;have CC:=JU sn p.length cn
 cases hr:Pn.right p with
 | false =>
  have e1:Sx.new p sn cn d=(nC,3):=by unfold Sx.new;rw [if_pos hr]
  rw [e1];rw [hr] at CR;refine aA.intro Tryz.func19 rfl rfl rfl (fun ok e=>?_)
  repeat (first | (refine K.store ?_;refine JO.ld (Ld.bu rfl rfl rfl (by exact rfl) (by exact rfl)) rfl (fun _=>?_)) | refine au ?_ | intro _)
  (exact J.ret Tryz.func19 rfl (.cons (.cell 0 rfl rfl rfl) (.cons (.tmp rfl) .nil)) () (by (exact .aU (by repeat (first | exact .nil | refine .cons (.agg (by repeat (first | exact .nil | refine .cons .refl ?_ | refine .cons .nil ?_))) ?_ | refine .cons .refl ?_)))) [] .nil rfl rfl)
 | true =>
  rw [hr] at CR
  cases hc:Sx.can sn p.length cn with
  | false =>
   have e1:Sx.new p sn cn d=(nC,1):=by unfold Sx.new;rw [if_neg (by simp [hr]),if_pos hc]
   rw [e1];rw [hc] at CC;refine aA.intro Tryz.func19 rfl rfl rfl (fun ok e=>?_)
   repeat (first | (refine K.store ?_;refine JO.ld (Ld.bu rfl rfl rfl (by exact rfl) (by exact rfl)) rfl (fun _=>?_)) | refine au ?_ | intro _)
   (exact J.ret Tryz.func19 rfl (.cons (.cell 0 rfl rfl rfl) (.cons (.tmp rfl) .nil)) () (by (exact .aU (by repeat (first | exact .nil | refine .cons (.agg (by repeat (first | exact .nil | refine .cons .refl ?_ | refine .cons .nil ?_))) ?_ | refine .cons .refl ?_)))) [] .nil rfl rfl)
  | true =>
   have e1:Sx.new p sn cn d=(Sx.start p sn cn d,0):=by unfold Sx.new;rw [if_neg (by simp [hr]),if_neg (by simp [hc])]
   rw [e1];rw [hc] at CC;obtain ⟨r1,r2,r3⟩:=JM hr;unfold Sx.can at hc;simp only [decide_eq_true_eq] at hc;obtain ⟨sm,rfl⟩:∃ sm:Nat,sn=sm:=⟨sn.toNat,by omega⟩
   refine aA.intro Tryz.func19 rfl rfl rfl (fun ok e=>?_)
   repeat (first | (refine K.store ?_;refine JO.ld (Ld.bu rfl rfl rfl (by exact rfl) (by exact rfl)) rfl (fun _=>?_)) | refine au ?_ | intro _)
   rename_i b4 b6 b8 _;refine J.nX 55 25 ?_;refine J.nX 28 1 ?_;refine J.loop (ι:={ q:Nat × Value × Value // q.1≤p.length }) (fun q=>[(30,.c (nI q.1.1)),(29,.c (nI p.length)),(28,.c (sW p)),(8,.c (.v (.pointer (some ⟨b8,0,none⟩)))),(6,.c (.v (.pointer (some ⟨b6,0,none⟩)))),(4,.c (.v (.pointer (some ⟨b4,0,none⟩))))]) (fun q=>.row q.1.2.1 28 1 (((p.take q.1.1).map fun _=>([]:List Int)).map fun l=>[ints l]) :: .row q.1.2.2 55 25 (((p.take q.1.1).map (clean · 0)).map eG) :: .box b8 36 (C8 sm cn d (.v q.1.2.2) (.v (.slice none 0 0)) (.v q.1.2.1)) :: .box b6 36 qf :: .box b4 24 [nI sm,nI cn] :: []) (fun q=>p.length - q.1.1) ⟨(0,.slice none 0 0,.slice none 0 0),Nat.zero_le _⟩ (fun X h=>h.aF ⟨rfl,rfl,rfl,rfl,rfl,rfl,trivial⟩) (fun q ih=>?_);obtain ⟨⟨k,vc,vg⟩,hk⟩:=q;simp only at hk ih ⊢
   by_cases gj:k < p.length
   ·have t1:(decide ((k:Int) < (p.length:Int)))=true:=by simpa using gj
    obtain ⟨ops,ho⟩:∃ ops,p[k]?=some ops:=⟨_,List.getElem?_eq_getElem gj⟩
    have J1:(p.map fun ops=>[A.r 6 (ops.map gR)])[((k:Int)).toNat]?=some [A.r 6 (ops.map gR)]:=by rw [Int.toNat_natCast,List.getElem?_map,ho];rfl
    have iH:(p.take k).length=k:=by rw [List.length_take];omega
    repeat (refine gn ?_)
    refine J.draw (by kernel_rfl) rfl ?_;refine JW.wS [1] (some 7) ?_;refine tk 0 ?_;refine tk 1 ?_;refine tk 2 ?_;refine cz 3 (xO ops 0) ?_;refine jl 4 rfl rfl rfl rfl (Ld.mE (qb rfl) rfl rfl rfl rfl rfl) .none (fun _=>?_);refine jl 5 rfl rfl rfl rfl (Ld.bO (qb rfl) rfl rfl .read (by (simp;omega))) (.cK rfl) (fun _=>?_);refine jk 6 rfl rfl rfl rfl (Qt.fieldAddr rfl rfl) ?_;refine jt 7 rfl rfl (Ld.cW rfl rfl (by exact rfl)) (fun _=>?_);refine cH ?_
    repeat (first | (refine K.store ?_;refine JO.ld (Ld.cW rfl rfl (by exact rfl)) rfl (fun _=>?_)) | (refine K.lit ?_;first | (refine JO.ld (Ld.z0 (qb rfl)) rfl (fun _=>?_)) | (refine JO.ld (Ld.mE (qb rfl) rfl rfl rfl rfl rfl) rfl (fun _=>?_))) | (refine K.bi ?_;refine JO.ld (Ld.bO (qb rfl) rfl rfl .read (by (simp;omega))) rfl (fun _=>?_)) | refine gn ?_)
    rename_i JX _ _ _ JY _;refine J.bq ?_ ((ih ⟨(k + 1,JY,JX),by simp only;omega⟩ (by simp only;omega)).aF ⟨rfl,rfl,rfl,rfl,rfl,rfl,trivial⟩);rw [List.take_add_one,ho,List.map_append,List.map_append,List.map_append,List.map_append];rfl
   ·have t1:(decide ((k:Int) < (p.length:Int)))=false:=by simpa using gj
    obtain rfl:k=p.length:=by omega
    rw [List.take_of_length_le (Nat.le_refl _)];refine J.lN 0 2 6 rfl rfl rfl ?_;refine J.lN 0 1 3 rfl rfl rfl ?_
    repeat (refine gn ?_)
    refine J.nX 60 7 ?_;refine J.loop (ι:={ q:Nat × Value // q.1≤sm }) (fun q=>[(11,.c (nI q.1.1)),(8,.c (.v (.pointer (some ⟨b8,0,none⟩)))),(6,.c (.v (.pointer (some ⟨b6,0,none⟩)))),(4,.c (.v (.pointer (some ⟨b4,0,none⟩))))]) (fun q=>.row q.1.2 60 7 ((List.replicate q.1.1 fF).map eS) :: .box b8 36 (C8 sm cn d (.r 25 ((p.map (clean · 0)).map eG)) (.v q.1.2) (.r 1 ((p.map fun _=>([]:List Int)).map fun l=>[ints l]))) :: .box b6 36 qf :: .box b4 24 [nI sm,nI cn] :: []) (fun q=>sm - q.1.1) ⟨(0,.slice none 0 0),Nat.zero_le _⟩ (fun X h=>h.aF ⟨rfl,rfl,rfl,rfl,trivial⟩) (fun q ih=>?_);obtain ⟨⟨j,vs⟩,hj⟩:=q;simp only at hj ih ⊢
    by_cases oG:j < sm
    ·have t1:(decide ((j:Int) < (sm:Int)))=true:=by simpa using oG
     repeat (first | (refine K.store ?_;refine JO.ld (Ld.cW rfl rfl (by exact rfl)) rfl (fun _=>?_)) | (refine K.lit ?_;refine JO.ld (Ld.mE (qb rfl) rfl rfl rfl rfl rfl) rfl (fun _=>?_)) | (refine K.bi ?_;refine JO.ld (Ld.bO (qb rfl) rfl rfl .read (by (simp;omega))) rfl (fun _=>?_)) | refine gn ?_)
     rename_i JZ _;refine J.bq ?_ ((ih ⟨(j + 1,JZ),by simp only;omega⟩ (by simp only;omega)).aF ⟨rfl,rfl,rfl,rfl,trivial⟩);rw [List.replicate_succ',List.map_append];rfl
    ·have t1:(decide ((j:Int) < (sm:Int)))=false:=by simpa using oG
     obtain rfl:j=sm:=by omega
     refine J.lN 0 1 5 rfl rfl rfl ?_
     repeat (first | (refine K.store ?_;refine JO.ld (Ld.bu rfl rfl rfl (by exact rfl) (by exact rfl)) rfl (fun _=>?_)) | refine gn ?_)
     (exact J.ret Tryz.func19 rfl (.cons (.cell 1 rfl rfl rfl) (.cons (.tmp rfl) .nil)) () (by (exact .aU (by repeat (first | exact .nil | refine .cons (.agg (by repeat (first | exact .nil | refine .cons .refl ?_ | refine .cons .nil ?_))) ?_ | refine .cons .refl ?_)))) [] .nil rfl rfl)
end Fl
open Go.RowKit
namespace Fl
open Sx
set_option maxRecDepth 100000
section
variable {P:Program} {c:Cx} {f:Fm} {L:List ak} {T X:TypeId} {ps:String} {af:Array Edge} {gd:Option (Nat × Bool)} {t:Nat}
end
end Fl
open Go.RowKit Go.ChangeShapes Go.WideShapes Go.Deep
namespace Fl
open Sx
theorem J0:Si nE jG:=fun ok w cs c U r _=>by
 obtain ⟨rfl,_⟩:=r;exact RC.cons (RA.w rfl) (RC.cons (RA.w rfl) (RC.cons (RA.w rfl) RC.nil))
theorem J2:Si gR qT:=fun ok w cs o U r hS=>by
 obtain ⟨vc,rfl,g⟩:=r;exact RC.cons (RA.w rfl) (RC.cons (RA.w rfl) (RC.cons (RA.w rfl) (RC.cons (RA.w rfl) (RC.cons (J0.ra g hS) (RC.cons (RA.w rfl) RC.nil)))))
theorem J3:Si (fun l:List Pn.Op=>[A.r 6 (l.map gR)]) oA:=J2.row
theorem J4:Si (fun n:Int=>[A.v (.int .u16 n)]) (jH .u16):=fun ok w cs n U r _=>by
 obtain ⟨rfl,_⟩:=r;exact RC.cons (RA.w rfl) RC.nil
theorem J5:Si (fun n:Int=>[nI n]) (jH .i64):=fun ok w cs n U r _=>by
 obtain ⟨rfl,_⟩:=r;exact RC.cons (RA.w rfl) RC.nil
structure tU where
 p:List (List Pn.Op)
 sn:Int
 cn:Int
 d:List Int
def qU (w:World) (cs:List Value) (a:tU) (U:List Nat):Prop :=
 ∃ vp vd,cs=[vp,.int .i64 a.sn,.int .i64 a.cn,vd]∧GV oA 1 w vp a.p U∧GV (jH .u16) 1 w vd a.d U
theorem J6:Kept qU :=
 ⟨fun h k hn=>by obtain ⟨vp,vd,h1,h2,h3⟩:=h;exact ⟨vp,vd,h1,h2.ig CQ k hn,h3.ig (zu _) k hn⟩,fun h=>by obtain ⟨vp,vd,h1,h2,h3⟩:=h;exact h2.lt⟩
def vN (p:List (List Pn.Op)) (sn cn:Int) (d:List Int):List A:=[sW p,nI sn,nI cn,uI d]
theorem J7 {ok:Nat→Prop} {w:World} {cs:List Value} {a:tU} {U:List Nat} (h:qU w cs a U) (hS:∀ x∈U,ok x):RC ok w (vN a.p a.sn a.cn a.d) cs:=by
 obtain ⟨vp,vd,rfl,h2,h3⟩:=h;exact RC.cons (J3.ra h2 hS) (RC.cons (RA.w rfl) (RC.cons (RA.w rfl) (RC.cons (J4.ra h3 hS) RC.nil)))
theorem yZ:eI Tryz.prog 3 (jH .i64) 1:=ue Tryz.underlying3 (by kernel_rfl)
theorem J8:eI Tryz.prog 109 (jH .u16) 1:=ue Tryz.underlying109 (by kernel_rfl)
theorem J9:eI Tryz.prog 25 (lG (jH .u16) 1) 1:=rq Tryz.underlying25 (by kernel_rfl) J8
def C9 (w:World) (cs:List Value) (a:Int × Int) (U:List Nat):Prop:=cs=[.int .i64 a.1,.int .i64 a.2]∧U=[]
theorem Ka:Kept C9:=⟨fun h _ _=>h,fun h x hx=>by obtain ⟨_,rfl⟩:=h;simp at hx⟩
theorem Kb:eI Tryz.prog 24 C9 2:=by
 refine ⟨by omega,Ka,by kernel_rfl,?_⟩;intro H enc W fuel cs x h;obtain ⟨xs,n,_,_,hl,jI,hf⟩:=DataW.trod_struct Tryz.underlying24 h;have mC:cs.length=2:=hl.trans (by kernel_rfl);obtain ⟨v0,v1,rfl⟩:=DR mC;have mu:xs.length=2:=jI.trans (by kernel_rfl);have hs:∀ i,i < 2→(xs[i]?).isSome=true:=fun i hi=>by simp [mu,hi]
 obtain ⟨o0,_,a0,U0,e0,_,_⟩:=yZ.field rfl rfl (hs 0 (by omega)) (hf 0 _ rfl);obtain ⟨o1,_,a1,U1,e1,_,_⟩:=yZ.field rfl rfl (hs 1 (by omega)) (hf 1 _ rfl);simp at e0 e1 o0 o1;subst e0 e1;exact ⟨rfl,(by intro y hy;simp at hy;rcases hy with rfl | rfl <;> rfl),(a0,a1),[],rfl,rfl⟩
theorem Kc:eI Tryz.prog 27 qU 4:=by
 refine ⟨by omega,J6,by kernel_rfl,?_⟩;intro H enc W fuel cs x h;obtain ⟨xs,n,_,_,hl,jI,hf⟩:=DataW.trod_struct Tryz.underlying27 h;have Ke:cs.length=4:=hl.trans (by kernel_rfl);obtain ⟨v0,v1,v2,v3,rfl⟩:=DT Ke;have rZ:xs.length=3:=jI.trans (by kernel_rfl);have hs:∀ i,i < 3→(xs[i]?).isSome=true:=fun i hi=>by simp [rZ,hi]
 obtain ⟨o0,_,a0,U0,vp,e0,h0⟩:=Jl.field rfl rfl (hs 0 (by omega)) (hf 0 _ rfl);obtain ⟨o1,_,a1,U1,e1,_⟩:=Kb.field rfl rfl (hs 1 (by omega)) (hf 1 _ rfl);obtain ⟨o2,_,a2,U2,vd,e2,h2⟩:=J9.field rfl rfl (hs 2 (by omega)) (hf 2 _ rfl);simp at e0 e1 e2 o0 o1 o2;obtain ⟨Kf,Kg⟩:=e1;subst e0 Kf Kg e2;have gq:∀ x∈U0 ++ U2,x < W.heap.size:=fun x hx=>by
  rcases List.mem_append.1 hx with h | h
  ·exact h0.lt x h
  ·exact h2.lt x h
 exact ⟨rfl,(by intro y hy;simp at hy;rcases hy with rfl | rfl | rfl | rfl <;> first | rfl | assumption),⟨a0,a1.1,a1.2,a2⟩,U0 ++ U2,_,_,rfl,h0.mono (fun x hx=>by simp [hx]) gq,h2.mono (fun x hx=>by simp [hx]) gq⟩
end Fl
open Go.RowKit
namespace Fl
open Sx
set_option maxRecDepth 100000
section
variable {P:Program} {c:Cx} {f:Fm} {L:List ak} {T:TypeId} {ps:String} {af:Array Edge} {gd:Option (Nat × Bool)} {t:Nat}
end
abbrev uC (u:U) (k:Nat) (x:Value × Value × Value × List Nat):U:={ u with vR:=x.2.1,vC:=x.2.2.1,TR:=u.TR ++ x.2.2.2,rs:=fun i=>if i=k then x.1 else u.rs i }
end Fl
open Go.RowKit
namespace Fl
open Sx
set_option maxRecDepth 100000
section
variable {P:Program} {c:Cx} {k:List Item} {f:Fm} {b:Nat} {u:U} {s:ai} {g:Nat}
abbrev M6 (u:U) (g:Nat) (v:Value):U:={ u with wk:=fun k=>if k=g then v else u.wk k }
end
end Fl
end Go.Proofs.YtgjpdogjekmemaaGreat
