/-
  What the laws need, part Q14.
  Conditions: none.
-/
import Derived.Test.YtdibmkjoaghafaaQ13
set_option linter.unusedVariables false
set_option linter.unusedSimpArgs false
set_option linter.unnecessarySimpa false
set_option maxHeartbeats 2000000
namespace Go.Proofs.Ytdibmkjoaghafaa
open Go.RowKit
namespace Pn
theorem ops_bad {l:List Op} {j:Nat} {o:Op} (h:l[j]?=some o) (ho:rightOp o=false):rightOps l=false:=by
 unfold rightOps;rw [decide_eq_false_iff_not];rintro ⟨_,h2⟩;have:=h2 o (List.mem_of_getElem? h);rw [ho] at this;cases this
theorem ops_long {l:List Op} (h:16 < l.length):rightOps l=false:=by
 unfold rightOps;rw [decide_eq_false_iff_not];rintro ⟨h1,_⟩;omega
theorem ops_good {l:List Op} (h:l.length≤16) (ho:∀ (j:Nat) (o:Op),j < l.length→l[j]?=some o→rightOp o=true):rightOps l=true:=by
 unfold rightOps;rw [decide_eq_true_iff];refine ⟨h,fun o hm=>?_⟩;obtain ⟨j,hj,rfl⟩:=List.getElem_of_mem hm;exact ho j _ hj (List.getElem?_eq_getElem hj)
theorem right_row {p:List (List Op)} {k:Nat} {l:List Op} (h:p[k]?=some l) (hl:rightOps l=false):right p=false:=by
 unfold right;rw [decide_eq_false_iff_not];rintro ⟨_,_,h2⟩;have:=h2 l (List.mem_of_getElem? h);rw [hl] at this;cases this
theorem right_len {p:List (List Op)} (h:p.length < 1∨8 < p.length):right p=false:=by
 unfold right;rw [decide_eq_false_iff_not];rintro ⟨h1,h2,_⟩;omega
theorem right_good {p:List (List Op)} (h1:1≤p.length) (h2:p.length≤8) (ho:∀ (j:Nat) (l:List Op),j < p.length→p[j]?=some l→rightOps l=true):right p=true:=by
 unfold right;rw [decide_eq_true_iff];refine ⟨h1,h2,fun o hm=>?_⟩;obtain ⟨j,hj,rfl⟩:=List.getElem_of_mem hm;exact ho j _ hj (List.getElem?_eq_getElem hj)
end Pn
set_option maxHeartbeats 1600000 in
theorem plan_right (w:World) (v:Value) (p:List (List Pn.Op)) (S:List Nat) (h:GV opsE 1 w v p S) :
  Calls Try.prog 24 #[v] w fun e w'=>e=.returned (.bool (Pn.right p))∧Keeps [] w w':=by
 have hle:=h.le;unfold maxLen at hle;obtain ⟨ao,cap,rfl⟩:=h.shape;have HP:=Lib.hid h;obtain ⟨q,hq0⟩:∃ q,Pn.right p=q:=⟨_,rfl⟩
 rw [hq0];have HQ:=Lib.hid hq0;clear h hq0
 by_cases hlen:p.length < 1∨8 < p.length
 ·have HN:Hid (false=q):=Lib.hid (by rw [← HQ.out,Pn.right_len hlen]);rcases hlen with hl | hl
  ·have hl8:p.length≤8:=by omega
   go_enter Try.func24,Try.ntmps24
   go_wp2_with fail
   go_ret
   exact ⟨ret_bool HN.out,Keeps.refl _ _⟩
  ·have hl1:1≤p.length:=by omega
   go_enter Try.func24,Try.ntmps24
   go_wp2_with fail
   go_ret
   exact ⟨ret_bool HN.out,Keeps.refl _ _⟩
 have hl1:1≤p.length:=by omega
 have hl8:p.length≤8:=by omega
 clear hlen
 go_enter Try.func24,Try.ntmps24
 go_wp2_with fail
 go_loopw [17] (fun u wr=>∃ k:Nat,k≤p.length∧u=.int .i64 k∧Hid (Keeps [] w wr∧∀ (j:Nat) (l:List Pn.Op),j < k→p[j]?=some l→Pn.rightOps l=true)) (fun u _=>p.length - (intOf u).toNat)
 case atStart=>exact ⟨0,Nat.zero_le _,rfl,Lib.hid ⟨Keeps.refl _ _,fun j l hj=>by omega⟩⟩
 case round =>
  obtain ⟨k,hk,rfl,HI⟩:=hrel;obtain ⟨wo,rfl⟩:∃ wo:World,wo=wr:=⟨_,rfl⟩
  by_cases hlt:k < p.length
  ·obtain ⟨l,hx⟩:∃ l,p[k]?=some l:=⟨_,List.getElem?_eq_getElem hlt⟩
   obtain ⟨g1,off1,_,U1,rfl,_,_,a0,⟨v1,hv1,hux⟩,_⟩:=(HP.out.then opsE_kept HI.out.1).one hx
   cases hv1;have hlr:=hux.le;unfold maxLen at hlr;obtain ⟨am,cm,rfl⟩:=hux.shape;have HU:=Lib.hid hux;have HX:=Lib.hid hx;clear hx hux
   by_cases h16:16 < l.length
   ·have HN:Hid (false=q):=Lib.hid (by rw [← HQ.out,Pn.right_row HX.out (Pn.ops_long h16)])
    go_wp2_with fail
    go_ret
    exact ⟨ret_bool HN.out,HI.out.1⟩
   have h16':l.length≤16:=by omega
   clear h16
   go_wp2_with fail
   go_loopw [26] (fun u wr=>∃ j:Nat,j≤l.length∧u=.int .i64 j∧Hid (Keeps [] w wr∧Keeps [] wo wr∧∀ (i:Nat) (o:Pn.Op),i < j→l[i]?=some o→Pn.rightOp o=true)) (fun u _=>l.length - (intOf u).toNat)
   case atStart=>exact ⟨0,Nat.zero_le _,rfl,Lib.hid ⟨HI.out.1,Keeps.refl _ _,fun i o hi=>by omega⟩⟩
   case round =>
    obtain ⟨j,hj,rfl,HJ⟩:=hrel;obtain ⟨wi,rfl⟩:∃ wi:World,wi=wr:=⟨_,rfl⟩
    by_cases hlt2:j < l.length
    ·obtain ⟨o,ho⟩:∃ o,l[j]?=some o:=⟨_,List.getElem?_eq_getElem hlt2⟩
     obtain ⟨g2,off2,vc,U2,rfl,_,_,⟨b0,b1,b2,b3,b4,b5⟩,hu,_⟩:=(HU.out.then opE_kept HJ.out.2.1).op ho;obtain ⟨ac,cc,rfl⟩:=hu.shape;have HO:=Lib.hid ho;have HG:=Lib.hid hu;clear ho hu
     cases hr:Pn.rightOp o with
     | false =>
      have HN:Hid (false=q):=Lib.hid (by rw [← HQ.out,Pn.right_row HX.out (Pn.ops_bad HO.out hr)])
      go_wp2_with fail
      refine (plan_rightOp _ o _ U2 (HG.out.then caseE_kept ((Keeps.refl [] wi).alloc _))).mono ?_
      rintro e w3 ⟨rfl,k3⟩
      rw [hr];have K3:=Lib.hid ((HJ.out.1.alloc _).then k3);have K4:=Lib.hid ((HJ.out.2.1.alloc _).then k3);clear k3
      go_wp2_with fail
      go_ret
      exact ⟨ret_bool HN.out,K3.out⟩
     | true =>
      go_wp2_with fail
      refine (plan_rightOp _ o _ U2 (HG.out.then caseE_kept ((Keeps.refl [] wi).alloc _))).mono ?_
      rintro e w3 ⟨rfl,k3⟩
      rw [hr];have K3:=Lib.hid ((HJ.out.1.alloc _).then k3);have K4:=Lib.hid ((HJ.out.2.1.alloc _).then k3);have HRO:=Lib.hid hr;clear k3 hr
      go_wp2_with fail
      go_roundw
      case rel=>exact ⟨j + 1,by omega,by go_num,Lib.hid ⟨K3.out,K4.out,fun i o2 hi h2=>by
       by_cases e:i=j
       ·subst e;rw [HO.out] at h2;cases h2;exact HRO.out
       ·exact HJ.out.2.2 i o2 (by omega) h2⟩⟩
      case measure=>simp [intOf];omega
    ·obtain rfl:j=l.length:=by omega
     have HRW:Hid (Pn.rightOps l=true):=Lib.hid (Pn.ops_good h16' HJ.out.2.2)
     go_wp2_with fail
     go_roundw
     case rel=>exact ⟨k + 1,by omega,by go_num,Lib.hid ⟨HJ.out.1,fun i l2 hi h2=>by
      by_cases e:i=k
      ·subst e;rw [HX.out] at h2;cases h2;exact HRW.out
      ·exact HI.out.2 i l2 (by omega) h2⟩⟩
     case measure=>simp [intOf];omega
  ·obtain rfl:k=p.length:=by omega
   have HN:Hid (true=q):=Lib.hid (by rw [← HQ.out,Pn.right_good hl1 hl8 HI.out.2])
   go_wp2_with fail
   go_ret
   exact ⟨ret_bool HN.out,HI.out.1⟩
set_option maxHeartbeats 1600000 in
theorem ref10_right (w:World) (v:Value) (p:List (List Pn.Op)) (S:List Nat) (h:GV opsE 1 w v p S) :
  Calls Try.prog 27 #[v] w fun e w'=>e=.returned (.bool (Pn.right p))∧Keeps [] w w':=by
 have hle:=h.le;unfold maxLen at hle;obtain ⟨ao,cap,rfl⟩:=h.shape;have HP:=Lib.hid h;obtain ⟨q,hq0⟩:∃ q,Pn.right p=q:=⟨_,rfl⟩
 rw [hq0];have HQ:=Lib.hid hq0;clear h hq0
 go_enter Try.func27,Try.ntmps27
 go_wp2_with fail
 go_loopw [9] (fun u wr=>∃ k:Nat,k≤p.length∧u=.int .i64 k∧Hid (Keeps [] w wr∧∀ (j:Nat) (l:List Pn.Op),j < k→p[j]?=some l→Pn.rightOps l=true)) (fun u _=>p.length - (intOf u).toNat)
 case atStart=>exact ⟨0,Nat.zero_le _,rfl,Lib.hid ⟨Keeps.refl _ _,fun j l hj=>by omega⟩⟩
 case round =>
  obtain ⟨k,hk,rfl,HI⟩:=hrel;obtain ⟨wo,rfl⟩:∃ wo:World,wo=wr:=⟨_,rfl⟩
  by_cases hlt:k < p.length
  ·obtain ⟨l,hx⟩:∃ l,p[k]?=some l:=⟨_,List.getElem?_eq_getElem hlt⟩
   obtain ⟨g1,off1,_,U1,rfl,_,_,a0,⟨v1,hv1,hux⟩,_⟩:=(HP.out.then opsE_kept HI.out.1).one hx
   cases hv1;have hlr:=hux.le;unfold maxLen at hlr;obtain ⟨am,cm,rfl⟩:=hux.shape;have HU:=Lib.hid hux;have HX:=Lib.hid hx;clear hx hux
   go_wp2_with fail
   go_loopw [15] (fun u wr=>∃ j:Nat,j≤l.length∧u=.int .i64 j∧Hid (Keeps [] w wr∧Keeps [] wo wr∧∀ (i:Nat) (o:Pn.Op),i < j→l[i]?=some o→Pn.rightOp o=true)) (fun u _=>l.length - (intOf u).toNat)
   case atStart=>exact ⟨0,Nat.zero_le _,rfl,Lib.hid ⟨HI.out.1,Keeps.refl _ _,fun i o hi=>by omega⟩⟩
   case round =>
    obtain ⟨j,hj,rfl,HJ⟩:=hrel;obtain ⟨wi,rfl⟩:∃ wi:World,wi=wr:=⟨_,rfl⟩
    by_cases hlt2:j < l.length
    ·obtain ⟨o,ho⟩:∃ o,l[j]?=some o:=⟨_,List.getElem?_eq_getElem hlt2⟩
     obtain ⟨g2,off2,vc,U2,rfl,_,_,⟨b0,b1,b2,b3,b4,b5⟩,hu,_⟩:=(HU.out.then opE_kept HJ.out.2.1).op ho;obtain ⟨ac,cc,rfl⟩:=hu.shape;have HO:=Lib.hid ho;have HG:=Lib.hid hu;clear ho hu
     cases hr:Pn.rightOp o with
     | false =>
      have HN:Hid (false=q):=Lib.hid (by rw [← HQ.out,Pn.right_row HX.out (Pn.ops_bad HO.out hr)])
      go_wp2_with fail
      refine (ref10_rightOp _ o _ U2 (HG.out.then caseE_kept ((Keeps.refl [] wi).alloc _))).mono ?_
      rintro e w3 ⟨rfl,k3⟩
      rw [hr];have K3:=Lib.hid ((HJ.out.1.alloc _).then k3);have K4:=Lib.hid ((HJ.out.2.1.alloc _).then k3);clear k3
      go_wp2_with fail
      go_ret
      exact ⟨ret_bool HN.out,K3.out⟩
     | true =>
      go_wp2_with fail
      refine (ref10_rightOp _ o _ U2 (HG.out.then caseE_kept ((Keeps.refl [] wi).alloc _))).mono ?_
      rintro e w3 ⟨rfl,k3⟩
      rw [hr];have K3:=Lib.hid ((HJ.out.1.alloc _).then k3);have K4:=Lib.hid ((HJ.out.2.1.alloc _).then k3);have HRO:=Lib.hid hr;clear k3 hr
      go_wp2_with fail
      go_roundw
      case rel=>exact ⟨j + 1,by omega,by go_num,Lib.hid ⟨K3.out,K4.out,fun i o2 hi h2=>by
       by_cases e:i=j
       ·subst e;rw [HO.out] at h2;cases h2;exact HRO.out
       ·exact HJ.out.2.2 i o2 (by omega) h2⟩⟩
      case measure=>simp [intOf];omega
    ·obtain rfl:j=l.length:=by omega
     by_cases h16:16 < l.length
     ·have HN:Hid (false=q):=Lib.hid (by rw [← HQ.out,Pn.right_row HX.out (Pn.ops_long h16)])
      go_wp2_with fail
      go_ret
      exact ⟨ret_bool HN.out,HJ.out.1⟩
     have h16':l.length≤16:=by omega
     clear h16;have HRW:Hid (Pn.rightOps l=true):=Lib.hid (Pn.ops_good h16' HJ.out.2.2)
     go_wp2_with fail
     go_roundw
     case rel=>exact ⟨k + 1,by omega,by go_num,Lib.hid ⟨HJ.out.1,fun i l2 hi h2=>by
      by_cases e:i=k
      ·subst e;rw [HX.out] at h2;cases h2;exact HRW.out
      ·exact HI.out.2 i l2 (by omega) h2⟩⟩
     case measure=>simp [intOf];omega
  ·obtain rfl:k=p.length:=by omega
   by_cases hlen:p.length < 1∨8 < p.length
   ·have HN:Hid (false=q):=Lib.hid (by rw [← HQ.out,Pn.right_len hlen]);rcases hlen with hl | hl
    ·go_wp2_with fail
     all_goals
      go_ret
      exact ⟨ret_bool (by have h:=HN.out;subst h;first | rfl | (simp <;> omega)),HI.out.1⟩
    ·have hl1:1≤p.length:=by omega
     go_wp2_with fail
     all_goals
      go_ret
      exact ⟨ret_bool (by have h:=HN.out;subst h;first | rfl | (simp <;> omega)),HI.out.1⟩
   ·have hl1:1≤p.length:=by omega
    have hl8:p.length≤8:=by omega
    have HN:Hid (true=q):=Lib.hid (by rw [← HQ.out,Pn.right_good hl1 hl8 HI.out.2])
    go_wp2_with fail
    all_goals
     go_ret
     exact ⟨ret_bool (by have h:=HN.out;subst h;first | rfl | (simp <;> omega)),HI.out.1⟩
open Go.RowKit
namespace Fl
section
variable {P:Program} {F:FuncId} {ds:List D}
theorem RDs.nil_ {ok:Nat→Prop} {w:World} {xs:List Value} (h:RDs ok w [] xs):xs=[]:=by unfold RDs at h;exact h
theorem Con.plain {d:D} (h:∀ ok e xs,RDs ok e ds xs→Calls P F xs.toArray e fun en w'=>∃ x,en=.returned x∧Keeps [] e w'∧RD (fun g=>ok g∨e.heap.size≤g) w' d x):Pure P F ds d:=⟨fun ok e xs hd _ _ _=>by
 refine Calls.mono (h ok e xs hd) ?_
 rintro en w' ⟨x,rfl,kp,hx⟩
 refine ⟨(),x,rfl,by simpa [foots] using kp,by simp [foots],List.Pairwise.nil,by simp,?_⟩;have:okr ok e [] []=fun g=>ok g∨e.heap.size≤g:=by
  funext g;unfold okr;simp [foots]
 rw [this];exact hx⟩
end
def opsA (p:List (List Pn.Op)):A:=.r 1 (p.map fun ops=>[.r 6 (ops.map eOp)])
section
variable {α:Type} {E:World→List Value→α→List Nat→Prop} {enc:α→List A}
def Is (enc:α→List A) (E:World→List Value→α→List Nat→Prop):Prop :=
 ∀ (ok:Nat→Prop) (w:World) (cs:List Value) (a:α),RC ok w (enc a) cs→∃ U,E w cs a U∧∀ x∈U,ok x∧x < w.heap.size
theorem Is.parts (h:Is enc E) {ok:Nat→Prop} {w:World} {sz:Nat}:∀ {l:List α} {xs:List Value},RX ok w sz (l.map enc) xs→∃ S,Parts E sz w xs l S∧∀ x∈S,ok x∧x < w.heap.size
 | [],xs,r=>⟨[],fun k a hk=>by simp at hk,by simp⟩
 | a :: l,xs,r=>by
  obtain ⟨vs,ys,rfl,h2,h3,h4⟩:=r;obtain ⟨U,u1,u2⟩:=h ok w vs a h3;obtain ⟨S,s1,s2⟩:=Is.parts h h4;refine ⟨U ++ S,fun k b hk=>?_,fun x hx=>(List.mem_append.1 hx).elim (u2 x) (s2 x)⟩
  cases k with
  | zero =>
   simp at hk;subst hk;refine ⟨U,?_,fun x hx=>List.mem_append_left _ hx⟩;have:chunk (vs ++ ys) sz 0=vs:=by unfold chunk;simp [← h2]
   rw [this];exact u1
  | succ k =>
   simp at hk;obtain ⟨V,v1,v2⟩:=s1 k b hk;refine ⟨V,?_,fun x hx=>List.mem_append_right _ (v2 x hx)⟩;have:chunk (vs ++ ys) sz (k + 1)=chunk ys sz k:=by
    unfold chunk;rw [show (k + 1) * sz=vs.length + k * sz by rw [h2,Nat.add_mul];omega,List.drop_length_add_append]
   rw [this];exact v1
theorem RA.blk {ok:Nat→Prop} {w:World} {sz:Nat} {l:List (List A)} {x:Value} (h:RA ok w (.r sz l) x):∃ ys S,View w x sz l.length ys S∧RX ok w sz l ys∧∀ g∈S,ok g∧g < w.heap.size:=by
 obtain ⟨ys,S,v1,v2,v3⟩:=h.view;exact ⟨ys,S,v1,v2,fun g hg=>⟨v3 g hg,v1.lt g hg⟩⟩
theorem Is.gv (h:Is enc E) {ok:Nat→Prop} {w:World} {sz:Nat} {l:List α} {v:Value} (r:RA ok w (.r sz (l.map enc)) v):∃ S,GV E sz w v l S∧∀ x∈S,ok x∧x < w.heap.size:=by
 obtain ⟨ys,T,v1,v2,v3⟩:=r.blk;rw [List.length_map] at v1;obtain ⟨S,s1,s2⟩:=h.parts v2;exact ⟨T ++ S,⟨ys,T,v1,s1.mono fun x hx=>List.mem_append_right _ hx,fun x hx=>List.mem_append_left _ hx,fun x hx=>(List.mem_append.1 hx).elim (fun h=>(v3 x h).2) (fun h=>(s2 x h).2),v2.one⟩,fun x hx=>(List.mem_append.1 hx).elim (v3 x) (s2 x)⟩
theorem Is.row (h:Is enc E) {sz:Nat}:Is (fun l:List α=>[A.r sz (l.map enc)]) (rowE E sz):=fun ok w cs l r=>by
 unfold RC at r;obtain ⟨x,xs,rfl,r1,r2⟩:=r;unfold RC at r2;subst r2;obtain ⟨S,s1,s2⟩:=h.gv r1;exact ⟨S,⟨x,rfl,s1⟩,s2⟩
end
theorem RC.c1 {ok:Nat→Prop} {w:World} {v:Value} {as_:List A} {cs:List Value} (h:RC ok w (.v v :: as_) cs):∃ ys,cs=v :: ys∧RC ok w as_ ys:=by
 unfold RC at h;obtain ⟨x,xs,rfl,h1,h2⟩:=h;unfold RA at h1;exact ⟨xs,by rw [h1.1],h2⟩
theorem RC.n0 {ok:Nat→Prop} {w:World} {cs:List Value} (h:RC ok w [] cs):cs=[]:=by unfold RC at h;exact h
theorem is_num:Is (fun n:Int=>[nI n]) rawE:=fun ok w cs n r=>by
 obtain ⟨ys,e1,r1⟩:=RC.c1 (as_:=[]) r;have e2:=r1.n0;subst e2;exact ⟨[],⟨e1,rfl⟩,by simp⟩
theorem is_case:Is eCs caseE:=fun ok w cs c r=>by
 obtain ⟨y1,e1,r1⟩:=RC.c1 (as_:=[nI c.ch,nI c.v]) r;obtain ⟨y2,e2,r2⟩:=r1.c1;obtain ⟨y3,e3,r3⟩:=r2.c1;have e4:=r3.n0;subst e4 e3 e2;exact ⟨[],⟨e1,rfl⟩,by simp⟩
theorem is_op:Is eOp opE:=fun ok w cs o r=>by
 obtain ⟨y1,e1,r1⟩:=RC.c1 (as_:=[nI o.ch,nI o.n,nI o.v,.r 3 (o.cases.map eCs),bI o.els]) r;obtain ⟨y2,e2,r2⟩:=r1.c1;obtain ⟨y3,e3,r3⟩:=r2.c1;obtain ⟨y4,e4,r4⟩:=r3.c1;unfold RC at r4;obtain ⟨x,y5,e5,r5,r6⟩:=r4;obtain ⟨y6,e6,r7⟩:=r6.c1;have e7:=r7.n0;obtain ⟨S,s1,s2⟩:=is_case.gv r5;subst e7 e6 e5 e4 e3 e2;exact ⟨S,⟨x,e1,s1⟩,s2⟩
theorem is_ops:Is (fun l:List Pn.Op=>[A.r 6 (l.map eOp)]) opsE:=is_op.row
theorem gv_plan {ok:Nat→Prop} {w:World} {p:List (List Pn.Op)} {v:Value} (r:RA ok w (opsA p) v):∃ S,GV opsE 1 w v p S∧∀ x∈S,ok x∧x < w.heap.size:=is_ops.gv r
theorem RDs.c {ok:Nat→Prop} {w:World} {a:A} {ds:List D} {xs:List Value} (h:RDs ok w (.c a :: ds) xs):∃ x ys,xs=x :: ys∧RA ok w a x∧RDs ok w ds ys:=by
 unfold RDs at h;obtain ⟨x,ys,rfl,h1,h2⟩:=h;unfold RD at h1;exact ⟨x,ys,rfl,h1,h2⟩
theorem c_wRight (p:List (List Pn.Op)):Pure Try.prog 24 [.c (opsA p)] (.c (bI (Pn.right p))) :=
 Con.plain fun ok e xs hd=>by
  obtain ⟨v,ys,rfl,r,h⟩:=hd.c;rw [h.nil_];obtain ⟨S,s1,s2⟩:=gv_plan r;refine (plan_right e v p S s1).mono ?_
  rintro en w' ⟨rfl,k⟩
  exact ⟨_,rfl,k,RD.v rfl⟩
theorem c_right10 (p:List (List Pn.Op)):Pure Try.prog 27 [.c (opsA p)] (.c (bI (Pn.right p))) :=
 Con.plain fun ok e xs hd=>by
  obtain ⟨v,ys,rfl,r,h⟩:=hd.c;rw [h.nil_];obtain ⟨S,s1,s2⟩:=gv_plan r;refine (ref10_right e v p S s1).mono ?_
  rintro en w' ⟨rfl,k⟩
  exact ⟨_,rfl,k,RD.v rfl⟩
theorem RDs.ag {ok:Nat→Prop} {w:World} {as_:List A} {ds:List D} {xs:List Value} (h:RDs ok w (.agg as_ :: ds) xs):∃ (vs:List Value) (ys:List Value),xs=.agg vs.toArray :: ys∧RC ok w as_ vs∧RDs ok w ds ys:=by
 unfold RDs at h;obtain ⟨x,ys,rfl,h1,h2⟩:=h;unfold RD at h1;obtain ⟨vs,rfl,h1⟩:=h1;exact ⟨vs,ys,rfl,h1,h2⟩
end Fl
open Go.RowKit
set_option maxRecDepth 100000 in
set_option maxHeartbeats 1600000 in
theorem model_no4 (w:World) (p:Value) (st:Md.St) (N:Nat) (S:List Nat) (g:Int) (o:Pn.Op) (vc:Value) (U:List Nat) (h:Mo w p st N S) (hv:GV caseE 3 w vc o.cases U) (e4:o.kind=4) :
  Calls Try.prog 39 #[p,.int .i64 g,.agg (opV o vc)] w (RBool (Md.no st g o) w):=by
 have HM:=Lib.hid h;have HV:=Lib.hid hv;obtain ⟨b,_,_,_,_,_,_,_,rfl,_⟩:=h;obtain ⟨av,cv,rfl⟩:=hv.shape;obtain ⟨q,hq⟩:∃ q,Md.no st g o=q:=⟨_,rfl⟩
 rw [hq];have HQ:=Lib.hid hq;obtain ⟨w0,hw0⟩:∃ w0,w.alloc (.cells (opV o (.slice av o.cases.length cv)) 28)=w0:=⟨_,rfl⟩
 have K0:Hid (Keeps [] w w0):=Lib.hid (hw0 ▸ (Keeps.refl [] w).alloc _);have HOB:Hid (Blk w0 w.heap.size [.int .i64 o.kind,.int .i64 o.ch,.int .i64 o.n,.int .i64 o.v,.slice av o.cases.length cv,.bool o.els] 28):=Lib.hid (hw0 ▸ Blk.fresh w [.int .i64 o.kind,.int .i64 o.ch,.int .i64 o.n,.int .i64 o.v,.slice av o.cases.length cv,.bool o.els] _ _ rfl);obtain ⟨⟨b0,b1,b2,b3,b4,b5⟩,_⟩:=Blk.six HOB.out;clear hv hq;have hk4:(o.kind == 4)=true:=by simp [e4]
 have hk5:(o.kind == 5)=false:=by simp [e4]
 have hk9:(o.kind == 9)=false:=by simp [e4]
 have HT:Hid (Md.tries o=true):=Lib.hid (by unfold Md.tries;exact decide_eq_true (.inl e4));clear e4;unfold opV at hw0;unfold opV
 go_enter Try.func39,Try.ntmps39
 go_wp2_with fail
 refine (model_Any _ _ st N S g o _ U (HM.out.then K0.out) (HV.out.then caseE_kept K0.out)).mono ?_
 rintro e w1 ⟨rfl,k1⟩
 have K1:=Lib.hid k1;clear k1 hw0;obtain ⟨z,hz⟩:∃ z,Md.anyMay st g o=z:=⟨_,rfl⟩
 have HN:Hid ((!z)=q):=Lib.hid (by rw [← HQ.out];unfold Md.no;rw [HT.out,hz];rfl);rw [hz];clear hz
 go_wp2_with fail
 go_ret
 exact rb HN.out (K0.out.then K1.out)
set_option maxRecDepth 100000 in
set_option maxHeartbeats 1600000 in
theorem model_no5 (w:World) (p:Value) (st:Md.St) (N:Nat) (S:List Nat) (g:Int) (o:Pn.Op) (vc:Value) (U:List Nat) (h:Mo w p st N S) (hv:GV caseE 3 w vc o.cases U) (e5:o.kind=5) :
  Calls Try.prog 39 #[p,.int .i64 g,.agg (opV o vc)] w (RBool (Md.no st g o) w):=by
 have HM:=Lib.hid h;have HV:=Lib.hid hv;obtain ⟨b,_,_,_,_,_,_,_,rfl,_⟩:=h;obtain ⟨av,cv,rfl⟩:=hv.shape;obtain ⟨q,hq⟩:∃ q,Md.no st g o=q:=⟨_,rfl⟩
 rw [hq];have HQ:=Lib.hid hq;obtain ⟨w0,hw0⟩:∃ w0,w.alloc (.cells (opV o (.slice av o.cases.length cv)) 28)=w0:=⟨_,rfl⟩
 have K0:Hid (Keeps [] w w0):=Lib.hid (hw0 ▸ (Keeps.refl [] w).alloc _);have HOB:Hid (Blk w0 w.heap.size [.int .i64 o.kind,.int .i64 o.ch,.int .i64 o.n,.int .i64 o.v,.slice av o.cases.length cv,.bool o.els] 28):=Lib.hid (hw0 ▸ Blk.fresh w [.int .i64 o.kind,.int .i64 o.ch,.int .i64 o.n,.int .i64 o.v,.slice av o.cases.length cv,.bool o.els] _ _ rfl);obtain ⟨⟨b0,b1,b2,b3,b4,b5⟩,_⟩:=Blk.six HOB.out;clear hv hq;have hk4:(o.kind == 4)=false:=by simp [e5]
 have hk5:(o.kind == 5)=true:=by simp [e5]
 have hk9:(o.kind == 9)=false:=by simp [e5]
 have HT:Hid (Md.tries o=true):=Lib.hid (by unfold Md.tries;exact decide_eq_true (.inr (.inl e5)));clear e5;unfold opV at hw0;unfold opV
 go_enter Try.func39,Try.ntmps39
 go_wp2_with fail
 refine (model_Any _ _ st N S g o _ U (HM.out.then K0.out) (HV.out.then caseE_kept K0.out)).mono ?_
 rintro e w1 ⟨rfl,k1⟩
 have K1:=Lib.hid k1;clear k1 hw0;obtain ⟨z,hz⟩:∃ z,Md.anyMay st g o=z:=⟨_,rfl⟩
 have HN:Hid ((!z)=q):=Lib.hid (by rw [← HQ.out];unfold Md.no;rw [HT.out,hz];rfl);rw [hz];clear hz
 go_wp2_with fail
 go_ret
 exact rb HN.out (K0.out.then K1.out)
set_option maxRecDepth 100000 in
set_option maxHeartbeats 1600000 in
theorem model_no0 (w:World) (p:Value) (st:Md.St) (N:Nat) (S:List Nat) (g:Int) (o:Pn.Op) (vc:Value) (U:List Nat) (h:Mo w p st N S) (hv:GV caseE 3 w vc o.cases U) (e4:o.kind≠4) (e5:o.kind≠5) (e9:o.kind≠9) :
  Calls Try.prog 39 #[p,.int .i64 g,.agg (opV o vc)] w (RBool (Md.no st g o) w):=by
 have HM:=Lib.hid h;have HV:=Lib.hid hv;obtain ⟨b,_,_,_,_,_,_,_,rfl,_⟩:=h;obtain ⟨av,cv,rfl⟩:=hv.shape;obtain ⟨q,hq⟩:∃ q,Md.no st g o=q:=⟨_,rfl⟩
 rw [hq];have HQ:=Lib.hid hq;obtain ⟨w0,hw0⟩:∃ w0,w.alloc (.cells (opV o (.slice av o.cases.length cv)) 28)=w0:=⟨_,rfl⟩
 have K0:Hid (Keeps [] w w0):=Lib.hid (hw0 ▸ (Keeps.refl [] w).alloc _);have HOB:Hid (Blk w0 w.heap.size [.int .i64 o.kind,.int .i64 o.ch,.int .i64 o.n,.int .i64 o.v,.slice av o.cases.length cv,.bool o.els] 28):=Lib.hid (hw0 ▸ Blk.fresh w [.int .i64 o.kind,.int .i64 o.ch,.int .i64 o.n,.int .i64 o.v,.slice av o.cases.length cv,.bool o.els] _ _ rfl);obtain ⟨⟨b0,b1,b2,b3,b4,b5⟩,_⟩:=Blk.six HOB.out;clear hv hq;have hk4:(o.kind == 4)=false:=by simp [e4,e5,e9]
 have hk5:(o.kind == 5)=false:=by simp [e4,e5,e9]
 have hk9:(o.kind == 9)=false:=by simp [e4,e5,e9]
 have HT:Hid (Md.tries o=false):=Lib.hid (by unfold Md.tries;exact decide_eq_false (by rintro (h | h | ⟨h,_⟩);exact e4 h;exact e5 h;exact e9 h));clear e4 e5 e9;unfold opV at hw0;unfold opV
 go_enter Try.func39,Try.ntmps39
 have HN:Hid (false=q):=Lib.hid (by rw [← HQ.out];unfold Md.no;rw [HT.out];rfl)
 go_wp2_with fail
 go_ret
 exact rb HN.out K0.out
set_option maxRecDepth 100000 in
set_option maxHeartbeats 1600000 in
theorem model_no9t (w:World) (p:Value) (st:Md.St) (N:Nat) (S:List Nat) (g:Int) (oc on ov:Int) (ocs:List Pn.Cs) (vc:Value) (U:List Nat) (h:Mo w p st N S) (hv:GV caseE 3 w vc ocs U) :
  Calls Try.prog 39 #[p,.int .i64 g,.agg (opV ⟨9,oc,on,ov,ocs,true⟩ vc)] w (RBool (Md.no st g ⟨9,oc,on,ov,ocs,true⟩) w):=by
 have HM:=Lib.hid h;have HV:=Lib.hid hv;obtain ⟨b,_,_,_,_,_,_,_,rfl,_⟩:=h;obtain ⟨av,cv,rfl⟩:=hv.shape;obtain ⟨q,hq⟩:∃ q,Md.no st g ⟨9,oc,on,ov,ocs,true⟩=q:=⟨_,rfl⟩
 rw [hq];have HQ:=Lib.hid hq;obtain ⟨w0,hw0⟩:∃ w0,w.alloc (.cells (opV ⟨9,oc,on,ov,ocs,true⟩ (.slice av ocs.length cv)) 28)=w0:=⟨_,rfl⟩
 have K0:Hid (Keeps [] w w0):=Lib.hid (hw0 ▸ (Keeps.refl [] w).alloc _);have HOB:Hid (Blk w0 w.heap.size [.int .i64 9,.int .i64 oc,.int .i64 on,.int .i64 ov,.slice av ocs.length cv,.bool true] 28):=Lib.hid (hw0 ▸ Blk.fresh w [.int .i64 9,.int .i64 oc,.int .i64 on,.int .i64 ov,.slice av ocs.length cv,.bool true] _ _ rfl);obtain ⟨⟨b0,b1,b2,b3,b4,b5⟩,_⟩:=Blk.six HOB.out;clear hv hq;have HT:Hid (Md.tries ⟨9,oc,on,ov,ocs,true⟩=true):=Lib.hid (by unfold Md.tries;rfl);unfold opV at hw0;unfold opV;simp only at hw0 ⊢
 go_enter Try.func39,Try.ntmps39
 go_wp2_with fail
 refine (model_Any _ _ st N S g ⟨9,oc,on,ov,ocs,true⟩ _ U (HM.out.then K0.out) (HV.out.then caseE_kept K0.out)).mono ?_
 rintro e w1 ⟨rfl,k1⟩
 have K1:=Lib.hid k1;clear k1 hw0;obtain ⟨z,hz⟩:∃ z,Md.anyMay st g ⟨9,oc,on,ov,ocs,true⟩=z:=⟨_,rfl⟩
 have HN:Hid ((!z)=q):=Lib.hid (by rw [← HQ.out];unfold Md.no;rw [HT.out,hz];rfl);rw [hz];clear hz
 go_wp2_with fail
 go_ret
 exact rb HN.out (K0.out.then K1.out)
set_option maxRecDepth 100000 in
set_option maxHeartbeats 1600000 in
theorem model_no9f (w:World) (p:Value) (st:Md.St) (N:Nat) (S:List Nat) (g:Int) (oc on ov:Int) (ocs:List Pn.Cs) (vc:Value) (U:List Nat) (h:Mo w p st N S) (hv:GV caseE 3 w vc ocs U) :
  Calls Try.prog 39 #[p,.int .i64 g,.agg (opV ⟨9,oc,on,ov,ocs,false⟩ vc)] w (RBool (Md.no st g ⟨9,oc,on,ov,ocs,false⟩) w):=by
 have HM:=Lib.hid h;have HV:=Lib.hid hv;obtain ⟨b,_,_,_,_,_,_,_,rfl,_⟩:=h;obtain ⟨av,cv,rfl⟩:=hv.shape;obtain ⟨q,hq⟩:∃ q,Md.no st g ⟨9,oc,on,ov,ocs,false⟩=q:=⟨_,rfl⟩
 rw [hq];have HQ:=Lib.hid hq;obtain ⟨w0,hw0⟩:∃ w0,w.alloc (.cells (opV ⟨9,oc,on,ov,ocs,false⟩ (.slice av ocs.length cv)) 28)=w0:=⟨_,rfl⟩
 have K0:Hid (Keeps [] w w0):=Lib.hid (hw0 ▸ (Keeps.refl [] w).alloc _);have HOB:Hid (Blk w0 w.heap.size [.int .i64 9,.int .i64 oc,.int .i64 on,.int .i64 ov,.slice av ocs.length cv,.bool false] 28):=Lib.hid (hw0 ▸ Blk.fresh w [.int .i64 9,.int .i64 oc,.int .i64 on,.int .i64 ov,.slice av ocs.length cv,.bool false] _ _ rfl);obtain ⟨⟨b0,b1,b2,b3,b4,b5⟩,_⟩:=Blk.six HOB.out;clear hv hq;have HT:Hid (Md.tries ⟨9,oc,on,ov,ocs,false⟩=false):=Lib.hid (by unfold Md.tries;rfl);unfold opV at hw0;unfold opV;simp only at hw0 ⊢
 go_enter Try.func39,Try.ntmps39
 have HN:Hid (false=q):=Lib.hid (by rw [← HQ.out];unfold Md.no;rw [HT.out];rfl)
 go_wp2_with fail
 go_ret
 exact rb HN.out K0.out
theorem model_no (w:World) (p:Value) (st:Md.St) (N:Nat) (S:List Nat) (g:Int) (o:Pn.Op) (vc:Value) (U:List Nat) (h:Mo w p st N S) (hv:GV caseE 3 w vc o.cases U) :
  Calls Try.prog 39 #[p,.int .i64 g,.agg (opV o vc)] w (RBool (Md.no st g o) w):=by
 by_cases e4:o.kind=4
 ·exact model_no4 w p st N S g o vc U h hv e4
 by_cases e5:o.kind=5
 ·exact model_no5 w p st N S g o vc U h hv e5
 by_cases e9:o.kind=9
 ·obtain ⟨k,c,n,v,cs,e⟩:=o;simp only at e9;subst e9
  cases e with
  | true=>exact model_no9t w p st N S g c n v cs vc U h hv
  | false=>exact model_no9f w p st N S g c n v cs vc U h hv
 exact model_no0 w p st N S g o vc U h hv e4 e5 e9
open Go.RowKit
namespace Mr
structure St where
 chans:List Md.Ch
 waits:List (Int × Pn.Op)
def Rel (st:Md.St) (r:St):Prop:=st.chans=r.chans∧∀ h o,st.waits h=some o↔(h,o)∈r.waits
end Mr
def chE (w:World) (cs:List Value) (c:Md.Ch) (U:List Nat):Prop:=∃ vb,cs=[.int .i64 c.cap,vb,.bool c.closed]∧GV rawE 1 w vb c.buf U
def wtE (w:World) (cs:List Value) (p:Int × Pn.Op) (U:List Nat):Prop :=
 ∃ vo,cs=[.int .i64 p.1,.int .i64 p.2.kind,.int .i64 p.2.ch,.int .i64 p.2.n,.int .i64 p.2.v,vo,.bool p.2.els]∧GV caseE 3 w vo p.2.cases U
theorem chE_kept:Kept chE :=
 ⟨fun h k hn=>by obtain ⟨vb,h1,h2⟩:=h;exact ⟨vb,h1,h2.keep rawE_kept k hn⟩,fun h=>by obtain ⟨vb,h1,h2⟩:=h;exact h2.lt⟩
theorem wtE_kept:Kept wtE :=
 ⟨fun h k hn=>by obtain ⟨vb,h1,h2⟩:=h;exact ⟨vb,h1,h2.keep caseE_kept k hn⟩,fun h=>by obtain ⟨vb,h1,h2⟩:=h;exact h2.lt⟩
def MR (w:World) (vc vw:Value) (r:Mr.St) (S:List Nat):Prop:=GV chE 3 w vc r.chans S∧GV wtE 7 w vw r.waits S
theorem MR.keep {w w':World} {vc vw:Value} {r:Mr.St} {S T:List Nat} (h:MR w vc vw r S) (k:Keeps T w w') (hn:∀ x∈S,x∉T):MR w' vc vw r S:=⟨h.1.keep chE_kept k hn,h.2.keep wtE_kept k hn⟩
theorem MR.then {w w':World} {vc vw:Value} {r:Mr.St} {S:List Nat} (h:MR w vc vw r S) (k:Keeps [] w w'):MR w' vc vw r S:=h.keep k (by simp)
def wtC (p:Int × Pn.Op) (vo:Value):List Value:=[.int .i64 p.1,.int .i64 p.2.kind,.int .i64 p.2.ch,.int .i64 p.2.n,.int .i64 p.2.v,vo,.bool p.2.els]
theorem wtC_one (p:Int × Pn.Op) (ac:Option Addr) (n cc:Nat):(wtC p (.slice ac n cc)).toArray.all (·.oneCell')=true:=by kernel_rfl
theorem Blk.wt {w:World} {b:Nat} {p:Int × Pn.Op} {vo:Value} {t:TypeId} (h:Blk w b (wtC p vo) t) :
  w.cell? ⟨b,0,none⟩=some (.int .i64 p.1)∧w.cell? ⟨b,1,none⟩=some (.int .i64 p.2.kind)∧w.cell? ⟨b,2,none⟩=some (.int .i64 p.2.ch)∧w.cell? ⟨b,3,none⟩=some (.int .i64 p.2.n)∧w.cell? ⟨b,4,none⟩=some (.int .i64 p.2.v)∧w.cell? ⟨b,5,none⟩=some vo∧w.cell? ⟨b,6,none⟩=some (.bool p.2.els) :=
 ⟨h.cell 0,h.cell 1,h.cell 2,h.cell 3,h.cell 4,h.cell 5,h.cell 6⟩
def csV (s:Md.Sd):Array Value:=#[.bool s.send,.int .i64 s.ch,.int .i64 s.v]
def RSidePost (s:Option Md.Sd) (w:World) (e:Ending) (w':World):Prop:=e=.returned (.tuple #[.agg (csV (s.getD Md.noSide)),.bool s.isSome])∧Keeps [] w w'
theorem rside_ret {s:Option Md.Sd} {w w':World} {t:Md.Sd} (h:s=some t) (k:Keeps [] w w'):RSidePost s w (.returned (.tuple #[.agg #[.bool t.send,.int .i64 t.ch,.int .i64 t.v],.bool true])) w':=by
 subst h;exact ⟨rfl,k⟩
theorem rside_no {s:Option Md.Sd} {w w':World} (h:s=none) (k:Keeps [] w w'):RSidePost s w (.returned (.tuple #[.agg #[.bool false,.int .i64 0,.int .i64 0],.bool false])) w':=by
 subst h;exact ⟨rfl,k⟩
set_option maxHeartbeats 1600000 in
theorem ref20_side (w:World) (o:Pn.Op) (vc:Value) (U:List Nat) (i:Int) (h:GV caseE 3 w vc o.cases U) :
  Calls Try.prog 49 #[.agg (opV o vc),.int .i64 i] w (RSidePost (Md.side o i) w):=by
 have hle:=h.le;unfold maxLen at hle;obtain ⟨ao,cap,rfl⟩:=h.shape;obtain ⟨s,hs⟩:∃ s,Md.side o i=s:=⟨_,rfl⟩
 rw [hs];have HS:=Lib.hid hs;have HO:=Lib.hid h;obtain ⟨kind,ch,n,v,cases,els⟩:=o;simp only [opV] at *;clear h hs
 by_cases h2:kind=2
 ·subst h2
  by_cases hi:i=-1
  ·subst hi
   go_enter Try.func49,Try.ntmps49
   go_wp2_with fail
   refine bodyPost_ret (v:=.tuple #[.agg #[.bool true,.int .i64 ch,.int .i64 v],.bool true]) (by simp [results,Try.results49,go_sem]) rfl ?_;exact rside_ret (t:=⟨ch,true,v⟩) (by rw [← HS.out];rfl) (((Keeps.refl [] w).alloc _).alloc _)
  ·have hb:(i == -1)=false:=by simp [hi]
   go_enter Try.func49,Try.ntmps49
   go_wp2_with fail
   refine bodyPost_ret (v:=.tuple #[.agg #[.bool false,.int .i64 0,.int .i64 0],.bool false]) (by simp [results,Try.results49,go_sem]) rfl ?_;exact rside_no (by rw [← HS.out];simp [Md.side, *]) (((Keeps.refl [] w).alloc _).alloc _)
 by_cases h4:kind=4
 ·subst h4
  by_cases hi:i=-1
  ·subst hi
   go_enter Try.func49,Try.ntmps49
   go_wp2_with fail
   refine bodyPost_ret (v:=.tuple #[.agg #[.bool true,.int .i64 ch,.int .i64 v],.bool true]) (by simp [results,Try.results49,go_sem]) rfl ?_;exact rside_ret (t:=⟨ch,true,v⟩) (by rw [← HS.out];rfl) (((Keeps.refl [] w).alloc _).alloc _)
  ·have hb:(i == -1)=false:=by simp [hi]
   go_enter Try.func49,Try.ntmps49
   go_wp2_with fail
   refine bodyPost_ret (v:=.tuple #[.agg #[.bool false,.int .i64 0,.int .i64 0],.bool false]) (by simp [results,Try.results49,go_sem]) rfl ?_;exact rside_no (by rw [← HS.out];simp [Md.side, *]) (((Keeps.refl [] w).alloc _).alloc _)
 by_cases h3:kind=3
 ·subst h3
  by_cases hi:i=-1
  ·subst hi
   go_enter Try.func49,Try.ntmps49
   go_wp2_with fail
   refine bodyPost_ret (v:=.tuple #[.agg #[.bool false,.int .i64 ch,.int .i64 0],.bool true]) (by simp [results,Try.results49,go_sem]) rfl ?_;exact rside_ret (t:=⟨ch,false,0⟩) (by rw [← HS.out];rfl) (((Keeps.refl [] w).alloc _).alloc _)
  ·have hb:(i == -1)=false:=by simp [hi]
   go_enter Try.func49,Try.ntmps49
   go_wp2_with fail
   refine bodyPost_ret (v:=.tuple #[.agg #[.bool false,.int .i64 0,.int .i64 0],.bool false]) (by simp [results,Try.results49,go_sem]) rfl ?_;exact rside_no (by rw [← HS.out];simp [Md.side, *]) (((Keeps.refl [] w).alloc _).alloc _)
 by_cases h5:kind=5
 ·subst h5
  by_cases hi:i=-1
  ·subst hi
   go_enter Try.func49,Try.ntmps49
   go_wp2_with fail
   refine bodyPost_ret (v:=.tuple #[.agg #[.bool false,.int .i64 ch,.int .i64 0],.bool true]) (by simp [results,Try.results49,go_sem]) rfl ?_;exact rside_ret (t:=⟨ch,false,0⟩) (by rw [← HS.out];rfl) (((Keeps.refl [] w).alloc _).alloc _)
  ·have hb:(i == -1)=false:=by simp [hi]
   go_enter Try.func49,Try.ntmps49
   go_wp2_with fail
   refine bodyPost_ret (v:=.tuple #[.agg #[.bool false,.int .i64 0,.int .i64 0],.bool false]) (by simp [results,Try.results49,go_sem]) rfl ?_;exact rside_no (by rw [← HS.out];simp [Md.side, *]) (((Keeps.refl [] w).alloc _).alloc _)
 have b2:(kind == 2)=false:=by simp [h2]
 have b4:(kind == 4)=false:=by simp [h4]
 have b3:(kind == 3)=false:=by simp [h3]
 have b5:(kind == 5)=false:=by simp [h5]
 by_cases h9:kind=9
 ·subst h9
  by_cases hi:0≤i
  ·obtain ⟨k,rfl⟩:∃ k:Nat,i=(k:Int):=⟨i.toNat,by omega⟩
   by_cases hk:k < cases.length
   ·obtain ⟨c,hc⟩:∃ c,cases[k]?=some c:=⟨_,List.getElem?_eq_getElem hk⟩
    obtain ⟨g,off,rfl,_,hg,a0,a1,a2⟩:=HO.out.case hc;have HE:Hid (s=some ⟨c.ch,c.send,c.v⟩):=Lib.hid (by rw [← HS.out,Md.side_case rfl (by omega)];simp [hc]);have i0:(0:Int)≤(k:Int):=by omega
    have i1:(k:Int) < (cases.length:Int):=by omega
    clear hc
    go_enter Try.func49,Try.ntmps49
    go_wp2_with fail
    refine bodyPost_ret (v:=.tuple #[.agg #[.bool c.send,.int .i64 c.ch,.int .i64 c.v],.bool true]) (by simp [results,Try.results49,go_sem]) rfl ?_;exact rside_ret HE.out (((Keeps.refl [] w).alloc _).alloc _)
   ·have HE:Hid (s=none):=Lib.hid (by rw [← HS.out,Md.side_case rfl (by omega)];simp;omega)
    go_enter Try.func49,Try.ntmps49
    go_wp2_with fail
    refine bodyPost_ret (v:=.tuple #[.agg #[.bool false,.int .i64 0,.int .i64 0],.bool false]) (by simp [results,Try.results49,go_sem]) rfl ?_;exact rside_no HE.out (((Keeps.refl [] w).alloc _).alloc _)
  ·have HE:Hid (s=none):=Lib.hid (by rw [← HS.out];simp [Md.side];omega)
   go_enter Try.func49,Try.ntmps49
   go_wp2_with fail
   refine bodyPost_ret (v:=.tuple #[.agg #[.bool false,.int .i64 0,.int .i64 0],.bool false]) (by simp [results,Try.results49,go_sem]) rfl ?_;exact rside_no HE.out (((Keeps.refl [] w).alloc _).alloc _)
 ·have b9:(kind == 9)=false:=by simp [h9]
  have HE:Hid (s=none):=Lib.hid (by rw [← HS.out];simp [Md.side, *])
  go_enter Try.func49,Try.ntmps49
  go_wp2_with fail
  refine bodyPost_ret (v:=.tuple #[.agg #[.bool false,.int .i64 0,.int .i64 0],.bool false]) (by simp [results,Try.results49,go_sem]) rfl ?_;exact rside_no HE.out (((Keeps.refl [] w).alloc _).alloc _)
theorem ref20_made (w:World) (vc vw:Value) (r:Mr.St) (S:List Nat) (ch:Int) (h:MR w vc vw r S) :
  Calls Try.prog 50 #[.agg #[vc,vw],.int .i64 ch] w fun e w'=>e=.returned (.bool (Md.chan r.chans ch).isSome)∧Keeps [] w w':=by
 obtain ⟨ao,cap,rfl⟩:=h.1.shape;obtain ⟨aw,cw,rfl⟩:=h.2.shape;have hle:=h.1.le;unfold maxLen at hle;clear h;obtain ⟨q,hq⟩:∃ q,(Md.chan r.chans ch).isSome=q:=⟨_,rfl⟩
 rw [hq];have HQ:=Lib.hid hq;clear hq
 by_cases h1:1≤ch
 ·by_cases h2:ch≤(r.chans.length:Int)
  ·obtain ⟨c,hc,_⟩:=Md.chan_some h1 h2;have HE:Hid (q=true):=Lib.hid (by rw [← HQ.out,hc];rfl);clear hc
   go_enter Try.func50,Try.ntmps50
   go_wp2_with fail
   go_ret
   exact ⟨by rw [HE.out];rfl,(Keeps.refl [] w).alloc _⟩
  ·have HE:Hid (q=false):=Lib.hid (by rw [← HQ.out,Md.chan_none (by omega)];rfl)
   go_enter Try.func50,Try.ntmps50
   go_wp2_with fail
   go_ret
   exact ⟨by rw [HE.out];rfl,(Keeps.refl [] w).alloc _⟩
 ·have HE:Hid (q=false):=Lib.hid (by rw [← HQ.out,Md.chan_none (by omega)];rfl)
  go_enter Try.func50,Try.ntmps50
  go_wp2_with fail
  go_ret
  exact ⟨by rw [HE.out];rfl,(Keeps.refl [] w).alloc _⟩
theorem wt_var {w:World} {ao:Option Addr} {m cap k:Nat} {l:List (Int × Pn.Op)} {S:List Nat} {p:Int × Pn.Op} (h:GV wtE 7 w (.slice ao m cap) l S) (hk:l[k]?=some p) :
  ∃ g off ac cc U,ao=some ⟨g,off,none⟩∧g < w.heap.size∧w.rangeAt g (off + k * 7) (wtC p (.slice ac p.2.cases.length cc)) ∧
   GV caseE 3 w (.slice ac p.2.cases.length cc) p.2.cases U∧∀ x∈U,x∈S:=by
 obtain ⟨g,off,cs,U,h1,h2,h3,h4,h5,⟨vo,rfl,h6⟩,h7,_⟩:=h.rng hk;obtain ⟨ac,cc,rfl⟩:=h6.shape;exact ⟨g,off,ac,cc,U,h1,h3,h5,h6,h7⟩
set_option maxHeartbeats 1600000 in
theorem ref20_waits (w:World) (vc vw:Value) (st:Md.St) (r:Mr.St) (S:List Nat) (gi:Int) (h:MR w vc vw r S) (hr:Mr.Rel st r) :
  Calls Try.prog 12 #[.agg #[vc,vw],.int .i64 gi] w fun e w'=>e=.returned (.bool (st.waits gi).isSome)∧Keeps [] w w':=by
 obtain ⟨q,hq⟩:∃ q,(st.waits gi).isSome=q:=⟨_,rfl⟩
 rw [hq];have HY:Hid (∀ o,(gi,o)∈r.waits→q=true):=Lib.hid (fun o ho=>by rw [← hq,(hr.2 gi o).2 ho];rfl);have HNO:Hid ((∀ o,(gi,o)∉r.waits)→q=false):=Lib.hid (fun hn=>by
  rw [← hq]
  cases hw:st.waits gi with
  | none=>rfl
  | some o=>exact absurd ((hr.2 gi o).1 hw) (hn o))
 obtain ⟨ac,cc,rfl⟩:=h.1.shape;obtain ⟨ao,cap,rfl⟩:=h.2.shape;have HV:=Lib.hid h.2;have hle:=h.2.le;unfold maxLen at hle;obtain ⟨l,hl⟩:∃ l,r.waits=l:=⟨_,rfl⟩
 rw [hl] at HV HY HNO hle ⊢;obtain ⟨lc,hlc⟩:∃ lc,r.chans.length=lc:=⟨_,rfl⟩
 rw [hlc];clear h hr hq hl hlc
 go_enter Try.func12,Try.ntmps12
 go_wp2_with fail
 go_loopw [10] (fun u wr=>∃ k:Nat,k≤l.length∧u=.int .i64 k∧Hid (Keeps [] w wr∧∀ (j:Nat) p,j < k→l[j]?=some p→p.1≠gi)) (fun u _=>l.length - (intOf u).toNat)
 case atStart=>exact ⟨0,Nat.zero_le _,rfl,Lib.hid ⟨(Keeps.refl [] w).alloc _,fun j p hj=>by omega⟩⟩
 case round =>
  obtain ⟨k,hk,rfl,HI⟩:=hrel;obtain ⟨wo,rfl⟩:∃ wo:World,wo=wr:=⟨_,rfl⟩
  by_cases hlt:k < l.length
  ·obtain ⟨p,hx⟩:∃ p,l[k]?=some p:=⟨_,List.getElem?_eq_getElem hlt⟩
   obtain ⟨g,off,ac2,cc2,U,rfl,hg,hrg,hgv,hU⟩:=wt_var (HV.out.then wtE_kept HI.out.1) hx;obtain ⟨w3,hw3⟩:∃ w3,wo.alloc (.cells (wtC p (.slice ac2 p.2.cases.length cc2)).toArray 84)=w3:=⟨_,rfl⟩
   have K3:Hid (Keeps [] w w3):=Lib.hid (HI.out.1.then (hw3 ▸ (Keeps.refl [] wo).alloc _));obtain ⟨x0,x1,x2,x3,x4,x5,x6⟩:=(show Blk w3 wo.heap.size (wtC p (.slice ac2 p.2.cases.length cc2)) 84 from hw3 ▸ Blk.fresh wo _ _ _ rfl).wt;have HONE:=wtC_one p ac2 p.2.cases.length cc2;have HLT:=Lib.hid hlt;have HX:=Lib.hid hx;clear x1 x2 x3 x4 x5 x6 hgv hU hx
   cases hc:(p.1 == gi) with
   | true =>
    go_wp2_with (first
     | (refine wpList_load_mid rfl 84 (.tmp 12) rfl g (off + k * 7) (by rfl) _ _ hrg Try.underlying84 rfl (by kernel_rfl) ?_)
     | (refine wpList_store_mid rfl 84 (.tmp 6) (.tmp 13) rfl wo.heap.size 0 _ (by rfl) (by rfl) (there_alloc_new wo _ _ (by rfl)) (by kernel_rfl) HONE ?_;rw [alloc_setCells wo _ _ _ (by rfl),hw3])
     | fail)
    go_ret
    have hy:q=true:=HY.out p.2 (by have:=List.mem_of_getElem? HX.out;have e:p.1=gi:=(by simpa using hc);rw [← e];exact this);exact ⟨by rw [hy];rfl,K3.out⟩
   | false =>
    go_wp2_with (first
     | (refine wpList_load_mid rfl 84 (.tmp 12) rfl g (off + k * 7) (by rfl) _ _ hrg Try.underlying84 rfl (by kernel_rfl) ?_)
     | (refine wpList_store_mid rfl 84 (.tmp 6) (.tmp 13) rfl wo.heap.size 0 _ (by rfl) (by rfl) (there_alloc_new wo _ _ (by rfl)) (by kernel_rfl) HONE ?_;rw [alloc_setCells wo _ _ _ (by rfl),hw3])
     | fail)
    go_roundw
    case rel =>
     refine ⟨k + 1,by have:=HLT.out;omega,by go_num,Lib.hid ⟨K3.out,fun j p2 hj hp=>?_⟩⟩
     by_cases e:j=k
     ·subst e;rw [HX.out] at hp
      cases hp;simpa using hc
     ·exact HI.out.2 j p2 (by omega) hp
    case measure=>have:=HLT.out;simp [intOf];omega
  ·obtain rfl:k=l.length:=by omega
   have hn:q=false:=HNO.out (fun o ho=>by
    obtain ⟨j,hj⟩:=List.mem_iff_getElem?.1 ho;exact HI.out.2 j _ (List.getElem?_eq_some_iff.1 hj).1 hj rfl)
   go_wp2_with fail
   go_ret
   exact ⟨by rw [hn];rfl,HI.out.1⟩
open Go.RowKit
theorem mr_meets {t s:Md.Sd}:meetsP s.ch (!s.send) 0 t=(t.ch == s.ch && (t.send != s.send)):=by
 unfold meetsP
 cases t.send <;> cases s.send <;> simp
set_option maxRecDepth 100000 in
set_option maxHeartbeats 3200000 in
theorem ref20_other (w:World) (vc vw:Value) (st:Md.St) (r:Mr.St) (S:List Nat) (gi:Int) (s:Md.Sd) (h:MR w vc vw r S) (hr:Mr.Rel st r) :
  Calls Try.prog 84 #[.agg #[vc,vw],.int .i64 gi,.agg (csV s)] w fun e w'=>e=.returned (.bool (Md.another st gi s.ch (!s.send)))∧Keeps [] w w':=by
 obtain ⟨q,hq⟩:∃ q,Md.another st gi s.ch (!s.send)=q:=⟨_,rfl⟩
 rw [hq];have HY:Hid (∀ x o,(x,o)∈r.waits→x≠gi→Md.any o (meetsP s.ch (!s.send))=true→q=true):=Lib.hid (fun x o h1 h2 h3=>by rw [← hq];exact Md.another_true ((hr.2 x o).2 h1) h2 h3);have HNO:Hid ((∀ x o,(x,o)∈r.waits→x≠gi→Md.any o (meetsP s.ch (!s.send))=false)→q=false):=Lib.hid (fun hn=>by
  rw [← hq];exact Md.another_false (fun x o h1 h2=>hn x o ((hr.2 x o).1 h1) h2))
 obtain ⟨ac,cc,rfl⟩:=h.1.shape;obtain ⟨ao,cap,rfl⟩:=h.2.shape;have HV:=Lib.hid h.2;have hle:=h.2.le;unfold maxLen at hle;obtain ⟨l,hl⟩:∃ l,r.waits=l:=⟨_,rfl⟩
 rw [hl] at HV HY HNO hle ⊢;obtain ⟨lc,hlc⟩:∃ lc,r.chans.length=lc:=⟨_,rfl⟩
 rw [hlc];clear h hr hq hl hlc;obtain ⟨w0,hw0⟩:∃ w0,(w.alloc (.cells #[.slice ac lc cc,.slice ao l.length cap] 35)).alloc (.cells (csV s) 87)=w0:=⟨_,rfl⟩
 have K0:Hid (Keeps [] w w0):=Lib.hid (hw0 ▸ ((Keeps.refl [] w).alloc _).alloc _);have HCB:Hid (Blk w0 (w.heap.size + 1) [.bool s.send,.int .i64 s.ch,.int .i64 s.v] 87):=Lib.hid (hw0 ▸ Blk.fresh _ [.bool s.send,.int .i64 s.ch,.int .i64 s.v] _ _ (by simp));have HMB:Hid (Blk w0 w.heap.size [.slice ac lc cc,.slice ao l.length cap] 35):=Lib.hid (hw0 ▸ (Blk.fresh w [.slice ac lc cc,.slice ao l.length cap] _ _ rfl).alloc _);have m1:w0.cell? ⟨w.heap.size,1,none⟩=some (.slice ao l.length cap):=HMB.out.cell 1;unfold csV at hw0;unfold csV
 go_enter Try.func84,Try.ntmps84
 go_wp2_with fail
 clear hw0 m1
 go_loopw [15] (fun u wr=>∃ k:Nat,k≤l.length∧u=.int .i64 k∧Hid (Keeps [] w0 wr∧∀ (j:Nat) p,j < k→l[j]?=some p→p.1=gi∨Md.any p.2 (meetsP s.ch (!s.send))=false)) (fun u _=>l.length - (intOf u).toNat)
 case atStart=>exact ⟨0,Nat.zero_le _,rfl,Lib.hid ⟨Keeps.refl _ _,fun j p hj=>by omega⟩⟩
 case round =>
  obtain ⟨k,hk,rfl,HI⟩:=hrel;obtain ⟨wo,rfl⟩:∃ wo:World,wo=wr:=⟨_,rfl⟩
  by_cases hlt:k < l.length
  ·obtain ⟨p,hx⟩:∃ p,l[k]?=some p:=⟨_,List.getElem?_eq_getElem hlt⟩
   obtain ⟨g,off,ac2,cc2,U,rfl,hg,hrg,hgv,hU⟩:=wt_var (HV.out.then wtE_kept (K0.out.then HI.out.1)) hx;have hpl:=hgv.le;unfold maxLen at hpl;obtain ⟨w3,hw3⟩:∃ w3,wo.alloc (.cells (wtC p (.slice ac2 p.2.cases.length cc2)).toArray 84)=w3:=⟨_,rfl⟩
   have K3:Hid (Keeps [] w0 w3):=Lib.hid (HI.out.1.then (hw3 ▸ (Keeps.refl [] wo).alloc _));have HB3:Hid (Blk w3 wo.heap.size (wtC p (.slice ac2 p.2.cases.length cc2)) 84):=Lib.hid (hw3 ▸ Blk.fresh wo _ _ _ rfl);have HGV:Hid (GV caseE 3 w3 (.slice ac2 p.2.cases.length cc2) p.2.cases U):=Lib.hid (hgv.then caseE_kept (hw3 ▸ (Keeps.refl [] wo).alloc _));have HONE:=wtC_one p ac2 p.2.cases.length cc2;have HLT:=Lib.hid hlt;have HX:=Lib.hid hx;clear hgv hU hx
   go_wp2_with (first
     | (refine wpList_load_mid rfl 84 (.tmp 17) rfl g (off + k * 7) (by rfl) _ _ hrg Try.underlying84 rfl (by kernel_rfl) ?_)
     | (refine wpList_store_mid rfl 84 (.tmp 8) (.tmp 18) rfl wo.heap.size 0 _ (by rfl) (by rfl) (there_alloc_new wo _ _ (by rfl)) (by kernel_rfl) HONE ?_;rw [alloc_setCells wo _ _ _ (by rfl),hw3])
     | fail)
   clear hw3 hrg
   go_loopw [9] (fun u wr=>∃ i:Nat,i≤p.2.cases.length + 1∧u=.int .i64 ((i:Int) - 1)∧Hid (Keeps [] w3 wr∧(p.1=gi∨Md.anyUpto p.2 (meetsP s.ch (!s.send)) i=false))) (fun u _=>p.2.cases.length + 1 - (intOf u + 1).toNat)
   case atStart=>exact ⟨0,Nat.zero_le _,rfl,Lib.hid ⟨Keeps.refl _ _,.inr rfl⟩⟩
   case round =>
    obtain ⟨i,hi,rfl,HJ⟩:=hrel;obtain ⟨wi,rfl⟩:∃ wi:World,wi=wr:=⟨_,rfl⟩
    obtain ⟨x0,x1,x2,x3,x4,x5,x6⟩:=(HB3.out.keep HJ.out.1 (by simp)).wt
    by_cases hil:i≤p.2.cases.length
    ·have hl1:(i:Int) - 1 < (p.2.cases.length:Int):=by omega
     have HIL:=Lib.hid hil;clear hil
     go_wp2_with fail
     refine (ref20_side _ p.2 _ U ((i:Int) - 1) (HGV.out.then caseE_kept HJ.out.1)).mono ?_
     rintro e w5 ⟨rfl,k5⟩
     have K5:=Lib.hid (HJ.out.1.then k5);clear k5 x0 x1 x2 x3 x4 x5 x6
     cases hs:Md.side p.2 ((i:Int) - 1) with
     | none =>
      have HN:Hid (p.1=gi∨Md.anyUpto p.2 (meetsP s.ch (!s.send)) (i + 1)=false):=Lib.hid (HJ.out.2.imp_right (fun h=>by rw [Md.any_step h,hs]));unfold csV Md.noSide;simp only [Option.getD_none,Option.isSome_none]
      go_wp2_with fail
      go_roundw
      case rel=>exact ⟨i + 1,by have:=HIL.out;omega,by go_num,Lib.hid ⟨K5.out.alloc _,HN.out⟩⟩
      case measure =>
       have:=HIL.out;simp [intOf];omega
     | some t =>
      have HT:=Lib.hid hs;clear hs;unfold csV;simp only [Option.getD_some,Option.isSome_some];obtain ⟨w6,hw6⟩:∃ w6,w5.alloc (.cells #[.bool t.send,.int .i64 t.ch,.int .i64 t.v] 87)=w6:=⟨_,rfl⟩
      have K6:Hid (Keeps [] w3 w6):=Lib.hid (K5.out.then (hw6 ▸ (Keeps.refl [] w5).alloc _));have HDB:Hid (Blk w6 w5.heap.size [.bool t.send,.int .i64 t.ch,.int .i64 t.v] 87):=Lib.hid (hw6 ▸ Blk.fresh w5 [.bool t.send,.int .i64 t.ch,.int .i64 t.v] _ _ rfl);obtain ⟨⟨d0,d1,d2⟩,_⟩:=Blk.three HDB.out;obtain ⟨⟨c0,c1,c2⟩,_⟩:=Blk.three (HCB.out.keep (K3.out.then K6.out) (by simp));have x0:w6.cell? ⟨wo.heap.size,0,none⟩=some (.int .i64 p.1):=(HB3.out.keep K6.out (by simp)).wt.1;have HE:Hid (meetsP s.ch (!s.send) ((i:Int) - 1) t=(t.ch == s.ch && (t.send != s.send))):=Lib.hid mr_meets;have HN:Hid ((t.ch == s.ch && (t.send != s.send))=false→p.1=gi∨Md.anyUpto p.2 (meetsP s.ch (!s.send)) (i + 1)=false):=Lib.hid (fun h=>HJ.out.2.imp_right (fun h2=>by rw [Md.any_step h2,HT.out];exact HE.out.trans h));have HYY:Hid ((t.ch == s.ch && (t.send != s.send))=true→(p.1 == gi)=false→q=true):=Lib.hid (fun h h2=>HY.out p.1 p.2 (List.mem_of_getElem? HX.out) (by simpa using h2) (by
       have h3:Md.anyUpto p.2 (meetsP s.ch (!s.send)) (i + 1)=true:=by
        show (Md.anyUpto p.2 _ i || _)=true;rw [HT.out];simp only [HE.out,h,Bool.or_true]
       exact Md.any_more h3 (by have:=HIL.out;omega)))
      cases t1:(p.1 == gi) with
      | true =>
       have HG:Hid (p.1=gi):=Lib.hid (by simpa using t1)
       go_wp2_with fail
       go_roundw
       case rel=>exact ⟨i + 1,by have:=HIL.out;omega,by go_num,Lib.hid ⟨K6.out,.inl HG.out⟩⟩
       case measure =>
        have:=HIL.out;simp [intOf];omega
      | false =>
       have t1n:(p.1 != gi)=true:=by simp [bne,t1]
       cases t2:(t.ch == s.ch) with
       | false =>
        have HNN:=Lib.hid (HN.out (by rw [t2];rfl))
        go_wp2_with fail
        go_roundw
        case rel=>exact ⟨i + 1,by have:=HIL.out;omega,by go_num,Lib.hid ⟨K6.out,HNN.out⟩⟩
        case measure =>
         have:=HIL.out;simp [intOf];omega
       | true =>
        cases t3:(t.send == s.send) with
        | false =>
         have HQ:Hid (q=true):=Lib.hid (HYY.out (by rw [t2];simp [bne,t3]) t1)
         go_wp2_with fail
         go_ret
         exact ⟨by rw [HQ.out];rfl,K0.out.then (K3.out.then K6.out)⟩
        | true =>
         have HNN:=Lib.hid (HN.out (by rw [t2];simp [bne,t3]))
         go_wp2_with fail
         go_roundw
         case rel=>exact ⟨i + 1,by have:=HIL.out;omega,by go_num,Lib.hid ⟨K6.out,HNN.out⟩⟩
         case measure =>
          have:=HIL.out;simp [intOf];omega
    ·obtain rfl:i=p.2.cases.length + 1:=by omega
     go_wp2_with fail
     go_roundw
     case rel =>
      refine ⟨k + 1,by have:=HLT.out;omega,by go_num,Lib.hid ⟨K3.out.then HJ.out.1,fun j p2 hj hp=>?_⟩⟩
      by_cases e:j=k
      ·subst e;rw [HX.out] at hp
       cases hp;exact HJ.out.2
      ·exact HI.out.2 j p2 (by omega) hp
     case measure=>have:=HLT.out;simp [intOf];omega
  ·obtain rfl:k=l.length:=by omega
   have hn:q=false:=HNO.out (fun x o ho hx=>by
    obtain ⟨j,hj⟩:=List.mem_iff_getElem?.1 ho;exact (HI.out.2 j _ (List.getElem?_eq_some_iff.1 hj).1 hj).resolve_left hx)
   go_wp2_with fail
   go_ret
   exact ⟨by rw [hn];rfl,K0.out.then HI.out.1⟩
end Go.Proofs.Ytdibmkjoaghafaa
