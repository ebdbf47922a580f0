/-
  What the laws need, part S6.
  Conditions: none.
-/
import Derived.Test.YtgjpdogjekmemaaGreatS5
import Derived.Laws.StructEq
set_option linter.unusedVariables false
set_option linter.unusedSimpArgs false
set_option linter.unnecessarySimpa false
set_option maxHeartbeats 2000000
namespace Go.Proofs.YtgjpdogjekmemaaGreat
open Go.RowKit
namespace Pn
def nv (c:Cs):Bool:=within true c.ch 8 && within c.send c.v 255
theorem Ad (c:Cs):nv c=jz c:=by
 obtain ⟨s,ch,v⟩:=c;unfold nv jz within;rw [Bool.eq_iff_iff]
 cases s <;> simp <;> omega
theorem KU {o:Op} (h:o.kind < 1∨9 < o.kind):cO o=false:=by
 unfold cO;rw [decide_eq_false_iff_not];rintro ⟨h1,h2,_⟩;omega
theorem KV {o:Op} (h:within (fu o.kind) o.ch 8=false):cO o=false:=by
 unfold cO;rw [decide_eq_false_iff_not];rintro ⟨h1,h2,h3,h4,h5,h6,h7,h8,h9,iL,iM,iA,gR,lF⟩;unfold within at h
 split at h
 ·simp at h;omega
 ·rename_i hc;simp at h;exact h (iL (by simpa using hc))
theorem KW {o:Op} (h:within (fy o.kind) o.v 255=false):cO o=false:=by
 unfold cO;rw [decide_eq_false_iff_not];rintro ⟨h1,h2,h3,h4,h5,h6,h7,h8,h9,iL,iM,iA,gR,lF⟩;unfold within at h
 split at h
 ·simp at h;omega
 ·rename_i hc;simp at h;exact h (iM (by simpa using hc))
theorem KX {o:Op} (h:within (o.kind == 1) o.n 4=false):cO o=false:=by
 unfold cO;rw [decide_eq_false_iff_not];rintro ⟨h1,h2,h3,h4,h5,h6,h7,h8,h9,iL,iM,iA,gR,lF⟩;unfold within at h
 split at h
 ·simp at h;omega
 ·rename_i hc;simp at h;exact h (iA (by simpa using hc))
theorem Ek {o:Op} (h:within (fu o.kind) o.ch 8=true):0≤o.ch∧o.ch≤8∧(fu o.kind=false→o.ch=0):=by
 unfold within at h
 split at h
 ·rename_i hc;simp at h;exact ⟨h.1,h.2,fun e=>by rw [e] at hc;cases hc⟩
 ·simp at h;rw [h];exact ⟨by omega,by omega,fun _=>rfl⟩
theorem El {o:Op} (h:within (fy o.kind) o.v 255=true):0≤o.v∧o.v≤255∧(fy o.kind=false→o.v=0):=by
 unfold within at h
 split at h
 ·rename_i hc;simp at h;exact ⟨h.1,h.2,fun e=>by rw [e] at hc;cases hc⟩
 ·simp at h;rw [h];exact ⟨by omega,by omega,fun _=>rfl⟩
theorem Em {o:Op} (h:within (o.kind == 1) o.n 4=true):0≤o.n∧o.n≤4∧(o.kind≠1→o.n=0):=by
 unfold within at h
 split at h
 ·rename_i hc;simp at h;exact ⟨h.1,h.2,fun e=>by simp at hc;exact absurd hc e⟩
 ·simp at h;rw [h];exact ⟨by omega,by omega,fun _=>rfl⟩
theorem KY {o:Op} (h1:1≤o.kind) (h2:o.kind≤9) (h3:within (fu o.kind) o.ch 8=true) (h4:within (fy o.kind) o.v 255=true) (h5:within (o.kind == 1) o.n 4=true) (h6:o.kind≠9):cO o=(decide (o.cases.length=0) && !o.cQ):=by
 obtain ⟨a1,a2,a3⟩:=Ek h3;obtain ⟨b1,b2,b3⟩:=El h4;obtain ⟨c1,c2,c3⟩:=Em h5;rw [Bool.eq_iff_iff];unfold cO;simp only [decide_eq_true_eq,Bool.and_eq_true,Bool.not_eq_true',List.length_eq_zero_iff]
 constructor
 ·rintro ⟨_,_,_,_,_,_,_,_,_,_,_,_,h,_⟩;exact h h6
 ·rintro ⟨h7,h8⟩
  refine ⟨h1,h2,a1,a2,c1,c2,b1,b2,by rw [h7];simp,a3,b3,c3,fun _=>⟨h7,h8⟩,by rw [h7];simp⟩
theorem KZ {o:Op} (h:6 < o.cases.length):cO o=false:=by
 unfold cO;rw [decide_eq_false_iff_not];rintro ⟨h1,h2,h3,h4,h5,h6,h7,h8,h9,iL⟩;omega
theorem K1 {o:Op} (h3:within (fu o.kind) o.ch 8=true) (h4:within (fy o.kind) o.v 255=true) (h5:within (o.kind == 1) o.n 4=true) (h6:o.kind=9) (h7:o.cases.length≤6) (h8:∀ (j:Nat) (c:Cs),o.cases[j]?=some c→nv c=true):cO o=true:=by
 obtain ⟨a1,a2,a3⟩:=Ek h3;obtain ⟨b1,b2,b3⟩:=El h4;obtain ⟨c1,c2,c3⟩:=Em h5;unfold cO;rw [decide_eq_true_iff];refine ⟨by omega,by omega,a1,a2,c1,c2,b1,b2,h7,a3,b3,c3,fun h=>absurd h6 h,fun c hc=>?_⟩;obtain ⟨j,hj,rfl⟩:=List.getElem_of_mem hc;rw [← Ad];exact h8 j _ (List.getElem?_eq_getElem hj)
theorem Ae {o:Op} {j:Nat} {c:Cs} (h:o.cases[j]?=some c) (hc:nv c=false):cO o=false:=by
 unfold cO;rw [decide_eq_false_iff_not];rintro ⟨h1,h2,h3,h4,h5,h6,h7,h8,h9,iL,iM,iA,gR,lF⟩;have:=lF c (List.mem_of_getElem? h);rw [← Ad,hc] at this;cases this
end Pn
set_option maxHeartbeats 3200000 in
theorem En (w:World) (o:Pn.Op) (va:Value) (SA:List Nat) (ha:GV jV 3 w va o.cases SA) :
  Calls Tryz.prog 90 #[.agg #[.int .i64 o.kind,.int .i64 o.ch,.int .i64 o.n,.int .i64 o.v,va,.bool o.cQ]] w fun e w'=>e=.returned (.bool (Pn.cO o))∧aE [] w w':=by
 have mI:=ha.le;unfold maxLen at mI;obtain ⟨ao,cap,rfl⟩:=ha.shape;have HA:=Lib.hid ha;obtain ⟨q,eD⟩:∃ q,Pn.cO o=q:=⟨_,rfl⟩
 rw [eD];have HQ:=Lib.hid eD;have KA:Hid (aE [] w (w.alloc (.cells #[.int .i64 o.kind,.int .i64 o.ch,.int .i64 o.n,.int .i64 o.v,.slice ao o.cases.length cap,.bool o.cQ] 58))):=Lib.hid ((aE.refl [] w).alloc _);clear ha eD
 by_cases hk:o.kind < 1∨9 < o.kind
 ·have HN:Hid (false=q):=Lib.hid (by rw [← HQ.out,Pn.KU hk]);rcases hk with hk | hk
  ·have sG:o.kind≤9:=by omega
   go_enter Tryz.func90,Tryz.ntmps90
   go_wp2_with fail
   go_ret
   exact ⟨dG HN.out,KA.out⟩
  ·have aV:1≤o.kind:=by omega
   go_enter Tryz.func90,Tryz.ntmps90
   go_wp2_with fail
   go_ret
   exact ⟨dG HN.out,KA.out⟩
 have aV:1≤o.kind:=by omega
 have sG:o.kind≤9:=by omega
 clear hk
 cases xb:Pn.within (Pn.fu o.kind) o.ch 8 with
 | false =>
  have HN:Hid (false=q):=Lib.hid (by rw [← HQ.out,Pn.KV xb])
  go_enter Tryz.func90,Tryz.ntmps90
  go_wp2_with fail
  go_quiet ((first | (go_at_call 136;exact gE (qO _ _)) | (go_at_call 137;exact gE (qP _ _)) | (go_at_call 135;exact gE (jj _ _ _ _))))
  go_wp2_with fail
  go_ret
  exact ⟨dG HN.out,KA.out.drewN _⟩
 | true =>
  cases xd:Pn.within (Pn.fy o.kind) o.v 255 with
  | false =>
   have HN:Hid (false=q):=Lib.hid (by rw [← HQ.out,Pn.KW xd])
   go_enter Tryz.func90,Tryz.ntmps90
   go_wp2_with fail
   go_quiet ((first | (go_at_call 136;exact gE (qO _ _)) | (go_at_call 137;exact gE (qP _ _)) | (go_at_call 135;exact gE (jj _ _ _ _))))
   go_wp2_with fail
   go_ret
   exact ⟨dG HN.out,KA.out.drewN _⟩
  | true =>
   cases kR:Pn.within (o.kind == 1) o.n 4 with
   | false =>
    have HN:Hid (false=q):=Lib.hid (by rw [← HQ.out,Pn.KX kR])
    go_enter Tryz.func90,Tryz.ntmps90
    go_wp2_with fail
    go_quiet ((first | (go_at_call 136;exact gE (qO _ _)) | (go_at_call 137;exact gE (qP _ _)) | (go_at_call 135;exact gE (jj _ _ _ _))))
    go_wp2_with fail
    refine (jj _ _ _ _).mono ?_
    rintro e w3 ⟨rfl,rfl⟩
    rw [kR]
    go_wp2_with fail
    go_ret
    exact ⟨dG HN.out,KA.out.drewN _⟩
   | true =>
    by_cases h9:o.kind=9
    ·have Eo:(o.kind != 9)=false:=by simp [h9]
     by_cases h6:6 < o.cases.length
     ·have HN:Hid (false=q):=Lib.hid (by rw [← HQ.out,Pn.KZ h6]);clear h9
      go_enter Tryz.func90,Tryz.ntmps90
      go_wp2_with fail
      go_quiet ((first | (go_at_call 136;exact gE (qO _ _)) | (go_at_call 137;exact gE (qP _ _)) | (go_at_call 135;exact gE (jj _ _ _ _))))
      go_wp2_with fail
      refine (jj _ _ _ _).mono ?_
      rintro e w3 ⟨rfl,rfl⟩
      rw [kR]
      go_wp2_with fail
      go_ret
      exact ⟨dG HN.out,KA.out.drewN _⟩
     ·have K5:o.cases.length≤6:=by omega
      have HS:Hid ((∀ (j:Nat) (c:Pn.Cs),o.cases[j]?=some c→Pn.nv c=true)→true=q):=Lib.hid (fun h=>by rw [← HQ.out,Pn.K1 xb xd kR h9 K5 h]);clear h9 h6
      go_enter Tryz.func90,Tryz.ntmps90
      go_wp2_with fail
      go_quiet ((first | (go_at_call 136;exact gE (qO _ _)) | (go_at_call 137;exact gE (qP _ _)) | (go_at_call 135;exact gE (jj _ _ _ _))))
      go_wp2_with fail
      refine (jj _ _ _ _).mono ?_
      rintro e w3 ⟨rfl,rfl⟩
      rw [kR]
      go_wp2_with fail
      clear xb xd kR Eo
      go_loopw [59] (fun u wr=>∃ k:Nat,k≤o.cases.length∧u=.int .i64 k∧Hid (aE [] w wr∧∀ (j:Nat) (c:Pn.Cs),j < k→o.cases[j]?=some c→Pn.nv c=true)) (fun u _=>o.cases.length - (intOf u).toNat)
      case atStart=>exact ⟨0,Nat.zero_le _,rfl,Lib.hid ⟨KA.out.drewN _,fun j c hj=>by omega⟩⟩
      case round =>
       obtain ⟨k,hk,rfl,HI⟩:=hrel;obtain ⟨wo,rfl⟩:∃ wo:World,wo=wr:=⟨_,rfl⟩
       by_cases fo:k < o.cases.length
       ·obtain ⟨x,hx⟩:∃ x,o.cases[k]?=some x:=⟨_,List.getElem?_eq_getElem fo⟩
        obtain ⟨g1,Af,rfl,_,uX,a0,a1,a2⟩:=(HA.out.then pO HI.out.1).case hx;have HX:=Lib.hid hx;have KR:Hid (aE [] w (wo.alloc (.cells #[.bool x.send,.int .i64 x.ch,.int .i64 x.v] 165))):=Lib.hid (HI.out.1.alloc _);clear hx
        cases j8:Pn.within true x.ch 8 with
        | false =>
         have HN:Hid (false=q):=Lib.hid (by rw [← HQ.out,Pn.Ae HX.out (by unfold Pn.nv;rw [j8];rfl)])
         go_wp2_with fail
         refine (jj _ _ _ _).mono ?_
         rintro e w4 ⟨rfl,rfl⟩
         rw [j8]
         go_wp2_with fail
         go_ret
         exact ⟨dG HN.out,KR.out⟩
        | true =>
         cases xe:Pn.within x.send x.v 255 with
         | false =>
          have HN:Hid (false=q):=Lib.hid (by rw [← HQ.out,Pn.Ae HX.out (by unfold Pn.nv;rw [j8,xe];rfl)])
          go_wp2_with fail
          refine (jj _ _ _ _).mono ?_
          rintro e w4 ⟨rfl,rfl⟩
          rw [j8]
          go_wp2_with fail
          refine (jj _ _ _ _).mono ?_
          rintro e w4 ⟨rfl,rfl⟩
          rw [xe]
          go_wp2_with fail
          go_ret
          exact ⟨dG HN.out,KR.out⟩
         | true =>
          have HO:Hid (Pn.nv x=true):=Lib.hid (by unfold Pn.nv;rw [j8,xe];rfl)
          go_wp2_with fail
          refine (jj _ _ _ _).mono ?_
          rintro e w4 ⟨rfl,rfl⟩
          rw [j8]
          go_wp2_with fail
          refine (jj _ _ _ _).mono ?_
          rintro e w4 ⟨rfl,rfl⟩
          rw [xe]
          go_wp2_with fail
          go_roundw
          case rel=>exact ⟨k + 1,by omega,by go_num,Lib.hid ⟨KR.out,fun j c hj hc=>by
           by_cases e:j=k
           ·subst e;rw [HX.out] at hc;cases hc;exact HO.out
           ·exact HI.out.2 j c (by omega) hc⟩⟩
          case measure=>simp [intOf];omega
       ·obtain rfl:k=o.cases.length:=by omega
        have HN:Hid (true=q):=Lib.hid (HS.out fun j c hc=>HI.out.2 j c (List.getElem?_eq_some_iff.1 hc).1 hc)
        go_wp2_with fail
        go_ret
        exact ⟨dG HN.out,HI.out.1⟩
    ·have Eo:(o.kind != 9)=true:=by simp [h9]
     have HP:=Lib.hid (Pn.KY aV sG xb xd kR h9);clear h9
     cases hl:decide (o.cases.length=0) with
     | false =>
      have HN:Hid (false=q):=Lib.hid (by rw [← HQ.out,HP.out,hl];rfl);have vP:((o.cases.length:Int) == 0)=false:=by simpa using hl
      clear hl
      go_enter Tryz.func90,Tryz.ntmps90
      go_wp2_with fail
      go_quiet ((first | (go_at_call 136;exact gE (qO _ _)) | (go_at_call 137;exact gE (qP _ _)) | (go_at_call 135;exact gE (jj _ _ _ _))))
      go_wp2_with fail
      refine (jj _ _ _ _).mono ?_
      rintro e w3 ⟨rfl,rfl⟩
      rw [kR]
      go_wp2_with fail
      all_goals
       go_ret
       exact ⟨dG HN.out,KA.out.drewN _⟩
     | true =>
      have HN:Hid ((!o.cQ)=q):=Lib.hid (by rw [← HQ.out,HP.out,hl];rfl);have vP:((o.cases.length:Int) == 0)=true:=by simpa using hl
      clear hl
      go_enter Tryz.func90,Tryz.ntmps90
      go_wp2_with fail
      go_quiet ((first | (go_at_call 136;exact gE (qO _ _)) | (go_at_call 137;exact gE (qP _ _)) | (go_at_call 135;exact gE (jj _ _ _ _))))
      go_wp2_with fail
      refine (jj _ _ _ _).mono ?_
      rintro e w3 ⟨rfl,rfl⟩
      rw [kR]
      go_wp2_with fail
      all_goals
       go_ret
       exact ⟨dG HN.out,KA.out.drewN _⟩
open Go.RowKit
namespace Pn
end Pn
set_option maxRecDepth 100000 in
set_option maxHeartbeats 3200000 in
theorem K7 (w:World) (o:Pn.Op) (va:Value) (SA:List Nat) (ha:GV jV 3 w va o.cases SA) (hb:¬ (1≤o.kind∧o.kind≤9∧0≤o.ch∧o.ch≤8∧0≤o.n∧o.n≤4∧0≤o.v∧o.v≤255∧o.cases.length≤6)) :
  Calls Tryz.prog 82 #[.agg #[.int .i64 o.kind,.int .i64 o.ch,.int .i64 o.n,.int .i64 o.v,va,.bool o.cQ]] w fun e w'=>e=.returned (.bool (Pn.cO o))∧aE [] w w':=by
 have mI:=ha.le;unfold maxLen at mI;obtain ⟨ao,cap,rfl⟩:=ha.shape;have HA:=Lib.hid ha;obtain ⟨q,eD⟩:∃ q,Pn.cO o=q:=⟨_,rfl⟩
 rw [eD];have HQ:=Lib.hid eD;have KA:Hid (aE [] w (w.alloc (.cells #[.int .i64 o.kind,.int .i64 o.ch,.int .i64 o.n,.int .i64 o.v,.slice ao o.cases.length cap,.bool o.cQ] 58))):=Lib.hid ((aE.refl [] w).alloc _);clear ha eD;have HN:Hid (false=q):=Lib.hid (by
  rw [← HQ.out,eq_comm];unfold Pn.cO;rw [decide_eq_false_iff_not];rintro ⟨h1,h2,h3,h4,h5,h6,h7,h8,h9,_⟩;exact hb ⟨h1,h2,h3,h4,h5,h6,h7,h8,h9⟩)
 have HB:=Lib.hid hb;clear hb
 go_enter Tryz.func82,Tryz.ntmps82
 go_upto_if 48 with fail
 all_goals
  go_wp2_with fail
  all_goals
   first
    | (exfalso;have h:=HB.out;omega)
    | (go_ret;exact ⟨dG HN.out,(aE.refl [] w).alloc _⟩)
open Go.RowKit
namespace Pn
end Pn
set_option maxRecDepth 100000 in
set_option maxHeartbeats 3200000 in
theorem K8 (w:World) (o:Pn.Op) (va:Value) (SA:List Nat) (ha:GV jV 3 w va o.cases SA) (hb:1≤o.kind∧o.kind≤9∧0≤o.ch∧o.ch≤8∧0≤o.n∧o.n≤4∧0≤o.v∧o.v≤255∧o.cases.length≤6) (hk:o.kind=1) :
  Calls Tryz.prog 82 #[.agg #[.int .i64 o.kind,.int .i64 o.ch,.int .i64 o.n,.int .i64 o.v,va,.bool o.cQ]] w fun e w'=>e=.returned (.bool (Pn.cO o))∧aE [] w w':=by
 have mI:=ha.le;unfold maxLen at mI;obtain ⟨ao,cap,rfl⟩:=ha.shape;have HA:=Lib.hid ha;obtain ⟨q,eD⟩:∃ q,Pn.cO o=q:=⟨_,rfl⟩
 rw [eD];have HQ:=Lib.hid eD;have KA:Hid (aE [] w (w.alloc (.cells #[.int .i64 o.kind,.int .i64 o.ch,.int .i64 o.n,.int .i64 o.v,.slice ao o.cases.length cap,.bool o.cQ] 58))):=Lib.hid ((aE.refl [] w).alloc _);clear ha eD;obtain ⟨b1,b2,b3,b4,b5,b6,b7,b8,b9⟩:=hb;obtain ⟨k,ch,n,v,cs,cQ⟩:=o;simp only at *;have HS:Hid ((Pn.fu k=false→ch=0)→(Pn.fy k=false→v=0)→(k≠1→n=0)→(k≠9→cs=[]∧cQ=false)→(∀ (j:Nat) (c:Pn.Cs),cs[j]?=some c→Pn.jz c=true)→true=q):=Lib.hid (fun d1 d2 d3 d4 h=>by
  rw [← HQ.out,eq_comm];unfold Pn.cO;rw [decide_eq_true_iff];refine ⟨b1,b2,b3,b4,b5,b6,b7,b8,b9,d1,d2,d3,d4,fun c hc=>?_⟩;obtain ⟨j,hj,rfl⟩:=List.getElem_of_mem hc;exact h j _ (List.getElem?_eq_getElem hj))
 have HF:Hid (¬ ((Pn.fu k=false→ch=0)∧(Pn.fy k=false→v=0)∧(k≠1→n=0)∧(k≠9→cs=[]∧cQ=false))→false=q):=Lib.hid (fun hn=>by
  rw [← HQ.out,eq_comm];unfold Pn.cO;rw [decide_eq_false_iff_not];rintro ⟨h1,h2,h3,h4,h5,h6,h7,h8,h9,iL,iM,iA,gR,_⟩;exact hn ⟨iL,iM,iA,gR⟩)
 subst hk;have eJ:Hid (Pn.fu 1=false∧Pn.fy 1=false):=Lib.hid (by constructor <;> simp [Pn.fu,Pn.fy] <;> omega)
 by_cases bU:ch=0∧v=0∧cQ=false∧cs.length=0
 ·obtain ⟨e0,e1,e2,e3⟩:=bU;subst e0 e1 e2;have e9:cs.length≤0:=by omega
  have qQ:=Lib.hid (HS.out (fun _=>rfl) (fun _=>rfl) (fun h=>absurd rfl h) (fun _=>⟨List.eq_nil_of_length_eq_zero (by omega),rfl⟩));clear HS HF
  try clear e3
  try clear e2
  go_enter Tryz.func82,Tryz.ntmps82
  go_wp2_with fail
  refine (pR _ _).mono ?_
  rintro e w3 ⟨rfl,rfl⟩
  rw [eJ.out.1]
  go_wp2_with (go_at_call 97;refine (pS _ _).mono ?_;rintro e w4 ⟨rfl,rfl⟩;rw [eJ.out.2])
  go_loopw [97] (fun u wr=>∃ j:Nat,j≤cs.length∧u=.int .i64 j∧Hid (aE [] w wr∧∀ (i:Nat) (c:Pn.Cs),i < j→cs[i]?=some c→Pn.jz c=true)) (fun u _=>cs.length - (intOf u).toNat)
  case atStart=>exact ⟨0,Nat.zero_le _,rfl,Lib.hid ⟨KA.out,fun i c hi=>by omega⟩⟩
  case round =>
   obtain ⟨j,hj,rfl,HI⟩:=hrel;obtain ⟨wo,rfl⟩:∃ wo:World,wo=wr:=⟨_,rfl⟩
   obtain rfl:j=cs.length:=by omega
   have HN:Hid (true=q):=Lib.hid (qQ.out fun i c hc=>HI.out.2 i c (List.getElem?_eq_some_iff.1 hc).1 hc)
   go_wp2_with fail
   go_ret
   exact ⟨dG HN.out,HI.out.1⟩
 ·have HN:Hid (false=q):=Lib.hid (HF.out (by rintro ⟨d1,d2,d3,d4⟩;have q1:=eJ.out.1;have q2:=eJ.out.2;exact bU ⟨d1 q1,d2 q2,(d4 (by omega)).2,by simp [(d4 (by omega)).1]⟩));have HC:Hid (ch=0→v=0→cQ=false→cs.length=0→False):=Lib.hid (fun e0 e1 e2 e3=>bU ⟨e0,e1,e2,e3⟩);clear bU
  go_enter Tryz.func82,Tryz.ntmps82
  go_wp2_with fail
  refine (pR _ _).mono ?_
  rintro e w3 ⟨rfl,rfl⟩
  rw [eJ.out.1]
  go_upto_if 93 with (go_at_call 97;refine (pS _ _).mono ?_;rintro e w4 ⟨rfl,rfl⟩;rw [eJ.out.2])
  all_goals
   go_wp2_with fail
   all_goals
    first
     | (exfalso;refine HC.out ?_ ?_ ?_ ?_ <;> (first | assumption | omega | (simpa using ‹¬cQ=true›));done)
     | (go_ret;exact ⟨dG HN.out,(aE.refl [] w).alloc _⟩)
open Go.RowKit
namespace Pn
end Pn
set_option maxRecDepth 100000 in
set_option maxHeartbeats 3200000 in
theorem Lb (w:World) (o:Pn.Op) (va:Value) (SA:List Nat) (ha:GV jV 3 w va o.cases SA) (hb:1≤o.kind∧o.kind≤9∧0≤o.ch∧o.ch≤8∧0≤o.n∧o.n≤4∧0≤o.v∧o.v≤255∧o.cases.length≤6) (hv:o.kind=2∨o.kind=4) (hk:¬ o.kind=1) :
  Calls Tryz.prog 82 #[.agg #[.int .i64 o.kind,.int .i64 o.ch,.int .i64 o.n,.int .i64 o.v,va,.bool o.cQ]] w fun e w'=>e=.returned (.bool (Pn.cO o))∧aE [] w w':=by
 have mI:=ha.le;unfold maxLen at mI;obtain ⟨ao,cap,rfl⟩:=ha.shape;have HA:=Lib.hid ha;obtain ⟨q,eD⟩:∃ q,Pn.cO o=q:=⟨_,rfl⟩
 rw [eD];have HQ:=Lib.hid eD;have KA:Hid (aE [] w (w.alloc (.cells #[.int .i64 o.kind,.int .i64 o.ch,.int .i64 o.n,.int .i64 o.v,.slice ao o.cases.length cap,.bool o.cQ] 58))):=Lib.hid ((aE.refl [] w).alloc _);clear ha eD;obtain ⟨b1,b2,b3,b4,b5,b6,b7,b8,b9⟩:=hb;obtain ⟨k,ch,n,v,cs,cQ⟩:=o;simp only at *;have HS:Hid ((Pn.fu k=false→ch=0)→(Pn.fy k=false→v=0)→(k≠1→n=0)→(k≠9→cs=[]∧cQ=false)→(∀ (j:Nat) (c:Pn.Cs),cs[j]?=some c→Pn.jz c=true)→true=q):=Lib.hid (fun d1 d2 d3 d4 h=>by
  rw [← HQ.out,eq_comm];unfold Pn.cO;rw [decide_eq_true_iff];refine ⟨b1,b2,b3,b4,b5,b6,b7,b8,b9,d1,d2,d3,d4,fun c hc=>?_⟩;obtain ⟨j,hj,rfl⟩:=List.getElem_of_mem hc;exact h j _ (List.getElem?_eq_getElem hj))
 have HF:Hid (¬ ((Pn.fu k=false→ch=0)∧(Pn.fy k=false→v=0)∧(k≠1→n=0)∧(k≠9→cs=[]∧cQ=false))→false=q):=Lib.hid (fun hn=>by
  rw [← HQ.out,eq_comm];unfold Pn.cO;rw [decide_eq_false_iff_not];rintro ⟨h1,h2,h3,h4,h5,h6,h7,h8,h9,iL,iM,iA,gR,_⟩;exact hn ⟨iL,iM,iA,gR⟩)
 have q1:(k != 1)=true:=by simp;omega
 have q9:(k != 9)=true:=by simp;omega
 have eJ:Hid (Pn.fu k=true∧Pn.fy k=true):=Lib.hid (by constructor <;> simp [Pn.fu,Pn.fy] <;> omega)
 by_cases bU:n=0∧cQ=false∧cs.length=0
 ·obtain ⟨e0,e1,e2⟩:=bU;subst e0 e1;have e9:cs.length≤0:=by omega
  have qQ:=Lib.hid (HS.out (fun h=>by rw [eJ.out.1] at h;cases h) (fun h=>by rw [eJ.out.2] at h;cases h) (fun _=>rfl) (fun _=>⟨List.eq_nil_of_length_eq_zero (by omega),rfl⟩));clear HS HF
  try clear e3
  try clear e2
  go_enter Tryz.func82,Tryz.ntmps82
  go_wp2_with fail
  refine (pR _ _).mono ?_
  rintro e w3 ⟨rfl,rfl⟩
  rw [eJ.out.1]
  go_wp2_with (go_at_call 97;refine (pS _ _).mono ?_;rintro e w4 ⟨rfl,rfl⟩;rw [eJ.out.2])
  go_loopw [97] (fun u wr=>∃ j:Nat,j≤cs.length∧u=.int .i64 j∧Hid (aE [] w wr∧∀ (i:Nat) (c:Pn.Cs),i < j→cs[i]?=some c→Pn.jz c=true)) (fun u _=>cs.length - (intOf u).toNat)
  case atStart=>exact ⟨0,Nat.zero_le _,rfl,Lib.hid ⟨KA.out,fun i c hi=>by omega⟩⟩
  case round =>
   obtain ⟨j,hj,rfl,HI⟩:=hrel;obtain ⟨wo,rfl⟩:∃ wo:World,wo=wr:=⟨_,rfl⟩
   obtain rfl:j=cs.length:=by omega
   have HN:Hid (true=q):=Lib.hid (qQ.out fun i c hc=>HI.out.2 i c (List.getElem?_eq_some_iff.1 hc).1 hc)
   go_wp2_with fail
   go_ret
   exact ⟨dG HN.out,HI.out.1⟩
 ·have HN:Hid (false=q):=Lib.hid (HF.out (by rintro ⟨d1,d2,d3,d4⟩;have q1:=eJ.out.1;have q2:=eJ.out.2;exact bU ⟨d3 (by omega),(d4 (by omega)).2,by simp [(d4 (by omega)).1]⟩));have HC:Hid (n=0→cQ=false→cs.length=0→False):=Lib.hid (fun e0 e1 e2=>bU ⟨e0,e1,e2⟩);clear bU
  go_enter Tryz.func82,Tryz.ntmps82
  go_wp2_with fail
  refine (pR _ _).mono ?_
  rintro e w3 ⟨rfl,rfl⟩
  rw [eJ.out.1]
  go_upto_if 93 with (go_at_call 97;refine (pS _ _).mono ?_;rintro e w4 ⟨rfl,rfl⟩;rw [eJ.out.2])
  all_goals
   go_wp2_with fail
   all_goals
    first
     | (exfalso;refine HC.out ?_ ?_ ?_ <;> (first | assumption | omega | (simpa using ‹¬cQ=true›));done)
     | (go_ret;exact ⟨dG HN.out,(aE.refl [] w).alloc _⟩)
open Go.RowKit
namespace Pn
theorem Lc {o:Op} {j:Nat} {c:Cs} (h:o.cases[j]?=some c) (hc:jz c=false):cO o=false:=Ae h (by rw [Ad];exact hc)
end Pn
set_option maxRecDepth 100000 in
set_option maxHeartbeats 3200000 in
theorem Le (w:World) (o:Pn.Op) (va:Value) (SA:List Nat) (ha:GV jV 3 w va o.cases SA) (hb:1≤o.kind∧o.kind≤9∧0≤o.ch∧o.ch≤8∧0≤o.n∧o.n≤4∧0≤o.v∧o.v≤255∧o.cases.length≤6) (hk:o.kind=9) :
  Calls Tryz.prog 82 #[.agg #[.int .i64 o.kind,.int .i64 o.ch,.int .i64 o.n,.int .i64 o.v,va,.bool o.cQ]] w fun e w'=>e=.returned (.bool (Pn.cO o))∧aE [] w w':=by
 have mI:=ha.le;unfold maxLen at mI;obtain ⟨ao,cap,rfl⟩:=ha.shape;have HA:=Lib.hid ha;obtain ⟨q,eD⟩:∃ q,Pn.cO o=q:=⟨_,rfl⟩
 rw [eD];have HQ:=Lib.hid eD;have KA:Hid (aE [] w (w.alloc (.cells #[.int .i64 o.kind,.int .i64 o.ch,.int .i64 o.n,.int .i64 o.v,.slice ao o.cases.length cap,.bool o.cQ] 58))):=Lib.hid ((aE.refl [] w).alloc _);clear ha eD;obtain ⟨b1,b2,b3,b4,b5,b6,b7,b8,b9⟩:=hb;obtain ⟨k,ch,n,v,cs,cQ⟩:=o;simp only at *;have HS:Hid ((Pn.fu k=false→ch=0)→(Pn.fy k=false→v=0)→(k≠1→n=0)→(k≠9→cs=[]∧cQ=false)→(∀ (j:Nat) (c:Pn.Cs),cs[j]?=some c→Pn.jz c=true)→true=q):=Lib.hid (fun d1 d2 d3 d4 h=>by
  rw [← HQ.out,eq_comm];unfold Pn.cO;rw [decide_eq_true_iff];refine ⟨b1,b2,b3,b4,b5,b6,b7,b8,b9,d1,d2,d3,d4,fun c hc=>?_⟩;obtain ⟨j,hj,rfl⟩:=List.getElem_of_mem hc;exact h j _ (List.getElem?_eq_getElem hj))
 have HF:Hid (¬ ((Pn.fu k=false→ch=0)∧(Pn.fy k=false→v=0)∧(k≠1→n=0)∧(k≠9→cs=[]∧cQ=false))→false=q):=Lib.hid (fun hn=>by
  rw [← HQ.out,eq_comm];unfold Pn.cO;rw [decide_eq_false_iff_not];rintro ⟨h1,h2,h3,h4,h5,h6,h7,h8,h9,iL,iM,iA,gR,_⟩;exact hn ⟨iL,iM,iA,gR⟩)
 subst hk;have eJ:Hid (Pn.fu 9=false∧Pn.fy 9=false):=Lib.hid (by constructor <;> simp [Pn.fu,Pn.fy] <;> omega)
 by_cases bU:ch=0∧v=0∧n=0
 ·obtain ⟨e0,e1,e2⟩:=bU;subst e0 e1 e2;have qQ:=Lib.hid (HS.out (fun _=>rfl) (fun _=>rfl) (fun _=>rfl) (fun h=>absurd rfl h));clear HS HF
  try clear e3
  try clear e2
  go_enter Tryz.func82,Tryz.ntmps82
  go_wp2_with fail
  refine (pR _ _).mono ?_
  rintro e w3 ⟨rfl,rfl⟩
  rw [eJ.out.1]
  go_wp2_with (go_at_call 97;refine (pS _ _).mono ?_;rintro e w4 ⟨rfl,rfl⟩;rw [eJ.out.2])
  go_loopw [97] (fun u wr=>∃ j:Nat,j≤cs.length∧u=.int .i64 j∧Hid (aE [] w wr∧∀ (i:Nat) (c:Pn.Cs),i < j→cs[i]?=some c→Pn.jz c=true)) (fun u _=>cs.length - (intOf u).toNat)
  case atStart=>exact ⟨0,Nat.zero_le _,rfl,Lib.hid ⟨KA.out,fun i c hi=>by omega⟩⟩
  case round =>
   obtain ⟨j,hj,rfl,HI⟩:=hrel;obtain ⟨wo,rfl⟩:∃ wo:World,wo=wr:=⟨_,rfl⟩
   by_cases fo:j < cs.length
   ·obtain ⟨x,hx⟩:∃ x,cs[j]?=some x:=⟨_,List.getElem?_eq_getElem fo⟩
    obtain ⟨g1,Af,rfl,_,uX,a0,a1,a2⟩:=(HA.out.then pO HI.out.1).case hx;have HX:=Lib.hid hx;clear hx;obtain ⟨xs,xc,xv⟩:=x;simp only at a0 a1 a2;have KR:Hid (aE [] w (wo.alloc (.cells #[.bool xs,.int .i64 xc,.int .i64 xv] 165))):=Lib.hid (HI.out.1.alloc _)
    by_cases hr:0≤xc∧xc≤8∧0≤xv∧xv≤255∧(xs=false→xv=0)
    ·have HO:Hid (Pn.jz ⟨xs,xc,xv⟩=true):=Lib.hid (by unfold Pn.jz;rw [decide_eq_true_iff];exact hr);obtain ⟨e1,e2,e3,e4,e5⟩:=hr
     cases xs with
     | true =>
      clear e5
      go_wp2_with fail
      go_roundw
      case rel=>exact ⟨j + 1,by omega,by go_num,Lib.hid ⟨KR.out,fun i c hi hc=>by
       by_cases e:i=j
       ·subst e;rw [HX.out] at hc;cases hc;exact HO.out
       ·exact HI.out.2 i c (by omega) hc⟩⟩
      case measure=>simp [intOf];omega
     | false =>
      have e6:=e5 rfl;subst e6;clear e5
      go_wp2_with fail
      go_roundw
      case rel=>exact ⟨j + 1,by omega,by go_num,Lib.hid ⟨KR.out,fun i c hi hc=>by
       by_cases e:i=j
       ·subst e;rw [HX.out] at hc;cases hc;exact HO.out
       ·exact HI.out.2 i c (by omega) hc⟩⟩
      case measure=>simp [intOf];omega
    ·have HN:Hid (false=q):=Lib.hid (by rw [← HQ.out,Pn.Lc HX.out (by unfold Pn.jz;rw [decide_eq_false_iff_not];exact hr)]);have HR:=Lib.hid hr;clear hr
     cases xs with
     | true =>
      have Ag:Hid (0≤xc→xc≤8→0≤xv→xv≤255→False):=Lib.hid (fun a b c d=>HR.out ⟨a,b,c,d,fun h=>by cases h⟩);clear HR
      go_upto_if 128 with fail
      all_goals
       go_wp2_with fail
       all_goals
        first
         | (exfalso;refine Ag.out ?_ ?_ ?_ ?_ <;> omega)
         | (go_ret;exact ⟨dG HN.out,HI.out.1.alloc _⟩)
     | false =>
      have Ag:Hid (0≤xc→xc≤8→0≤xv→xv≤255→xv≠0):=Lib.hid (fun a b c d e=>HR.out ⟨a,b,c,d,fun _=>e⟩);clear HR
      go_upto_if 128 with fail
      all_goals
       go_wp2_with fail
       all_goals
        first
         | (exfalso;refine Ag.out ?_ ?_ ?_ ?_ ?_ <;> (first | omega | (have h:=(show ((((0≤xc∧xc≤8)∧0≤xv)∧xv≤255)∧(xv != 0)=false) by assumption).2;simpa using h)))
         | (go_ret;exact ⟨dG HN.out,HI.out.1.alloc _⟩)
   ·obtain rfl:j=cs.length:=by omega
    have HN:Hid (true=q):=Lib.hid (qQ.out fun i c hc=>HI.out.2 i c (List.getElem?_eq_some_iff.1 hc).1 hc)
    go_wp2_with fail
    go_ret
    exact ⟨dG HN.out,HI.out.1⟩
 ·have HN:Hid (false=q):=Lib.hid (HF.out (by rintro ⟨d1,d2,d3,d4⟩;have q1:=eJ.out.1;have q2:=eJ.out.2;exact bU ⟨d1 q1,d2 q2,d3 (by omega)⟩));have HC:Hid (ch=0→v=0→n=0→False):=Lib.hid (fun e0 e1 e2=>bU ⟨e0,e1,e2⟩);clear bU
  go_enter Tryz.func82,Tryz.ntmps82
  go_wp2_with fail
  refine (pR _ _).mono ?_
  rintro e w3 ⟨rfl,rfl⟩
  rw [eJ.out.1]
  go_upto_if 93 with (go_at_call 97;refine (pS _ _).mono ?_;rintro e w4 ⟨rfl,rfl⟩;rw [eJ.out.2])
  all_goals
   go_wp2_with fail
   all_goals
    first
     | (exfalso;refine HC.out ?_ ?_ ?_ <;> (first | assumption | omega | (simpa using ‹¬cQ=true›));done)
     | (go_ret;exact ⟨dG HN.out,(aE.refl [] w).alloc _⟩)
open Go.RowKit
namespace Pn
end Pn
set_option maxRecDepth 100000 in
set_option maxHeartbeats 3200000 in
theorem Lf (w:World) (o:Pn.Op) (va:Value) (SA:List Nat) (ha:GV jV 3 w va o.cases SA) (hb:1≤o.kind∧o.kind≤9∧0≤o.ch∧o.ch≤8∧0≤o.n∧o.n≤4∧0≤o.v∧o.v≤255∧o.cases.length≤6) (hk:¬ o.kind=1) (hv:¬ (o.kind=2∨o.kind=4)) (sG:¬ o.kind=9) :
  Calls Tryz.prog 82 #[.agg #[.int .i64 o.kind,.int .i64 o.ch,.int .i64 o.n,.int .i64 o.v,va,.bool o.cQ]] w fun e w'=>e=.returned (.bool (Pn.cO o))∧aE [] w w':=by
 have mI:=ha.le;unfold maxLen at mI;obtain ⟨ao,cap,rfl⟩:=ha.shape;have HA:=Lib.hid ha;obtain ⟨q,eD⟩:∃ q,Pn.cO o=q:=⟨_,rfl⟩
 rw [eD];have HQ:=Lib.hid eD;have KA:Hid (aE [] w (w.alloc (.cells #[.int .i64 o.kind,.int .i64 o.ch,.int .i64 o.n,.int .i64 o.v,.slice ao o.cases.length cap,.bool o.cQ] 58))):=Lib.hid ((aE.refl [] w).alloc _);clear ha eD;obtain ⟨b1,b2,b3,b4,b5,b6,b7,b8,b9⟩:=hb;obtain ⟨k,ch,n,v,cs,cQ⟩:=o;simp only at *;have HS:Hid ((Pn.fu k=false→ch=0)→(Pn.fy k=false→v=0)→(k≠1→n=0)→(k≠9→cs=[]∧cQ=false)→(∀ (j:Nat) (c:Pn.Cs),cs[j]?=some c→Pn.jz c=true)→true=q):=Lib.hid (fun d1 d2 d3 d4 h=>by
  rw [← HQ.out,eq_comm];unfold Pn.cO;rw [decide_eq_true_iff];refine ⟨b1,b2,b3,b4,b5,b6,b7,b8,b9,d1,d2,d3,d4,fun c hc=>?_⟩;obtain ⟨j,hj,rfl⟩:=List.getElem_of_mem hc;exact h j _ (List.getElem?_eq_getElem hj))
 have HF:Hid (¬ ((Pn.fu k=false→ch=0)∧(Pn.fy k=false→v=0)∧(k≠1→n=0)∧(k≠9→cs=[]∧cQ=false))→false=q):=Lib.hid (fun hn=>by
  rw [← HQ.out,eq_comm];unfold Pn.cO;rw [decide_eq_false_iff_not];rintro ⟨h1,h2,h3,h4,h5,h6,h7,h8,h9,iL,iM,iA,gR,_⟩;exact hn ⟨iL,iM,iA,gR⟩)
 have q1:(k != 1)=true:=by simp;omega
 have q9:(k != 9)=true:=by simp;omega
 have eJ:Hid (Pn.fu k=true∧Pn.fy k=false):=Lib.hid (by constructor <;> simp [Pn.fu,Pn.fy] <;> omega)
 by_cases bU:v=0∧n=0∧cQ=false∧cs.length=0
 ·obtain ⟨e0,e1,e2,e3⟩:=bU;subst e0 e1 e2;have e9:cs.length≤0:=by omega
  have qQ:=Lib.hid (HS.out (fun h=>by rw [eJ.out.1] at h;cases h) (fun _=>rfl) (fun _=>rfl) (fun _=>⟨List.eq_nil_of_length_eq_zero (by omega),rfl⟩));clear HS HF
  try clear e3
  try clear e2
  go_enter Tryz.func82,Tryz.ntmps82
  go_wp2_with fail
  refine (pR _ _).mono ?_
  rintro e w3 ⟨rfl,rfl⟩
  rw [eJ.out.1]
  go_wp2_with (go_at_call 97;refine (pS _ _).mono ?_;rintro e w4 ⟨rfl,rfl⟩;rw [eJ.out.2])
  go_loopw [97] (fun u wr=>∃ j:Nat,j≤cs.length∧u=.int .i64 j∧Hid (aE [] w wr∧∀ (i:Nat) (c:Pn.Cs),i < j→cs[i]?=some c→Pn.jz c=true)) (fun u _=>cs.length - (intOf u).toNat)
  case atStart=>exact ⟨0,Nat.zero_le _,rfl,Lib.hid ⟨KA.out,fun i c hi=>by omega⟩⟩
  case round =>
   obtain ⟨j,hj,rfl,HI⟩:=hrel;obtain ⟨wo,rfl⟩:∃ wo:World,wo=wr:=⟨_,rfl⟩
   obtain rfl:j=cs.length:=by omega
   have HN:Hid (true=q):=Lib.hid (qQ.out fun i c hc=>HI.out.2 i c (List.getElem?_eq_some_iff.1 hc).1 hc)
   go_wp2_with fail
   go_ret
   exact ⟨dG HN.out,HI.out.1⟩
 ·have HN:Hid (false=q):=Lib.hid (HF.out (by rintro ⟨d1,d2,d3,d4⟩;have q1:=eJ.out.1;have q2:=eJ.out.2;exact bU ⟨d2 q2,d3 (by omega),(d4 (by omega)).2,by simp [(d4 (by omega)).1]⟩));have HC:Hid (v=0→n=0→cQ=false→cs.length=0→False):=Lib.hid (fun e0 e1 e2 e3=>bU ⟨e0,e1,e2,e3⟩);clear bU
  go_enter Tryz.func82,Tryz.ntmps82
  go_wp2_with fail
  refine (pR _ _).mono ?_
  rintro e w3 ⟨rfl,rfl⟩
  rw [eJ.out.1]
  go_upto_if 93 with (go_at_call 97;refine (pS _ _).mono ?_;rintro e w4 ⟨rfl,rfl⟩;rw [eJ.out.2])
  all_goals
   go_wp2_with fail
   all_goals
    first
     | (exfalso;refine HC.out ?_ ?_ ?_ ?_ <;> (first | assumption | omega | (simpa using ‹¬cQ=true›));done)
     | (go_ret;exact ⟨dG HN.out,(aE.refl [] w).alloc _⟩)
open Go.RowKit
set_option maxRecDepth 100000 in
set_option maxHeartbeats 3200000 in
theorem Ep (w:World) (o:Pn.Op) (va:Value) (SA:List Nat) (ha:GV jV 3 w va o.cases SA) :
  Calls Tryz.prog 82 #[.agg #[.int .i64 o.kind,.int .i64 o.ch,.int .i64 o.n,.int .i64 o.v,va,.bool o.cQ]] w fun e w'=>e=.returned (.bool (Pn.cO o))∧aE [] w w':=by
 by_cases hb:1≤o.kind∧o.kind≤9∧0≤o.ch∧o.ch≤8∧0≤o.n∧o.n≤4∧0≤o.v∧o.v≤255∧o.cases.length≤6
 ·by_cases hk:o.kind=1
  ·exact K8 w o va SA ha hb hk
  by_cases hv:o.kind=2∨o.kind=4
  ·exact Lb w o va SA ha hb hv hk
  by_cases sG:o.kind=9
  ·exact Le w o va SA ha hb sG
  ·exact Lf w o va SA ha hb hk hv sG
 ·exact K7 w o va SA ha hb
open Go.RowKit
namespace Pn
theorem Er {l:List Op} {j:Nat} {o:Op} (h:l[j]?=some o) (ho:cO o=false):jA l=false:=by
 unfold jA;rw [decide_eq_false_iff_not];rintro ⟨_,h2⟩;have:=h2 o (List.mem_of_getElem? h);rw [ho] at this;cases this
theorem Es {l:List Op} (h:16 < l.length):jA l=false:=by
 unfold jA;rw [decide_eq_false_iff_not];rintro ⟨h1,_⟩;omega
theorem Et {l:List Op} (h:l.length≤16) (ho:∀ (j:Nat) (o:Op),j < l.length→l[j]?=some o→cO o=true):jA l=true:=by
 unfold jA;rw [decide_eq_true_iff];refine ⟨h,fun o hm=>?_⟩;obtain ⟨j,hj,rfl⟩:=List.getElem_of_mem hm;exact ho j _ hj (List.getElem?_eq_getElem hj)
theorem xg {p:List (List Op)} {k:Nat} {l:List Op} (h:p[k]?=some l) (hl:jA l=false):right p=false:=by
 unfold right;rw [decide_eq_false_iff_not];rintro ⟨_,_,h2⟩;have:=h2 l (List.mem_of_getElem? h);rw [hl] at this;cases this
theorem Eu {p:List (List Op)} (h:p.length < 1∨8 < p.length):right p=false:=by
 unfold right;rw [decide_eq_false_iff_not];rintro ⟨h1,h2,_⟩;omega
theorem Ev {p:List (List Op)} (h1:1≤p.length) (h2:p.length≤8) (ho:∀ (j:Nat) (l:List Op),j < p.length→p[j]?=some l→jA l=true):right p=true:=by
 unfold right;rw [decide_eq_true_iff];refine ⟨h1,h2,fun o hm=>?_⟩;obtain ⟨j,hj,rfl⟩:=List.getElem_of_mem hm;exact ho j _ hj (List.getElem?_eq_getElem hj)
end Pn
set_option maxHeartbeats 1600000 in
theorem Lg (w:World) (v:Value) (p:List (List Pn.Op)) (S:List Nat) (h:GV oL 1 w v p S) :
  Calls Tryz.prog 64 #[v] w fun e w'=>e=.returned (.bool (Pn.right p))∧aE [] w w':=by
 have hle:=h.le;unfold maxLen at hle;obtain ⟨ao,cap,rfl⟩:=h.shape;have HP:=Lib.hid h;obtain ⟨q,eD⟩:∃ q,Pn.right p=q:=⟨_,rfl⟩
 rw [eD];have HQ:=Lib.hid eD;clear h eD
 by_cases hlen:p.length < 1∨8 < p.length
 ·have HN:Hid (false=q):=Lib.hid (by rw [← HQ.out,Pn.Eu hlen]);rcases hlen with hl | hl
  ·have xj:p.length≤8:=by omega
   go_enter Tryz.func64,Tryz.ntmps64
   go_wp2_with fail
   go_ret
   exact ⟨dG HN.out,aE.refl _ _⟩
  ·have oe:1≤p.length:=by omega
   go_enter Tryz.func64,Tryz.ntmps64
   go_wp2_with fail
   go_ret
   exact ⟨dG HN.out,aE.refl _ _⟩
 have oe:1≤p.length:=by omega
 have xj:p.length≤8:=by omega
 clear hlen
 go_enter Tryz.func64,Tryz.ntmps64
 go_wp2_with fail
 go_loopw [17] (fun u wr=>∃ k:Nat,k≤p.length∧u=.int .i64 k∧Hid (aE [] w wr∧∀ (j:Nat) (l:List Pn.Op),j < k→p[j]?=some l→Pn.jA l=true)) (fun u _=>p.length - (intOf u).toNat)
 case atStart=>exact ⟨0,Nat.zero_le _,rfl,Lib.hid ⟨aE.refl _ _,fun j l hj=>by omega⟩⟩
 case round =>
  obtain ⟨k,hk,rfl,HI⟩:=hrel;obtain ⟨wo,rfl⟩:∃ wo:World,wo=wr:=⟨_,rfl⟩
  by_cases fo:k < p.length
  ·obtain ⟨l,hx⟩:∃ l,p[k]?=some l:=⟨_,List.getElem?_eq_getElem fo⟩
   obtain ⟨g1,Af,_,U1,rfl,_,_,a0,⟨v1,j8,oM⟩,_⟩:=(HP.out.then Ac HI.out.1).one hx
   cases j8;have lY:=oM.le;unfold maxLen at lY;obtain ⟨am,cm,rfl⟩:=oM.shape;have HU:=Lib.hid oM;have HX:=Lib.hid hx;clear hx oM
   by_cases uY:16 < l.length
   ·have HN:Hid (false=q):=Lib.hid (by rw [← HQ.out,Pn.xg HX.out (Pn.Es uY)])
    go_wp2_with fail
    go_ret
    exact ⟨dG HN.out,HI.out.1⟩
   have Ah:l.length≤16:=by omega
   clear uY
   go_wp2_with fail
   go_loopw [26] (fun u wr=>∃ j:Nat,j≤l.length∧u=.int .i64 j∧Hid (aE [] w wr∧aE [] wo wr∧∀ (i:Nat) (o:Pn.Op),i < j→l[i]?=some o→Pn.cO o=true)) (fun u _=>l.length - (intOf u).toNat)
   case atStart=>exact ⟨0,Nat.zero_le _,rfl,Lib.hid ⟨HI.out.1,aE.refl _ _,fun i o hi=>by omega⟩⟩
   case round =>
    obtain ⟨j,hj,rfl,HJ⟩:=hrel;obtain ⟨wi,rfl⟩:∃ wi:World,wi=wr:=⟨_,rfl⟩
    by_cases Ai:j < l.length
    ·obtain ⟨o,ho⟩:∃ o,l[j]?=some o:=⟨_,List.getElem?_eq_getElem Ai⟩
     obtain ⟨g2,Lh,vc,U2,rfl,_,_,⟨b0,b1,b2,b3,b4,b5⟩,hu,_⟩:=(HU.out.then w8 HJ.out.2.1).op ho;obtain ⟨ac,cc,rfl⟩:=hu.shape;have HO:=Lib.hid ho;have HG:=Lib.hid hu;clear ho hu
     cases hr:Pn.cO o with
     | false =>
      have HN:Hid (false=q):=Lib.hid (by rw [← HQ.out,Pn.xg HX.out (Pn.Er HO.out hr)])
      go_wp2_with fail
      refine (En _ o _ U2 (HG.out.then pO ((aE.refl [] wi).alloc _))).mono ?_
      rintro e w3 ⟨rfl,k3⟩
      rw [hr];have K3:=Lib.hid ((HJ.out.1.alloc _).then k3);have K4:=Lib.hid ((HJ.out.2.1.alloc _).then k3);clear k3
      go_wp2_with fail
      go_ret
      exact ⟨dG HN.out,K3.out⟩
     | true =>
      go_wp2_with fail
      refine (En _ o _ U2 (HG.out.then pO ((aE.refl [] wi).alloc _))).mono ?_
      rintro e w3 ⟨rfl,k3⟩
      rw [hr];have K3:=Lib.hid ((HJ.out.1.alloc _).then k3);have K4:=Lib.hid ((HJ.out.2.1.alloc _).then k3);have Aj:=Lib.hid hr;clear k3 hr
      go_wp2_with fail
      go_roundw
      case rel=>exact ⟨j + 1,by omega,by go_num,Lib.hid ⟨K3.out,K4.out,fun i o2 hi h2=>by
       by_cases e:i=j
       ·subst e;rw [HO.out] at h2;cases h2;exact Aj.out
       ·exact HJ.out.2.2 i o2 (by omega) h2⟩⟩
      case measure=>simp [intOf];omega
    ·obtain rfl:j=l.length:=by omega
     have Ak:Hid (Pn.jA l=true):=Lib.hid (Pn.Et Ah HJ.out.2.2)
     go_wp2_with fail
     go_roundw
     case rel=>exact ⟨k + 1,by omega,by go_num,Lib.hid ⟨HJ.out.1,fun i l2 hi h2=>by
      by_cases e:i=k
      ·subst e;rw [HX.out] at h2;cases h2;exact Ak.out
      ·exact HI.out.2 i l2 (by omega) h2⟩⟩
     case measure=>simp [intOf];omega
  ·obtain rfl:k=p.length:=by omega
   have HN:Hid (true=q):=Lib.hid (by rw [← HQ.out,Pn.Ev oe xj HI.out.2])
   go_wp2_with fail
   go_ret
   exact ⟨dG HN.out,HI.out.1⟩
set_option maxHeartbeats 1600000 in
theorem Lj (w:World) (v:Value) (p:List (List Pn.Op)) (S:List Nat) (h:GV oL 1 w v p S) :
  Calls Tryz.prog 56 #[v] w fun e w'=>e=.returned (.bool (Pn.right p))∧aE [] w w':=by
 have hle:=h.le;unfold maxLen at hle;obtain ⟨ao,cap,rfl⟩:=h.shape;have HP:=Lib.hid h;obtain ⟨q,eD⟩:∃ q,Pn.right p=q:=⟨_,rfl⟩
 rw [eD];have HQ:=Lib.hid eD;clear h eD
 go_enter Tryz.func56,Tryz.ntmps56
 go_wp2_with fail
 go_loopw [9] (fun u wr=>∃ k:Nat,k≤p.length∧u=.int .i64 k∧Hid (aE [] w wr∧∀ (j:Nat) (l:List Pn.Op),j < k→p[j]?=some l→Pn.jA l=true)) (fun u _=>p.length - (intOf u).toNat)
 case atStart=>exact ⟨0,Nat.zero_le _,rfl,Lib.hid ⟨aE.refl _ _,fun j l hj=>by omega⟩⟩
 case round =>
  obtain ⟨k,hk,rfl,HI⟩:=hrel;obtain ⟨wo,rfl⟩:∃ wo:World,wo=wr:=⟨_,rfl⟩
  by_cases fo:k < p.length
  ·obtain ⟨l,hx⟩:∃ l,p[k]?=some l:=⟨_,List.getElem?_eq_getElem fo⟩
   obtain ⟨g1,Af,_,U1,rfl,_,_,a0,⟨v1,j8,oM⟩,_⟩:=(HP.out.then Ac HI.out.1).one hx
   cases j8;have lY:=oM.le;unfold maxLen at lY;obtain ⟨am,cm,rfl⟩:=oM.shape;have HU:=Lib.hid oM;have HX:=Lib.hid hx;clear hx oM
   go_wp2_with fail
   go_loopw [15] (fun u wr=>∃ j:Nat,j≤l.length∧u=.int .i64 j∧Hid (aE [] w wr∧aE [] wo wr∧∀ (i:Nat) (o:Pn.Op),i < j→l[i]?=some o→Pn.cO o=true)) (fun u _=>l.length - (intOf u).toNat)
   case atStart=>exact ⟨0,Nat.zero_le _,rfl,Lib.hid ⟨HI.out.1,aE.refl _ _,fun i o hi=>by omega⟩⟩
   case round =>
    obtain ⟨j,hj,rfl,HJ⟩:=hrel;obtain ⟨wi,rfl⟩:∃ wi:World,wi=wr:=⟨_,rfl⟩
    by_cases Ai:j < l.length
    ·obtain ⟨o,ho⟩:∃ o,l[j]?=some o:=⟨_,List.getElem?_eq_getElem Ai⟩
     obtain ⟨g2,Lh,vc,U2,rfl,_,_,⟨b0,b1,b2,b3,b4,b5⟩,hu,_⟩:=(HU.out.then w8 HJ.out.2.1).op ho;obtain ⟨ac,cc,rfl⟩:=hu.shape;have HO:=Lib.hid ho;have HG:=Lib.hid hu;clear ho hu
     cases hr:Pn.cO o with
     | false =>
      have HN:Hid (false=q):=Lib.hid (by rw [← HQ.out,Pn.xg HX.out (Pn.Er HO.out hr)])
      go_wp2_with fail
      refine (Ep _ o _ U2 (HG.out.then pO ((aE.refl [] wi).alloc _))).mono ?_
      rintro e w3 ⟨rfl,k3⟩
      rw [hr];have K3:=Lib.hid ((HJ.out.1.alloc _).then k3);have K4:=Lib.hid ((HJ.out.2.1.alloc _).then k3);clear k3
      go_wp2_with fail
      go_ret
      exact ⟨dG HN.out,K3.out⟩
     | true =>
      go_wp2_with fail
      refine (Ep _ o _ U2 (HG.out.then pO ((aE.refl [] wi).alloc _))).mono ?_
      rintro e w3 ⟨rfl,k3⟩
      rw [hr];have K3:=Lib.hid ((HJ.out.1.alloc _).then k3);have K4:=Lib.hid ((HJ.out.2.1.alloc _).then k3);have Aj:=Lib.hid hr;clear k3 hr
      go_wp2_with fail
      go_roundw
      case rel=>exact ⟨j + 1,by omega,by go_num,Lib.hid ⟨K3.out,K4.out,fun i o2 hi h2=>by
       by_cases e:i=j
       ·subst e;rw [HO.out] at h2;cases h2;exact Aj.out
       ·exact HJ.out.2.2 i o2 (by omega) h2⟩⟩
      case measure=>simp [intOf];omega
    ·obtain rfl:j=l.length:=by omega
     by_cases uY:16 < l.length
     ·have HN:Hid (false=q):=Lib.hid (by rw [← HQ.out,Pn.xg HX.out (Pn.Es uY)])
      go_wp2_with fail
      go_ret
      exact ⟨dG HN.out,HJ.out.1⟩
     have Ah:l.length≤16:=by omega
     clear uY;have Ak:Hid (Pn.jA l=true):=Lib.hid (Pn.Et Ah HJ.out.2.2)
     go_wp2_with fail
     go_roundw
     case rel=>exact ⟨k + 1,by omega,by go_num,Lib.hid ⟨HJ.out.1,fun i l2 hi h2=>by
      by_cases e:i=k
      ·subst e;rw [HX.out] at h2;cases h2;exact Ak.out
      ·exact HI.out.2 i l2 (by omega) h2⟩⟩
     case measure=>simp [intOf];omega
  ·obtain rfl:k=p.length:=by omega
   by_cases hlen:p.length < 1∨8 < p.length
   ·have HN:Hid (false=q):=Lib.hid (by rw [← HQ.out,Pn.Eu hlen]);rcases hlen with hl | hl
    ·go_wp2_with fail
     all_goals
      go_ret
      exact ⟨dG (by have h:=HN.out;subst h;first | rfl | (simp <;> omega)),HI.out.1⟩
    ·have oe:1≤p.length:=by omega
     go_wp2_with fail
     all_goals
      go_ret
      exact ⟨dG (by have h:=HN.out;subst h;first | rfl | (simp <;> omega)),HI.out.1⟩
   ·have oe:1≤p.length:=by omega
    have xj:p.length≤8:=by omega
    have HN:Hid (true=q):=Lib.hid (by rw [← HQ.out,Pn.Ev oe xj HI.out.2])
    go_wp2_with fail
    all_goals
     go_ret
     exact ⟨dG (by have h:=HN.out;subst h;first | rfl | (simp <;> omega)),HI.out.1⟩
open Go.RowKit
namespace Fl
open Sx
section
variable {α:Type} {E:World→List Value→α→List Nat→Prop} {enc:α→List A}
def Is (enc:α→List A) (E:World→List Value→α→List Nat→Prop):Prop :=
 ∀ (ok:Nat→Prop) (w:World) (cs:List Value) (a:α),RC ok w (enc a) cs→∃ U,E w cs a U∧∀ x∈U,ok x∧x < w.heap.size
theorem Is.parts (h:Is enc E) {ok:Nat→Prop} {w:World} {sz:Nat}:∀ {l:List α} {xs:List Value},RX ok w sz (l.map enc) xs→∃ S,nJ E sz w xs l S∧∀ x∈S,ok x∧x < w.heap.size
 | [],xs,r=>⟨[],fun k a hk=>by simp at hk,by simp⟩
 | a :: l,xs,r=>by
  obtain ⟨vs,ys,rfl,h2,h3,h4⟩:=r;obtain ⟨U,u1,u2⟩:=h ok w vs a h3;obtain ⟨S,s1,s2⟩:=Is.parts h h4;refine ⟨U ++ S,fun k b hk=>?_,fun x hx=>(List.mem_append.1 hx).elim (u2 x) (s2 x)⟩
  cases k with
  | zero =>
   simp at hk;subst hk;refine ⟨U,?_,fun x hx=>List.mem_append_left _ hx⟩;have:chunk (vs ++ ys) sz 0=vs:=by unfold chunk;simp [← h2]
   rw [this];exact u1
  | succ k =>
   simp at hk;obtain ⟨V,v1,v2⟩:=s1 k b hk;refine ⟨V,?_,fun x hx=>List.mem_append_right _ (v2 x hx)⟩;have:chunk (vs ++ ys) sz (k + 1)=chunk ys sz k:=by
    unfold chunk;rw [show (k + 1) * sz=vs.length + k * sz by rw [h2,Nat.add_mul];omega,List.drop_length_add_append]
   rw [this];exact v1
theorem RA.iE {ok:Nat→Prop} {w:World} {sz:Nat} {l:List (List A)} {x:Value} (h:RA ok w (.r sz l) x):∃ ys S,View w x sz l.length ys S∧RX ok w sz l ys∧∀ g∈S,ok g∧g < w.heap.size:=by
 obtain ⟨ys,S,v1,v2,v3⟩:=h.view;exact ⟨ys,S,v1,v2,fun g hg=>⟨v3 g hg,v1.lt g hg⟩⟩
theorem Is.gv (h:Is enc E) {ok:Nat→Prop} {w:World} {sz:Nat} {l:List α} {v:Value} (r:RA ok w (.r sz (l.map enc)) v):∃ S,GV E sz w v l S∧∀ x∈S,ok x∧x < w.heap.size:=by
 obtain ⟨ys,T,v1,v2,v3⟩:=r.iE;rw [List.length_map] at v1;obtain ⟨S,s1,s2⟩:=h.parts v2;exact ⟨T ++ S,⟨ys,T,v1,s1.mono fun x hx=>List.mem_append_right _ hx,fun x hx=>List.mem_append_left _ hx,fun x hx=>(List.mem_append.1 hx).elim (fun h=>(v3 x h).2) (fun h=>(s2 x h).2),v2.one⟩,fun x hx=>(List.mem_append.1 hx).elim (v3 x) (s2 x)⟩
theorem Is.row (h:Is enc E) {sz:Nat}:Is (fun l:List α=>[A.r sz (l.map enc)]) (mT E sz):=fun ok w cs l r=>by
 unfold RC at r;obtain ⟨x,xs,rfl,r1,r2⟩:=r;unfold RC at r2;subst r2;obtain ⟨S,s1,s2⟩:=h.gv r1;exact ⟨S,⟨x,rfl,s1⟩,s2⟩
end
theorem RC.c1 {ok:Nat→Prop} {w:World} {v:Value} {iY:List A} {cs:List Value} (h:RC ok w (.v v :: iY) cs):∃ ys,cs=v :: ys∧RC ok w iY ys:=by
 unfold RC at h;obtain ⟨x,xs,rfl,h1,h2⟩:=h;unfold RA at h1;exact ⟨xs,by rw [h1.1],h2⟩
theorem RC.n0 {ok:Nat→Prop} {w:World} {cs:List Value} (h:RC ok w [] cs):cs=[]:=by unfold RC at h;exact h
theorem Lk:Is o9 jV:=fun ok w cs c r=>by
 obtain ⟨y1,e1,r1⟩:=RC.c1 (iY:=[nI c.ch,nI c.v]) r;obtain ⟨y2,e2,r2⟩:=r1.c1;obtain ⟨y3,e3,r3⟩:=r2.c1;have e4:=r3.n0;subst e4 e3 e2;exact ⟨[],⟨e1,rfl⟩,by simp⟩
theorem Lm:Is cC sF:=fun ok w cs o r=>by
 obtain ⟨y1,e1,r1⟩:=RC.c1 (iY:=[nI o.ch,nI o.n,nI o.v,.r 3 (o.cases.map o9),bI o.cQ]) r;obtain ⟨y2,e2,r2⟩:=r1.c1;obtain ⟨y3,e3,r3⟩:=r2.c1;obtain ⟨y4,e4,r4⟩:=r3.c1;unfold RC at r4;obtain ⟨x,y5,e5,r5,r6⟩:=r4;obtain ⟨y6,e6,r7⟩:=r6.c1;have e7:=r7.n0;obtain ⟨S,s1,s2⟩:=Lk.gv r5;subst e7 e6 e5 e4 e3 e2;exact ⟨S,⟨x,e1,s1⟩,s2⟩
theorem Ln:Is (fun l:List Pn.Op=>[A.r 6 (l.map cC)]) oL:=Lm.row
theorem Ew {ok:Nat→Prop} {w:World} {p:List (List Pn.Op)} {v:Value} (r:RA ok w (kN p) v):∃ S,GV oL 1 w v p S∧∀ x∈S,ok x∧x < w.heap.size:=Ln.gv r
theorem bO.c {ok:Nat→Prop} {w:World} {a:A} {ds:List D} {xs:List Value} (h:bO ok w (.c a :: ds) xs):∃ x ys,xs=x :: ys∧RA ok w a x∧bO ok w ds ys:=by
 unfold bO at h;obtain ⟨x,ys,rfl,h1,h2⟩:=h;unfold RD at h1;exact ⟨x,ys,rfl,h1,h2⟩
theorem Lp (p:List (List Pn.Op)):Pure Tryz.prog 64 [.c (kN p)] (.c (bI (Pn.right p))) :=
 aq.plain fun ok e xs hd=>by
  obtain ⟨v,ys,rfl,r,h⟩:=hd.c;rw [h.CE];obtain ⟨S,s1,s2⟩:=Ew r;refine (Lg e v p S s1).mono ?_
  rintro en w' ⟨rfl,k⟩
  exact ⟨_,rfl,k,RD.v rfl⟩
theorem Ls (p:List (List Pn.Op)):Pure Tryz.prog 56 [.c (kN p)] (.c (bI (Pn.right p))) :=
 aq.plain fun ok e xs hd=>by
  obtain ⟨v,ys,rfl,r,h⟩:=hd.c;rw [h.CE];obtain ⟨S,s1,s2⟩:=Ew r;refine (Lj e v p S s1).mono ?_
  rintro en w' ⟨rfl,k⟩
  exact ⟨_,rfl,k,RD.v rfl⟩
end Fl
open Go.RowKit
namespace Fl
open Sx
set_option maxRecDepth 100000
section
variable {P:Program} {c:Cx} {k:List Item} {f:Fm} {L L2:List ak} {T:TypeId} {ps:String} {af:Array Edge} {gd:Option (Nat × Bool)} {t:Nat}
theorem Ld.jm {F:FuncId} {args:List Operand} {tys:Array TypeId} {cM ds:List D} {ι:Type} {dd:ι→D} {r:ι→ak} [i:aK P F] (hC:aq P F ds [] (fun x=>(dd x,[r x]))) (ht:t < c.N) (h:gq f args=some cM) (hle:br cM ds) :
  Ld P c ⟨some t,.call ⟨.value (.func F),args.toArray,tys⟩,T,ps,af,gd⟩ f L [] (fun x=>(t,dd x) :: f) (fun x=>r x :: L) :=
 Ld.call (P:=P) (c:=c) (T:=T) (ps:=ps) (af:=af) (gd:=gd) (L:=L) (f:=f) (tys:=tys) hC ht h hle (Ll:=[]) (Lr:=L) rfl
theorem bu {r:ak} {T' L L':List ak} (i:Nat) (h:L[i]?=some r) (e:L.eraseIdx i=L') (k:T'.Perm L'):(r :: T').Perm L:=by
 subst e;exact (k.cons r).trans (nN L i h)
theorem J.Ex {Φ:World→List Nat→Prop} (zl:rQ Φ) (h0:∀ w,Φ w []) (h:J P c k f (aL Φ [] :: L)):J P c k f L:=⟨fun a w s=>by
 have hf:aS (aL Φ [] :: L)=aS L:=by simp [aS,aL,ak.bR]
 have ho:aZ c (aL Φ [] :: L)=aZ c L:=by funext x;unfold aZ;rw [hf]
 refine h.go a w ⟨s.kp,s.size,s.iS,fun q hq=>?_,fun x hx=>s.ez x (hf ▸ hx),List.pairwise_cons.2 ⟨fun q _ x hx=>by simp [aL,ak.bR] at hx,s.ap⟩,fun t d ht=>by rw [ho];exact s.fr t d ht⟩;rw [ho];rcases List.mem_cons.1 hq with rfl | hq
 ·exact (aL.holds zl).2 (h0 w)
 ·exact s.res q hq⟩
theorem J.Ey (e sz:Nat):∀ (m:Nat) {A:List ak},J P c k f (A ++ List.replicate m (.row (.slice none 0 0) e sz []))→J P c k f A
 | 0,A,h=>by simpa using h
 | m + 1,A,h=>J.Ey e sz m (J.gB e sz (J.perm (by rw [List.replicate_succ];exact List.perm_middle) h))
end
theorem tR.none (w:World):tR [] w []:=⟨[],rfl,rfl,List.Pairwise.nil,fun i x Si h=>by simp at h⟩
theorem Lu (b:Nat) (u:U) (s:ah) (g:Nat) (B:List (Int × Bool)) (R:List ak) (hg:g < s.gs.length) (n1:u.sg g=.slice none 0 0) (n2:u.wk g=.slice none 0 0) :
  aq Tryz.prog 67 [.c (.v (pt b)),.c (nI g)] (wl b u s (fB u s) B R) (fun _:Unit=>(.aY [],wl b u (Sx.clear s g) (fB u (Sx.clear s g)) B R)):=by
 refine aq.intro Tryz.func67 rfl rfl rfl (fun ok e=>?_);have OW:∀ x:Int,x=g→0≤x∧x < (fB u s).length:=fun x hx=>by rw [qD];omega
 have A:=zm (u:=u) hg;have HQ:((g:Int)).toNat < (fB u s).length:=by rw [qD];omega
 repeat (first | (refine K.indexAddr ?_;refine jq rfl rfl rfl (Qt.cB rfl rfl (OW _ rfl).1 (OW _ rfl).2) ?_) | refine gn ?_)
 refine J.draw (by kernel_rfl) rfl ?_;refine JW.base (some 24) ?_;refine tk 0 ?_;refine tk 1 ?_;refine tk 2 ?_;refine tk 3 ?_;refine JD.take 4 rfl rfl (by kernel_rfl) rfl (qb rfl) (Qt.dx rfl A rfl) rfl ?_;refine tk 5 ?_;refine tk 6 ?_;refine tk 7 ?_;refine JD.take 8 rfl rfl (by kernel_rfl) rfl (qb rfl) (Qt.dx rfl A rfl) rfl ?_;refine tk 9 ?_;refine tk 10 ?_;refine tk 11 ?_;refine JD.take 12 rfl rfl (by kernel_rfl) rfl (qb rfl) (Qt.dx rfl A rfl) rfl ?_;refine tk 13 ?_;refine tk 14 ?_;refine tk 15 ?_;refine JD.take 16 rfl rfl (by kernel_rfl) rfl (qb rfl) (Qt.dx rfl A rfl) rfl ?_;refine tk 17 ?_;refine tk 18 ?_;refine tk 19 ?_;refine JD.take 20 rfl rfl (by kernel_rfl) rfl (qb rfl) (Qt.dx rfl A rfl) rfl ?_;refine tk 21 ?_;refine JD.take 22 rfl rfl (by kernel_rfl) rfl (qb rfl) (Qt.le (.agg (gW (ja (aa s g)) (.slice none 0 0) (.slice none 0 0))) (Qt.build rfl (by kernel_rfl)) (.agg (by repeat (first | exact .nil | refine .cons .refl ?_ | refine .cons .nil ?_)))) rfl ?_;refine tk 23 ?_;refine jt 24 rfl rfl (Ld.dV rfl rfl rfl rfl HQ) (fun _=>?_);refine bz ?_;have h1:fB u (Sx.clear s g)=(fB u s).set g (gW (ja (aa s g)) (.slice none 0 0) (.slice none 0 0)):=by
  have:=Jd (u:=u) (x:=ja (aa s g)) hg;rw [n1,n2] at this;exact this.symm
 refine J.dj (show wl b u (Sx.clear s g) (fB u (Sx.clear s g)) B R=wl b u s ((fB u s).set g (gW (ja (aa s g)) (.slice none 0 0) (.slice none 0 0))) B R by rw [h1];rfl) ?_
 (exact J.yR Tryz.func67 rfl .nil () (by exact .refl) rfl)
def zG (ops:List Pn.Op):Gr:=⟨ops,0,0,0,false,0,false,0,0,0,0,0,0,0,0,⟨0,0,0,false,0⟩,[],[],[],[],0⟩
def nS (p:List (List Pn.Op)) (sn cn:Nat) (d:List Int) (k:Nat):ah:={ Sx.start p sn cn d with gs:=(p.take k).map (clean · 0) }
theorem Al {p:List (List Pn.Op)} (h:Pn.right p=true):1≤p.length∧p.length≤8∧∀ ops∈p,ops.length≤16∧∀ o∈ops,o.cases.length≤6:=by
 unfold Pn.right at h;rw [decide_eq_true_iff] at h;refine ⟨h.1,h.2.1,fun ops ho=>?_⟩;have h2:=h.2.2 ops ho;unfold Pn.jA at h2;rw [decide_eq_true_iff] at h2;refine ⟨h2.1,fun o kO=>?_⟩;have h3:=h2.2 o kO;unfold Pn.cO at h3;rw [decide_eq_true_iff] at h3;exact h3.2.2.2.2.2.2.2.2.1
theorem uZ (b:Nat) (u:U) (p:List (List Pn.Op)) (sn cn:Nat) (d:List Int) (B:List (Int × Bool)) (hH:u.H=List.replicate sn false):wl b u (nS p sn cn d 0) [] B [] =
  [.box b 87 [nI sn,nI cn,nI 0,.v u.vG,.v u.pB,.v u.vR,.v u.vC,.v u.pL,.v u.pQ,.v u.vS,.v u.pP,.v (pt u.bD),iu d,.v u.vM],
   .row u.vG 55 25 [],.row u.vR 104 1 [],.row u.vC 4 1 [],
   .row u.vS 60 7 (List.replicate sn (vs [.bool false,.int .i64 0,.int .i64 0,.int .i64 0,.bool false,.int .i64 0,.bool false])),.row u.vM 46 13 [],
   .box u.bD 132 [iu d,nI 0],aL (tB u.pB B) u.TB,aL (tL u.pL []) u.TL,aL (tQ u.pQ sn (List.replicate 16 [])) u.TQ,aL (tP u.pP sn cn (Po.new sn p.length)) u.TP,aL (tR []) u.TR]:=by
 have e1:(nS p sn cn d 0).aD.map eS=List.replicate sn (vs [.bool false,.int .i64 0,.int .i64 0,.int .i64 0,.bool false,.int .i64 0,.bool false]):=by
  simp [nS,Sx.start,List.map_replicate,eS,dX,nI,bI,vs]
 have e2:iI u (nS p sn cn d 0)=Po.new sn p.length:=by
  unfold iI Po.new;rw [hH];have:(nS p sn cn d 0).cache=List.replicate p.length []:=by simp [nS,Sx.start,List.map_const']
  rw [this];rfl
 have e3:(nS p sn cn d 0).aD.length=sn:=by simp [nS,Sx.start]
 unfold wl;rw [e1,e2,e3];rfl
@[reducible] def uN (u:U) (v:Value):U:={ u with vG:=v,sg:=fun _=>.slice none 0 0,wk:=fun _=>.slice none 0 0 }
theorem Ez (p:List (List Pn.Op)) (sn cn:Nat) (d:List Int) {k:Nat} (hk:k≤p.length):(nS p sn cn d k).gs.length=k:=by simp [nS];omega
def mS (p:List (List Pn.Op)) (sn cn:Nat) (d:List Int) (k:Nat) (ops:List Pn.Op):ah:={ Sx.start p sn cn d with gs:=(p.take k).map (clean · 0) ++ [zG ops] }
theorem Lv (u:U) (v:Value) (p:List (List Pn.Op)) (sn cn:Nat) (d:List Int) {k:Nat} (hk:k < p.length) (ops:List Pn.Op):fB (uN u v) (mS p sn cn d k ops)=fB (uN u v) (nS p sn cn d k) ++ [gW (zG ops) (.slice none 0 0) (.slice none 0 0)]:=by
 have hl:((p.take k).map (clean · 0)).length=k:=by simp;omega
 have h1:(mS p sn cn d k ops).gs.length=k + 1:=by simp [mS];omega
 unfold fB;rw [h1,Ez p sn cn d (by omega),List.range_succ,List.map_append,List.map_cons,List.map_nil]
 congr 1
 ·refine List.map_congr_left fun j hj=>?_
  have hj:j < k:=by simpa using hj
  have:aa (mS p sn cn d k ops) j=aa (nS p sn cn d k) j:=by
   unfold aa;rw [List.getD_eq_getElem?_getD,List.getD_eq_getElem?_getD]
   show (((p.take k).map (clean · 0) ++ [zG ops])[j]?).getD _=(((p.take k).map (clean · 0))[j]?).getD _;rw [List.getElem?_append_left (by omega)]
  rw [this]
 ·have:aa (mS p sn cn d k ops) k=zG ops:=by
   unfold aa;rw [List.getD_eq_getElem?_getD]
   show (((p.take k).map (clean · 0) ++ [zG ops])[k]?).getD _=_;rw [List.getElem?_append_right (by omega),hl];simp
  rw [this]
theorem Lw (p:List (List Pn.Op)) (sn cn:Nat) (d:List Int) {k:Nat} (ops:List Pn.Op) (ho:p[k]?=some ops):Sx.clear (mS p sn cn d k ops) k=nS p sn cn d (k + 1):=by
 have hk:=(List.getElem?_eq_some_iff.1 ho).1;have hl:((p.take k).map (clean · 0)).length=k:=by simp;omega
 have:aa (mS p sn cn d k ops) k=zG ops:=by
  unfold aa;rw [List.getD_eq_getElem?_getD]
  show (((p.take k).map (clean · 0) ++ [zG ops])[k]?).getD _=_;rw [List.getElem?_append_right (by omega),hl];simp
 unfold Sx.clear;rw [this];unfold ai nS;have e:(mS p sn cn d k ops).gs.set k (ja (zG ops))=(p.take (k + 1)).map (clean · 0):=by
  show ((p.take k).map (clean · 0) ++ [zG ops]).set k _=_;rw [List.set_append_right _ _ (by omega),hl,List.take_add_one,ho,List.map_append];simp [ja,zG,clean]
 rw [e];rfl
theorem Lx (u:U) (v:Value) (p:List (List Pn.Op)) (sn cn:Nat) (d:List Int):ni (uN u v) (Sx.start p sn cn d)=List.replicate (p.length + p.length) (.row (.slice none 0 0) 3 1 []):=by
 have hl:(Sx.start p sn cn d).gs.length=p.length:=by simp [Sx.start]
 have h:∀ j,j < p.length→(aa (Sx.start p sn cn d) j).au=[]∧(aa (Sx.start p sn cn d) j).an=[]:=fun j hj=>by
  have:aa (Sx.start p sn cn d) j=clean p[j] 0:=by
   unfold aa;rw [List.getD_eq_getElem?_getD]
   show ((p.map (clean · 0))[j]?).getD _=_;rw [List.getElem?_map,List.getElem?_eq_getElem hj];rfl
  rw [this];exact ⟨rfl,rfl⟩
 unfold ni;rw [hl,← List.replicate_append_replicate]
 congr 1
 ·refine List.eq_replicate_iff.2 ⟨by simp,fun x hx=>?_⟩;obtain ⟨j,hj,rfl⟩:=List.mem_map.1 hx;rw [(h j (by simpa using hj)).1];rfl
 ·refine List.eq_replicate_iff.2 ⟨by simp,fun x hx=>?_⟩;obtain ⟨j,hj,rfl⟩:=List.mem_map.1 hx;rw [(h j (by simpa using hj)).2];rfl
theorem Ly (p:List (List Pn.Op)) (sn cn:Nat) (d:List Int) (h:p.length≤8):Bc.gz p.length=(Sx.start p sn cn d).gs.map fun x=>(x.status,x.token):=by
 unfold Bc.gz;rw [show (max 0 (min (p.length:Int) 4096)).toNat=p.length by omega];simp [Sx.start,List.map_map,Function.comp_def,clean,List.map_const']
theorem Lz (p:List (List Pn.Op)) (sn cn:Nat) (d:List Int):nS p sn cn d p.length=Sx.start p sn cn d:=by
 unfold nS;rw [List.take_of_length_le (Nat.le_refl _)];rfl
theorem LA (p:List (List Pn.Op)) (sn cn:Nat) (d:List Int) (hr:Pn.right p=true) (hs:sn≤64) (h1:1≤cn) (h2:cn≤16) (hd:d.length≤100000) :
  aq Tryz.prog 27 [.c (kN p),.agg [nI sn,nI cn],.c (iu d)] [] (fun x:Nat × U=>(.aY [.c (.v (pt x.1)),.c (nI 0)],wd x.1 x.2 (Sx.start p sn cn d))):=by
 obtain ⟨r1,r2,r3⟩:=Al hr;have CR:=Lp p;rw [hr] at CR;have CP:=I6 sn p.length cn hs r2 h1 h2;have CQ:=Cf sn 16 hs (by omega);have CC:=zn p (by omega) (fun ops ho=>⟨by have:=(r3 ops ho).1;omega,fun o kO=>by have:=(r3 ops ho).2 o kO;omega⟩);have CL:=B4 0;rw [show Lt.gz 0=[] by decide] at CL;have CB:=Ck (p.length:Int);have CD:=CJ d hd;refine aq.intro Tryz.func27 rfl rfl rfl (fun ok e=>?_)
 repeat (first | (refine K.call ?_;first | (refine JO.ld (Ld.jm CP (qb rfl) rfl (.cons .refl (.cons .refl (.cons .refl .nil)))) rfl ?_;intro xP) | (refine JO.ld (Ld.jm CQ (qb rfl) rfl (.cons .refl (.cons .refl .nil))) rfl ?_;intro xQ)) | refine av ?_ | intro _)
 refine J.join (ι:=Nat × U) (fun x=>[(11,.c (.v (pt x.1))),(0,.c (kN p))]) (fun x=>wl x.1 (uN x.2 (.slice none 0 0)) (nS p sn cn d 0) [] (Bc.gz p.length) []) (fun x=>?rest) (fun rest=>?_)
 case rest =>
  obtain ⟨b,u⟩:=x
  repeat (refine gn ?_)
  refine J.loop (ι:={ q:Nat × Value // q.1≤p.length }) (fun q=>[(58,.c (nI q.1.1)),(57,.c (nI p.length)),(56,.c (kN p)),(11,.c (.v (pt b)))]) (fun q=>wl b (uN u q.1.2) (nS p sn cn d q.1.1) (fB (uN u q.1.2) (nS p sn cn d q.1.1)) (Bc.gz p.length) []) (fun q=>p.length - q.1.1) ⟨(0,.slice none 0 0),Nat.zero_le _⟩ (fun X h=>h.aQ ⟨rfl,rfl,rfl,rfl,trivial⟩) (fun q ih=>?_);obtain ⟨⟨k,v⟩,hk⟩:=q;simp only at hk ih ⊢
  by_cases aN:k < p.length
  ·have t1:(decide ((k:Int) < (p.length:Int)))=true:=by simpa using aN
   obtain ⟨ops,ho⟩:∃ ops,p[k]?=some ops:=⟨_,List.getElem?_eq_getElem aN⟩
   have J1:(p.map fun ops=>[A.r 6 (ops.map cC)])[((k:Int)).toNat]?=some [A.r 6 (ops.map cC)]:=by rw [Int.toNat_natCast,List.getElem?_map,ho];rfl
   have tj:(fB (uN u v) (nS p sn cn d k)).length=k:=by rw [qD,Ez p sn cn d hk]
   repeat (first | (refine K.store ?_;refine JO.ld (Ld.cr rfl rfl (by exact rfl)) rfl (fun _=>?_)) | (refine K.build ?_;refine jq rfl rfl rfl ((Qt.le (.agg (gW (zG ops) (.slice none 0 0) (.slice none 0 0))) (Qt.build rfl (by kernel_rfl)) (.agg (by repeat (first | exact .nil | refine .cons .refl ?_ | refine .cons .nil ?_))))) ?_) | (refine K.bi ?_;refine JO.ld (Ld.bH (qb rfl) rfl rfl .bV (by (simp;omega))) rfl (fun _=>?_)) | refine av ?_ | intro _)
   rename_i bl v2 _;have CK:=Lu b (uN u v2) (mS p sn cn d k ops) k (Bc.gz p.length) [.row (.slice (some ⟨bl,0,none⟩) 1 1) 55 25 [gW (zG ops) (.slice none 0 0) (.slice none 0 0)]] (by simp [mS];omega) rfl rfl;rw [Lw p sn cn d ops ho,Lv u v2 p sn cn d aN] at CK;refine JO.ld (Ld.perm ?_ (Ld.gy CK (qb rfl) rfl (.cons .refl (.cons .refl .nil)))) rfl ?_
   ·repeat (first | exact List.Perm.refl _ | refine bu 0 rfl rfl ?_ | refine bu 1 rfl rfl ?_ | refine bu 2 rfl rfl ?_)
   intro _
   repeat (refine gn ?_)
   refine J.eI 12 ?_;exact (ih ⟨(k + 1,v2),by simp only;omega⟩ (by simp only;omega)).aQ ⟨rfl,rfl,rfl,rfl,trivial⟩
  ·have t1:(decide ((k:Int) < (p.length:Int)))=false:=by simpa using aN
   obtain rfl:k=p.length:=by omega
   repeat (refine gn ?_)
   refine J.Ey 3 1 (p.length + p.length) ?_;rw [Lz,Ly p sn cn d r2,← Lx u v p sn cn d]
   (exact J.cS Tryz.func27 rfl (.cons (.tmp rfl) (.cons (.tmp rfl) .nil)) (b,uN u v) (by exact .refl) rfl)
 refine J.draw (by kernel_rfl) rfl ?_;refine JW.base none ?_;refine tk 0 ?_;refine tk 1 ?_;refine tk 2 ?_;refine tk 5 ?_;refine tk 6 ?_;refine tk 7 ?_;refine tk 9 ?_;refine tk 10 ?_;refine tk 12 ?_;refine JD.cy (i:=3) (j:=8) (by kernel_rfl) ?_ ?_;refine JS.bt rfl rfl rfl (qb rfl) (Ld.jm CB (qb rfl) rfl (.cons .refl .nil)) .none (fun _=>?_);refine JD.cy (i:=4) (j:=8) (by kernel_rfl) ?_ ?_;refine JS.bt rfl rfl rfl (qb rfl) (Ld.jm CL (qb rfl) rfl (.cons .refl .nil)) .none (fun _=>?_);refine JD.cy (i:=8) (j:=11) (by kernel_rfl) ?_ ?_;refine JS.bt rfl rfl rfl (qb rfl) (Ld.make sn (qb rfl) rfl rfl rfl (by omega)) .none (fun _=>?_);refine jl 11 rfl rfl rfl rfl (Ld.jm CD (qb rfl) rfl (.cons .refl .nil)) .none (fun _=>?_);refine jl 13 rfl rfl rfl rfl (Ld.dO (qb rfl) rfl rfl .read (by (simp;omega))) .none (fun _=>?_);refine jk 14 rfl rfl rfl rfl (Qt.build rfl (by kernel_rfl)) ?_;refine jl 15 rfl rfl rfl rfl (Ld.box (qb rfl) rfl rfl) .none (fun _=>?_);refine jk 16 rfl rfl rfl rfl (Qt.assign rfl) ?_;refine bP ?_
 rotate_left
 refine JS.bt rfl rfl rfl (qb rfl) (Ld.jm CD (qb rfl) rfl (.cons .refl .nil)) .none (fun _=>?_);refine JD.cy (i:=8) (j:=13) (by kernel_rfl) ?_ ?_;refine JS.bt rfl rfl rfl (qb rfl) (Ld.make sn (qb rfl) rfl rfl rfl (by omega)) .none (fun _=>?_);refine jl 13 rfl rfl rfl rfl (Ld.dO (qb rfl) rfl rfl .read (by (simp;omega))) .none (fun _=>?_);refine jk 14 rfl rfl rfl rfl (Qt.build rfl (by kernel_rfl)) ?_;refine jl 15 rfl rfl rfl rfl (Ld.box (qb rfl) rfl rfl) .none (fun _=>?_);refine jk 16 rfl rfl rfl rfl (Qt.assign rfl) ?_;refine bP ?_
 rotate_left
 refine JS.bt rfl rfl rfl (qb rfl) (Ld.dO (qb rfl) rfl rfl .read (by (simp;omega))) .none (fun _=>?_);refine jl 8 rfl rfl rfl rfl (Ld.make sn (qb rfl) rfl rfl rfl (by omega)) .none (fun _=>?_);refine jk 14 rfl rfl rfl rfl (Qt.build rfl (by kernel_rfl)) ?_;refine jl 15 rfl rfl rfl rfl (Ld.box (qb rfl) rfl rfl) .none (fun _=>?_);refine jk 16 rfl rfl rfl rfl (Qt.assign rfl) ?_;refine bP ?_
 rotate_left
 refine JS.bt rfl rfl rfl (qb rfl) (Ld.make sn (qb rfl) rfl rfl rfl (by omega)) .none (fun _=>?_);refine jl 4 rfl rfl rfl rfl (Ld.jm CL (qb rfl) rfl (.cons .refl .nil)) .none (fun _=>?_);refine jl 11 rfl rfl rfl rfl (Ld.jm CD (qb rfl) rfl (.cons .refl .nil)) .none (fun _=>?_);refine jl 13 rfl rfl rfl rfl (Ld.dO (qb rfl) rfl rfl .read (by (simp;omega))) .none (fun _=>?_);refine jk 14 rfl rfl rfl rfl (Qt.build rfl (by kernel_rfl)) ?_;refine jl 15 rfl rfl rfl rfl (Ld.box (qb rfl) rfl rfl) .none (fun _=>?_);refine jk 16 rfl rfl rfl rfl (Qt.assign rfl) ?_;refine bP ?_
 rotate_left
 refine JS.bt rfl rfl rfl (qb rfl) (Ld.make sn (qb rfl) rfl rfl rfl (by omega)) .none (fun _=>?_);refine jl 3 rfl rfl rfl rfl (Ld.jm CB (qb rfl) rfl (.cons .refl .nil)) .none (fun _=>?_);refine jl 4 rfl rfl rfl rfl (Ld.jm CL (qb rfl) rfl (.cons .refl .nil)) .none (fun _=>?_);refine jl 11 rfl rfl rfl rfl (Ld.jm CD (qb rfl) rfl (.cons .refl .nil)) .none (fun _=>?_);refine jl 13 rfl rfl rfl rfl (Ld.dO (qb rfl) rfl rfl .read (by (simp;omega))) .none (fun _=>?_);refine jk 14 rfl rfl rfl rfl (Qt.build rfl (by kernel_rfl)) ?_;refine jl 15 rfl rfl rfl rfl (Ld.box (qb rfl) rfl rfl) .none (fun _=>?_);refine jk 16 rfl rfl rfl rfl (Qt.assign rfl) ?_;refine bP ?_
 rotate_left
 all_goals
  refine J.eI 7 ?_;refine J.gB 55 25 ?_;refine J.gB 104 1 ?_;refine J.gB 4 1 ?_;refine J.gB 46 13 ?_;refine J.Ex (Φ:=tR []) tR.ok tR.none ?_
  first
   | (rename_i bS xB xL bD _ bW;refine J.perm ?_ (J.dj (uZ bW ⟨.slice none 0 0,xB.1,.slice none 0 0,.slice none 0 0,xL.1,xQ.1,.slice (some ⟨bS,0,none⟩) sn sn,xP.1,bD,.slice none 0 0,xB.2,xL.2,xQ.2,xP.2,[],List.replicate sn false,fun _=>.slice none 0 0,fun _=>.slice none 0 0,fun _=>.slice none 0 0⟩ p sn cn d (Bc.gz p.length) rfl) ((rest (bW,⟨.slice none 0 0,xB.1,.slice none 0 0,.slice none 0 0,xL.1,xQ.1,.slice (some ⟨bS,0,none⟩) sn sn,xP.1,bD,.slice none 0 0,xB.2,xL.2,xQ.2,xP.2,[],List.replicate sn false,fun _=>.slice none 0 0,fun _=>.slice none 0 0,fun _=>.slice none 0 0⟩)).aQ ⟨rfl,rfl,trivial⟩));(repeat (first | exact List.Perm.refl _ | refine bu 0 rfl rfl ?_ | refine bu 1 rfl rfl ?_ | refine bu 2 rfl rfl ?_ | refine bu 3 rfl rfl ?_ | refine bu 4 rfl rfl ?_ | refine bu 5 rfl rfl ?_ | refine bu 6 rfl rfl ?_ | refine bu 7 rfl rfl ?_ | refine bu 8 rfl rfl ?_ | refine bu 9 rfl rfl ?_ | refine bu 10 rfl rfl ?_ | refine bu 11 rfl rfl ?_));done)
   | (rename_i xB bS xL bD _ bW;refine J.perm ?_ (J.dj (uZ bW ⟨.slice none 0 0,xB.1,.slice none 0 0,.slice none 0 0,xL.1,xQ.1,.slice (some ⟨bS,0,none⟩) sn sn,xP.1,bD,.slice none 0 0,xB.2,xL.2,xQ.2,xP.2,[],List.replicate sn false,fun _=>.slice none 0 0,fun _=>.slice none 0 0,fun _=>.slice none 0 0⟩ p sn cn d (Bc.gz p.length) rfl) ((rest (bW,⟨.slice none 0 0,xB.1,.slice none 0 0,.slice none 0 0,xL.1,xQ.1,.slice (some ⟨bS,0,none⟩) sn sn,xP.1,bD,.slice none 0 0,xB.2,xL.2,xQ.2,xP.2,[],List.replicate sn false,fun _=>.slice none 0 0,fun _=>.slice none 0 0,fun _=>.slice none 0 0⟩)).aQ ⟨rfl,rfl,trivial⟩));(repeat (first | exact List.Perm.refl _ | refine bu 0 rfl rfl ?_ | refine bu 1 rfl rfl ?_ | refine bu 2 rfl rfl ?_ | refine bu 3 rfl rfl ?_ | refine bu 4 rfl rfl ?_ | refine bu 5 rfl rfl ?_ | refine bu 6 rfl rfl ?_ | refine bu 7 rfl rfl ?_ | refine bu 8 rfl rfl ?_ | refine bu 9 rfl rfl ?_ | refine bu 10 rfl rfl ?_ | refine bu 11 rfl rfl ?_));done)
   | (rename_i xB xL bS bD _ bW;refine J.perm ?_ (J.dj (uZ bW ⟨.slice none 0 0,xB.1,.slice none 0 0,.slice none 0 0,xL.1,xQ.1,.slice (some ⟨bS,0,none⟩) sn sn,xP.1,bD,.slice none 0 0,xB.2,xL.2,xQ.2,xP.2,[],List.replicate sn false,fun _=>.slice none 0 0,fun _=>.slice none 0 0,fun _=>.slice none 0 0⟩ p sn cn d (Bc.gz p.length) rfl) ((rest (bW,⟨.slice none 0 0,xB.1,.slice none 0 0,.slice none 0 0,xL.1,xQ.1,.slice (some ⟨bS,0,none⟩) sn sn,xP.1,bD,.slice none 0 0,xB.2,xL.2,xQ.2,xP.2,[],List.replicate sn false,fun _=>.slice none 0 0,fun _=>.slice none 0 0,fun _=>.slice none 0 0⟩)).aQ ⟨rfl,rfl,trivial⟩));(repeat (first | exact List.Perm.refl _ | refine bu 0 rfl rfl ?_ | refine bu 1 rfl rfl ?_ | refine bu 2 rfl rfl ?_ | refine bu 3 rfl rfl ?_ | refine bu 4 rfl rfl ?_ | refine bu 5 rfl rfl ?_ | refine bu 6 rfl rfl ?_ | refine bu 7 rfl rfl ?_ | refine bu 8 rfl rfl ?_ | refine bu 9 rfl rfl ?_ | refine bu 10 rfl rfl ?_ | refine bu 11 rfl rfl ?_));done)
   | (rename_i xB xL bD bS _ bW;refine J.perm ?_ (J.dj (uZ bW ⟨.slice none 0 0,xB.1,.slice none 0 0,.slice none 0 0,xL.1,xQ.1,.slice (some ⟨bS,0,none⟩) sn sn,xP.1,bD,.slice none 0 0,xB.2,xL.2,xQ.2,xP.2,[],List.replicate sn false,fun _=>.slice none 0 0,fun _=>.slice none 0 0,fun _=>.slice none 0 0⟩ p sn cn d (Bc.gz p.length) rfl) ((rest (bW,⟨.slice none 0 0,xB.1,.slice none 0 0,.slice none 0 0,xL.1,xQ.1,.slice (some ⟨bS,0,none⟩) sn sn,xP.1,bD,.slice none 0 0,xB.2,xL.2,xQ.2,xP.2,[],List.replicate sn false,fun _=>.slice none 0 0,fun _=>.slice none 0 0,fun _=>.slice none 0 0⟩)).aQ ⟨rfl,rfl,trivial⟩));(repeat (first | exact List.Perm.refl _ | refine bu 0 rfl rfl ?_ | refine bu 1 rfl rfl ?_ | refine bu 2 rfl rfl ?_ | refine bu 3 rfl rfl ?_ | refine bu 4 rfl rfl ?_ | refine bu 5 rfl rfl ?_ | refine bu 6 rfl rfl ?_ | refine bu 7 rfl rfl ?_ | refine bu 8 rfl rfl ?_ | refine bu 9 rfl rfl ?_ | refine bu 10 rfl rfl ?_ | refine bu 11 rfl rfl ?_));done)
   | (rename_i xB xL bD _ bS bW;refine J.perm ?_ (J.dj (uZ bW ⟨.slice none 0 0,xB.1,.slice none 0 0,.slice none 0 0,xL.1,xQ.1,.slice (some ⟨bS,0,none⟩) sn sn,xP.1,bD,.slice none 0 0,xB.2,xL.2,xQ.2,xP.2,[],List.replicate sn false,fun _=>.slice none 0 0,fun _=>.slice none 0 0,fun _=>.slice none 0 0⟩ p sn cn d (Bc.gz p.length) rfl) ((rest (bW,⟨.slice none 0 0,xB.1,.slice none 0 0,.slice none 0 0,xL.1,xQ.1,.slice (some ⟨bS,0,none⟩) sn sn,xP.1,bD,.slice none 0 0,xB.2,xL.2,xQ.2,xP.2,[],List.replicate sn false,fun _=>.slice none 0 0,fun _=>.slice none 0 0,fun _=>.slice none 0 0⟩)).aQ ⟨rfl,rfl,trivial⟩));(repeat (first | exact List.Perm.refl _ | refine bu 0 rfl rfl ?_ | refine bu 1 rfl rfl ?_ | refine bu 2 rfl rfl ?_ | refine bu 3 rfl rfl ?_ | refine bu 4 rfl rfl ?_ | refine bu 5 rfl rfl ?_ | refine bu 6 rfl rfl ?_ | refine bu 7 rfl rfl ?_ | refine bu 8 rfl rfl ?_ | refine bu 9 rfl rfl ?_ | refine bu 10 rfl rfl ?_ | refine bu 11 rfl rfl ?_));done)
end Fl
open Go.RowKit
namespace Fl
open Sx
set_option maxRecDepth 100000
section
variable {P:Program} {c:Cx} {f:Fm} {L:List ak} {T:TypeId} {ps:String} {af:Array Edge} {gd:Option (Nat × Bool)} {t:Nat}
theorem Qt.pU {x y:Operand} {X Y:Nat} {kd:IntKind} {m:Int} (h:aP f x=some (.c (.v (.int kd m)))) (hy:aP f y=some (.c (.v (.int kd m)))):Qt P c [] ⟨t,.binOp .neq X x y Y,T,ps,af,gd⟩ f L (.c (.v (.bool false))) :=
 Qt.cmp h hy (by simp [rz])
theorem Qt.LC {x y:Operand} {X Y:Nat} {kd:IntKind} {m:Int} (h:aP f x=some (.c (.v (.int kd m)))) (hy:aP f y=some (.c (.v (.int kd m)))):Qt P c [] ⟨t,.binOp .eql X x y Y,T,ps,af,gd⟩ f L (.c (.v (.bool true))) :=
 Qt.cmp h hy (by simp [rz])
theorem Qt.EA {x y:Operand} {X Y:Nat} {m:Bool} [i:tr P X] (h:aP f x=some (.c (.v (.bool m)))) (hy:aP f y=some (.c (.v (.bool m)))):Qt P c [] ⟨t,.binOp .neq X x y Y,T,ps,af,gd⟩ f L (.c (.v (.bool false))) :=
 (Qt.tA h hy).eq (by simp)
theorem Qt.LD {x y:Operand} {X Y:Nat} {m:Bool} [i:tr P X] (h:aP f x=some (.c (.v (.bool m)))) (hy:aP f y=some (.c (.v (.bool m)))):Qt P c [] ⟨t,.binOp .eql X x y Y,T,ps,af,gd⟩ f L (.c (.v (.bool true))) :=
 (Qt.tw h hy).eq (by simp)
theorem u6 {ok:Nat→Prop} {w:World}:∀ {zs:List Value} {xs:List Value},RC ok w (vs zs) xs→xs=zs
 | [],xs,h=>h.n0
 | z :: zs,xs,h=>by
  obtain ⟨ys,rfl,r⟩:=RC.c1 (iY:=vs zs) h;rw [u6 r]
theorem Qt.xk {x y:Operand} {X Y:Nat} (zs:List Value) (h:aP f x=some (.agg (vs zs))) (hy:aP f y=some (.agg (vs zs))) (hr:∀ w,(binOp .neq X (.agg zs.toArray) (.agg zs.toArray)).run P w=.ok (.bool false) w) (hg:P.eqGuardType P.depth X=false):Qt P c [] ⟨t,.binOp .neq X x y Y,T,ps,af,gd⟩ f L (.c (.v (.bool false))):=⟨fun a w s=>by
 have rx:=s.ev h;have ry:=s.ev hy;unfold RD at rx ry;obtain ⟨v1,e1,r1⟩:=rx;obtain ⟨v2,e2,r2⟩:=ry;rw [u6 r1] at e1;rw [u6 r2] at e2;refine ⟨.bool false,by unfold RD RA;exact ⟨rfl,rfl⟩,fun w' k=>?_⟩;simp [execOp,e1,e2,hr,Sem.run_bind,run_eqGuard_agg _ _ _ _ _ _ _ hg]⟩
theorem Qt.LF {x y:Operand} {X Y:Nat} (zs:List Value) (h:aP f x=some (.agg (vs zs))) (hy:aP f y=some (.agg (vs zs))) (hr:∀ w,(binOp .eql X (.agg zs.toArray) (.agg zs.toArray)).run P w=.ok (.bool true) w) (hg:P.eqGuardType P.depth X=false):Qt P c [] ⟨t,.binOp .eql X x y Y,T,ps,af,gd⟩ f L (.c (.v (.bool true))):=⟨fun a w s=>by
 have rx:=s.ev h;have ry:=s.ev hy;unfold RD at rx ry;obtain ⟨v1,e1,r1⟩:=rx;obtain ⟨v2,e2,r2⟩:=ry;rw [u6 r1] at e1;rw [u6 r2] at e2;refine ⟨.bool true,by unfold RD RA;exact ⟨rfl,rfl⟩,fun w' k=>?_⟩;simp [execOp,e1,e2,hr,Sem.run_bind,run_eqGuard_agg _ _ _ _ _ _ _ hg]⟩
end
theorem LG:Tryz.prog.underlying 24=some (.struct (Tryz.prog.fieldsOf 24)):=by kernel_rfl
theorem LH:Tryz.prog.stoodInHeld 24=false:=by kernel_rfl
theorem LI:Tryz.prog.eqGuardType Tryz.prog.depth 24=false:=by kernel_rfl
theorem LJ:∃ f0 f1:Field,(Tryz.prog.fieldsOf 24).toList=[f0,f1]∧(f0.name≠"_"∧f1.name≠"_")∧(f0.type=3∧f1.type=3)∧f0.offset=0∧f1.offset=1:=by
 unfold Program.fieldsOf;rw [Tryz.underlying24];exact ⟨_,_,rfl,⟨by decide,by decide⟩,⟨rfl,rfl⟩,rfl,rfl⟩
theorem LK (w:World) (x0:Int) (x1:Int):(binOp .neq 24 (.agg #[.int .i64 x0,.int .i64 x1]) (.agg #[.int .i64 x0,.int .i64 x1])).run Tryz.prog w=.ok (.bool false) w:=by
 obtain ⟨f0,f1,hf,⟨n0,n1⟩,⟨t0,t1⟩,o0,o1⟩:=LJ;rw [run_neq_struct,run_equalIn_struct _ _ _ _ _ LG LH,hf];have hi:=Tryz.underlying3;have de:=Tryz.underlying2;have hb:=Tryz.underlying4;simp [Op.eqFields,n0,t0,o0,n1,t1,o1,go_sem,hi,de,hb]
theorem LL:Tryz.prog.underlying 60=some (.struct (Tryz.prog.fieldsOf 60)):=by kernel_rfl
theorem LM:Tryz.prog.stoodInHeld 60=false:=by kernel_rfl
theorem LN:Tryz.prog.eqGuardType Tryz.prog.depth 60=false:=by kernel_rfl
theorem LU:∃ f0 f1 f2 f3 f4 f5 f6:Field,(Tryz.prog.fieldsOf 60).toList=[f0,f1,f2,f3,f4,f5,f6]∧(f0.name≠"_"∧f1.name≠"_"∧f2.name≠"_"∧f3.name≠"_"∧f4.name≠"_"∧f5.name≠"_"∧f6.name≠"_")∧(f0.type=4∧f1.type=3∧f2.type=3∧f3.type=3∧f4.type=4∧f5.type=2∧f6.type=4)∧f0.offset=0∧f1.offset=1∧f2.offset=2∧f3.offset=3∧f4.offset=4∧f5.offset=5∧f6.offset=6:=by
 unfold Program.fieldsOf;rw [Tryz.underlying60];exact ⟨_,_,_,_,_,_,_,rfl,⟨by decide,by decide,by decide,by decide,by decide,by decide,by decide⟩,⟨rfl,rfl,rfl,rfl,rfl,rfl,rfl⟩,rfl,rfl,rfl,rfl,rfl,rfl,rfl⟩
theorem LW (w:World) (x0:Bool) (x1:Int) (x2:Int) (x3:Int) (x4:Bool) (x5:Int) (x6:Bool):(binOp .neq 60 (.agg #[.bool x0,.int .i64 x1,.int .i64 x2,.int .i64 x3,.bool x4,.int .i64 x5,.bool x6]) (.agg #[.bool x0,.int .i64 x1,.int .i64 x2,.int .i64 x3,.bool x4,.int .i64 x5,.bool x6])).run Tryz.prog w=.ok (.bool false) w:=by
 obtain ⟨f0,f1,f2,f3,f4,f5,f6,hf,⟨n0,n1,n2,n3,n4,n5,n6⟩,⟨t0,t1,t2,t3,t4,t5,t6⟩,o0,o1,o2,o3,o4,o5,o6⟩:=LU;rw [run_neq_struct,run_equalIn_struct _ _ _ _ _ LL LM,hf];have hi:=Tryz.underlying3;have de:=Tryz.underlying2;have hb:=Tryz.underlying4;simp [Op.eqFields,n0,t0,o0,n1,t1,o1,n2,t2,o2,n3,t3,o3,n4,t4,o4,n5,t5,o5,n6,t6,o6,go_sem,hi,de,hb]
theorem LX:Tryz.prog.underlying 165=some (.struct (Tryz.prog.fieldsOf 165)):=by kernel_rfl
theorem LY:Tryz.prog.stoodInHeld 165=false:=by kernel_rfl
theorem LZ:Tryz.prog.eqGuardType Tryz.prog.depth 165=false:=by kernel_rfl
theorem L3:∃ f0 f1 f2:Field,(Tryz.prog.fieldsOf 165).toList=[f0,f1,f2]∧(f0.name≠"_"∧f1.name≠"_"∧f2.name≠"_")∧(f0.type=4∧f1.type=3∧f2.type=2)∧f0.offset=0∧f1.offset=1∧f2.offset=2:=by
 unfold Program.fieldsOf;rw [Tryz.underlying165];exact ⟨_,_,_,rfl,⟨by decide,by decide,by decide⟩,⟨rfl,rfl,rfl⟩,rfl,rfl,rfl⟩
theorem L4 (w:World) (x0:Bool) (x1:Int) (x2:Int):(binOp .neq 165 (.agg #[.bool x0,.int .i64 x1,.int .i64 x2]) (.agg #[.bool x0,.int .i64 x1,.int .i64 x2])).run Tryz.prog w=.ok (.bool false) w:=by
 obtain ⟨f0,f1,f2,hf,⟨n0,n1,n2⟩,⟨t0,t1,t2⟩,o0,o1,o2⟩:=L3;rw [run_neq_struct,run_equalIn_struct _ _ _ _ _ LX LY,hf];have hi:=Tryz.underlying3;have de:=Tryz.underlying2;have hb:=Tryz.underlying4;simp [Op.eqFields,n0,t0,o0,n1,t1,o1,n2,t2,o2,go_sem,hi,de,hb]
theorem EB:Tryz.prog.underlying 44=some (.struct (Tryz.prog.fieldsOf 44)):=by kernel_rfl
theorem EC:Tryz.prog.stoodInHeld 44=false:=by kernel_rfl
theorem L5:Tryz.prog.eqGuardType Tryz.prog.depth 44=false:=by kernel_rfl
theorem ED:∃ f0 f1 f2 f3 f4:Field,(Tryz.prog.fieldsOf 44).toList=[f0,f1,f2,f3,f4]∧(f0.name≠"_"∧f1.name≠"_"∧f2.name≠"_"∧f3.name≠"_"∧f4.name≠"_")∧(f0.type=3∧f1.type=3∧f2.type=2∧f3.type=4∧f4.type=3)∧f0.offset=0∧f1.offset=1∧f2.offset=2∧f3.offset=3∧f4.offset=4:=by
 unfold Program.fieldsOf;rw [Tryz.underlying44];exact ⟨_,_,_,_,_,rfl,⟨by decide,by decide,by decide,by decide,by decide⟩,⟨rfl,rfl,rfl,rfl,rfl⟩,rfl,rfl,rfl,rfl,rfl⟩
theorem L6 (w:World) (x0:Int) (x1:Int) (x2:Int) (x3:Bool) (x4:Int):(binOp .eql 44 (.agg #[.int .i64 x0,.int .i64 x1,.int .i64 x2,.bool x3,.int .i64 x4]) (.agg #[.int .i64 x0,.int .i64 x1,.int .i64 x2,.bool x3,.int .i64 x4])).run Tryz.prog w=.ok (.bool true) w:=by
 obtain ⟨f0,f1,f2,f3,f4,hf,⟨n0,n1,n2,n3,n4⟩,⟨t0,t1,t2,t3,t4⟩,o0,o1,o2,o3,o4⟩:=ED;rw [run_eql_struct,run_equalIn_struct _ _ _ _ _ EB EC,hf];have hi:=Tryz.underlying3;have de:=Tryz.underlying2;have hb:=Tryz.underlying4;simp [Op.eqFields,n0,t0,o0,n1,t1,o1,n2,t2,o2,n3,t3,o3,n4,t4,o4,go_sem,hi,de,hb]
theorem L7:Tryz.prog.underlying 46=some (.struct (Tryz.prog.fieldsOf 46)):=by kernel_rfl
theorem L8:Tryz.prog.stoodInHeld 46=false:=by kernel_rfl
theorem L9:Tryz.prog.eqGuardType Tryz.prog.depth 46=false:=by kernel_rfl
theorem Ma:∃ f0 f1 f2 f3 f4 f5 f6 f7 f8:Field,(Tryz.prog.fieldsOf 46).toList=[f0,f1,f2,f3,f4,f5,f6,f7,f8]∧(f0.name≠"_"∧f1.name≠"_"∧f2.name≠"_"∧f3.name≠"_"∧f4.name≠"_"∧f5.name≠"_"∧f6.name≠"_"∧f7.name≠"_"∧f8.name≠"_")∧(f0.type=3∧f1.type=3∧f2.type=3∧f3.type=3∧f4.type=3∧f5.type=3∧f6.type=3∧f7.type=3∧f8.type=44)∧f0.offset=0∧f1.offset=1∧f2.offset=2∧f3.offset=3∧f4.offset=4∧f5.offset=5∧f6.offset=6∧f7.offset=7∧f8.offset=8:=by
 unfold Program.fieldsOf;rw [Tryz.underlying46];exact ⟨_,_,_,_,_,_,_,_,_,rfl,⟨by decide,by decide,by decide,by decide,by decide,by decide,by decide,by decide,by decide⟩,⟨rfl,rfl,rfl,rfl,rfl,rfl,rfl,rfl,rfl⟩,rfl,rfl,rfl,rfl,rfl,rfl,rfl,rfl,rfl⟩
theorem Mb (w:World) (a0 a1 a2 a3 a4 a5 a6 a7 y0 y1 y2 y4:Int) (y3:Bool):(part 44 #[.int .i64 a0,.int .i64 a1,.int .i64 a2,.int .i64 a3,.int .i64 a4,.int .i64 a5,.int .i64 a6,.int .i64 a7,.int .i64 y0,.int .i64 y1,.int .i64 y2,.bool y3,.int .i64 y4] 8).run Tryz.prog w=.ok (.agg #[.int .i64 y0,.int .i64 y1,.int .i64 y2,.bool y3,.int .i64 y4]) w:=by
 have hu:=Tryz.underlying44;have h5:iD Tryz.prog 44=some 5:=by kernel_rfl
 simp [go_sem,part,hu]
theorem Mc (w:World) (x0 x1 x2 x3 x4 x5 x6 x7 y0 y1 y2 y4:Int) (y3:Bool):(binOp .neq 46 (.agg #[.int .i64 x0,.int .i64 x1,.int .i64 x2,.int .i64 x3,.int .i64 x4,.int .i64 x5,.int .i64 x6,.int .i64 x7,.int .i64 y0,.int .i64 y1,.int .i64 y2,.bool y3,.int .i64 y4]) (.agg #[.int .i64 x0,.int .i64 x1,.int .i64 x2,.int .i64 x3,.int .i64 x4,.int .i64 x5,.int .i64 x6,.int .i64 x7,.int .i64 y0,.int .i64 y1,.int .i64 y2,.bool y3,.int .i64 y4])).run Tryz.prog w=.ok (.bool false) w:=by
 obtain ⟨f0,f1,f2,f3,f4,f5,f6,f7,f8,hf,⟨n0,n1,n2,n3,n4,n5,n6,n7,n8⟩,⟨t0,t1,t2,t3,t4,t5,t6,t7,t8⟩,o0,o1,o2,o3,o4,o5,o6,o7,o8⟩:=Ma;obtain ⟨g0,g1,g2,g3,g4,hg,⟨m0,m1,m2,m3,m4⟩,⟨s0,s1,s2,s3,s4⟩,q0,q1,q2,q3,q4⟩:=ED;rw [run_neq_struct,run_equalIn_struct _ _ _ _ _ L7 L8,hf];have hi:=Tryz.underlying3;have de:=Tryz.underlying2;have hb:=Tryz.underlying4;simp [Op.eqFields,n0,t0,o0,n1,t1,o1,n2,t2,o2,n3,t3,o3,n4,t4,o4,n5,t5,o5,n6,t6,o6,n7,t7,o7,n8,t8,o8,Mb,run_equalIn_struct _ _ _ _ _ EB EC,hg,m0,m1,m2,m3,m4,s0,s1,s2,s3,s4,q0,q1,q2,q3,q4,go_sem,hi,de,hb]
end Fl
open Go.RowKit
namespace Fl
open Sx
set_option maxRecDepth 100000
theorem g9 {α:Type} {l:List α} {enc:α→List A} {k:Nat} {x:α} (h:l[k]?=some x):(l.map enc)[((k:Int)).toNat]?=some (enc x):=by rw [Int.toNat_natCast,List.getElem?_map,h];rfl
theorem pV (l:List Int) (hl:l.length≤100000):Pure Tryz.prog 49 [.c (ints l),.c (ints l)] (.c (bI true)):=by
 refine aq.intro Tryz.func49 rfl rfl rfl (fun ok e=>?_)
 repeat (first | (refine K.binOp ?_;refine jq rfl rfl rfl (Qt.pU rfl rfl) ?_) | refine gn ?_)
 refine J.loop (ι:={ k:Nat // k≤(l).length }) (fun p=>[(13,.c (nI p.1)),(12,.c (nI (l).length)),(0,.c (ints l)),(1,.c (ints l))]) (fun _=>[]) (fun p=>(l).length - p.1) ⟨0,Nat.zero_le _⟩ (fun X h=>h.aQ ⟨rfl,rfl,rfl,rfl,trivial⟩) (fun p ih=>?_);obtain ⟨k,hk⟩:=p;simp only at hk ih ⊢
 by_cases aN:k < (l).length
 ·have t1:(decide ((k:Int) < ((l).length:Int)))=true:=by simpa using aN
  obtain ⟨x,hx⟩:∃ x,(l)[k]?=some x:=⟨_,List.getElem?_eq_getElem aN⟩
  have hm:=List.mem_of_getElem? hx
  repeat (refine gn ?_)
  refine J.draw (by kernel_rfl) rfl ?_;refine JW.base none ?_;refine tk 0 ?_;refine tk 1 ?_;refine JD.take 2 rfl rfl (by kernel_rfl) rfl (qb rfl) (Qt.cE rfl rfl (by omega) (g9 hx)) rfl ?_;refine tk 3 ?_;refine tk 4 ?_;refine tk 5 ?_;refine JD.take 6 rfl rfl (by kernel_rfl) rfl (qb rfl) (Qt.cE rfl rfl (by omega) (g9 hx)) rfl ?_;refine tk 7 ?_;refine JD.take 8 rfl rfl (by kernel_rfl) rfl (qb rfl) (Qt.pU rfl rfl) rfl ?_;refine bP ?_
  repeat (refine gn ?_)
  exact (ih ⟨k + 1,by omega⟩ (by simp only;omega)).aQ ⟨rfl,rfl,rfl,rfl,trivial⟩
 ·have t1:(decide ((k:Int) < ((l).length:Int)))=false:=by simpa using aN
  obtain rfl:k=(l).length:=by omega
  repeat (refine gn ?_)
  exact aA Tryz.func49
theorem Me (o:Pn.Op) (hl:o.cases.length≤100000):Pure Tryz.prog 93 [.agg (cC o),.agg (cC o)] (.c (bI true)):=by
 refine aq.intro Tryz.func93 rfl rfl rfl (fun ok e=>?_)
 repeat (first | (refine K.binOp ?_;first | refine jq rfl rfl rfl (Qt.pU rfl rfl) ?_ | refine jq rfl rfl rfl (Qt.EA rfl rfl) ?_) | refine av ?_ | intro _)
 rename_i b3 b2;refine J.loop (ι:={ k:Nat // k≤(o.cases).length }) (fun p=>[(51,.c (nI p.1)),(50,.c (nI (o.cases).length)),(2,.c (.v (.pointer (some ⟨b3,0,none⟩)))),(3,.c (.v (.pointer (some ⟨b2,0,none⟩))))]) (fun _=>[.box b2 58 (cC o),.box b3 58 (cC o)]) (fun p=>(o.cases).length - p.1) ⟨0,Nat.zero_le _⟩ (fun X h=>h.aQ ⟨rfl,rfl,rfl,rfl,trivial⟩) (fun p ih=>?_);obtain ⟨k,hk⟩:=p;simp only at hk ih ⊢
 by_cases aN:k < (o.cases).length
 ·have t1:(decide ((k:Int) < ((o.cases).length:Int)))=true:=by simpa using aN
  obtain ⟨x,hx⟩:∃ x,(o.cases)[k]?=some x:=⟨_,List.getElem?_eq_getElem aN⟩
  have hm:=List.mem_of_getElem? hx
  repeat (refine gn ?_)
  refine J.draw (by kernel_rfl) rfl ?_;refine JW.base none ?_;refine tk 0 ?_;refine tk 1 ?_;refine tk 2 ?_;refine JD.take 3 rfl rfl (by kernel_rfl) rfl (qb rfl) (Qt.cE rfl rfl (by omega) (g9 hx)) rfl ?_;refine tk 4 ?_;refine tk 5 ?_;refine tk 6 ?_;refine tk 7 ?_;refine JD.take 8 rfl rfl (by kernel_rfl) rfl (qb rfl) (Qt.cE rfl rfl (by omega) (g9 hx)) rfl ?_;refine tk 9 ?_;refine JD.take 10 rfl rfl (by kernel_rfl) rfl (qb rfl) (Qt.xk [.bool x.send,.int .i64 x.ch,.int .i64 x.v] rfl rfl (fun w=>L4 w _ _ _) LZ) rfl ?_;refine bP ?_
  repeat (refine gn ?_)
  exact (ih ⟨k + 1,by omega⟩ (by simp only;omega)).aQ ⟨rfl,rfl,rfl,rfl,trivial⟩
 ·have t1:(decide ((k:Int) < ((o.cases).length:Int)))=false:=by simpa using aN
  obtain rfl:k=(o.cases).length:=by omega
  repeat (refine gn ?_)
  exact aA Tryz.func93
theorem Mf (l:List Pn.Op) (hl:l.length≤100000) (hc:∀ o∈l,o.cases.length≤100000):Pure Tryz.prog 77 [.c (.r 6 (l.map cC)),.c (.r 6 (l.map cC))] (.c (bI true)):=by
 refine aq.intro Tryz.func77 rfl rfl rfl (fun ok e=>?_)
 repeat (first | (refine K.binOp ?_;refine jq rfl rfl rfl (Qt.pU rfl rfl) ?_) | refine gn ?_)
 refine J.loop (ι:={ k:Nat // k≤(l).length }) (fun p=>[(13,.c (nI p.1)),(12,.c (nI (l).length)),(0,.c (.r 6 (l.map cC))),(1,.c (.r 6 (l.map cC)))]) (fun _=>[]) (fun p=>(l).length - p.1) ⟨0,Nat.zero_le _⟩ (fun X h=>h.aQ ⟨rfl,rfl,rfl,rfl,trivial⟩) (fun p ih=>?_);obtain ⟨k,hk⟩:=p;simp only at hk ih ⊢
 by_cases aN:k < (l).length
 ·have t1:(decide ((k:Int) < ((l).length:Int)))=true:=by simpa using aN
  obtain ⟨x,hx⟩:∃ x,(l)[k]?=some x:=⟨_,List.getElem?_eq_getElem aN⟩
  have hm:=List.mem_of_getElem? hx
  repeat (refine gn ?_)
  refine J.draw (by kernel_rfl) rfl ?_;refine JW.base none ?_;refine tk 0 ?_;refine tk 1 ?_;refine JD.take 2 rfl rfl (by kernel_rfl) rfl (qb rfl) (Qt.cE rfl rfl (by omega) (g9 hx)) rfl ?_;refine tk 3 ?_;refine tk 4 ?_;refine tk 5 ?_;refine JD.take 6 rfl rfl (by kernel_rfl) rfl (qb rfl) (Qt.cE rfl rfl (by omega) (g9 hx)) rfl ?_;refine tk 7 ?_;refine jl 8 rfl rfl rfl rfl (Ld.pure (Me x (hc x hm)) (qb rfl) rfl (by repeat (first | exact br.nil | refine br.cons (c9.agg (by repeat (first | exact .nil | refine .cons .refl ?_))) ?_))) .none (fun _=>?_);refine jk 9 rfl rfl rfl rfl (Qt.not rfl) ?_;refine bP ?_
  repeat (refine gn ?_)
  exact (ih ⟨k + 1,by omega⟩ (by simp only;omega)).aQ ⟨rfl,rfl,rfl,rfl,trivial⟩
 ·have t1:(decide ((k:Int) < ((l).length:Int)))=false:=by simpa using aN
  obtain rfl:k=(l).length:=by omega
  repeat (refine gn ?_)
  exact aA Tryz.func77
theorem Mg (g:Gr) (h1:g.ops.length≤100000) (h2:∀ o∈g.ops,o.cases.length≤100000) (h3:g.order.length≤100000) (h4:g.aC.length≤100000) (h5:g.au.length≤100000) (h6:g.an.length≤100000):Pure Tryz.prog 50 [.agg (eG g),.agg (eG g)] (.c (bI true)):=by
 have C1:=Mf g.ops h1 h2;have C3:=pV g.order h3;have C4:=pV g.aC h4;have C5:=pV g.au h5;have C6:=pV g.an h6;refine aq.intro Tryz.func50 rfl rfl rfl (fun ok e=>?_)
 repeat (first | (refine K.binOp ?_;first | refine jq rfl rfl rfl (Qt.LC rfl rfl) ?_ | refine jq rfl rfl rfl (Qt.LD rfl rfl) ?_ | refine jq rfl rfl rfl (Qt.LF [.int .i64 g.res.code,.int .i64 g.res.cs,.int .i64 g.res.v,.bool g.res.ok,.int .i64 g.res.n] rfl rfl (fun w=>L6 w _ _ _ _ _) L5) ?_) | refine aI (C1) ?_ | refine aI (C3) ?_ | refine aI (C4) ?_ | refine aI (C5) ?_ | refine aI (C6) ?_ | refine av ?_ | intro _)
 exact aA Tryz.func50
theorem Mh (c:Cn) (h1:c.buf.length≤100000) (h2:c.recv.length≤100000) (h3:c.send.length≤100000):Pure Tryz.prog 51 [.agg (eC c),.agg (eC c)] (.c (bI true)):=by
 have C2:=pV c.recv h2;have C3:=pV c.send h3;refine aq.intro Tryz.func51 rfl rfl rfl (fun ok e=>?_)
 repeat (first | (refine K.binOp ?_;first | refine jq rfl rfl rfl (Qt.pU rfl rfl) ?_ | refine jq rfl rfl rfl (Qt.EA rfl rfl) ?_) | refine aI (C2) ?_ | refine aI (C3) ?_ | refine av ?_ | intro _)
 rename_i b3 b2;refine J.loop (ι:={ k:Nat // k≤(c.buf).length }) (fun p=>[(53,.c (nI p.1)),(52,.c (nI (c.buf).length)),(2,.c (.v (.pointer (some ⟨b3,0,none⟩)))),(3,.c (.v (.pointer (some ⟨b2,0,none⟩))))]) (fun _=>[.box b2 97 (eC c),.box b3 97 (eC c)]) (fun p=>(c.buf).length - p.1) ⟨0,Nat.zero_le _⟩ (fun X h=>h.aQ ⟨rfl,rfl,rfl,rfl,trivial⟩) (fun p ih=>?_);obtain ⟨k,hk⟩:=p;simp only at hk ih ⊢
 by_cases aN:k < (c.buf).length
 ·have t1:(decide ((k:Int) < ((c.buf).length:Int)))=true:=by simpa using aN
  obtain ⟨x,hx⟩:∃ x,(c.buf)[k]?=some x:=⟨_,List.getElem?_eq_getElem aN⟩
  have hm:=List.mem_of_getElem? hx
  repeat (first | refine aJ t1 ?_ | refine gn ?_)
  refine J.draw (by kernel_rfl) rfl ?_;refine JW.base none ?_;refine tk 0 ?_;refine tk 1 ?_;refine tk 2 ?_;refine JD.take 3 rfl rfl (by kernel_rfl) rfl (qb rfl) (Qt.cE rfl rfl (by omega) (g9 hx)) rfl ?_;refine tk 4 ?_;refine tk 5 ?_;refine tk 6 ?_;refine tk 7 ?_;refine JD.take 8 rfl rfl (by kernel_rfl) rfl (qb rfl) (Qt.cE rfl rfl (by omega) (g9 hx)) rfl ?_;refine tk 9 ?_;refine JD.take 10 rfl rfl (by kernel_rfl) rfl (qb rfl) (Qt.pU rfl rfl) rfl ?_;refine bP ?_
  repeat (first | (refine K.binOp ?_;refine jq rfl rfl rfl (Qt.dy rfl rfl rfl (fq (by omega) (by omega))) ?_) | refine gn ?_)
  exact (ih ⟨k + 1,by omega⟩ (by simp only;omega)).aQ ⟨rfl,rfl,rfl,rfl,trivial⟩
 ·have t1:(decide ((k:Int) < ((c.buf).length:Int)))=false:=by simpa using aN
  obtain rfl:k=(c.buf).length:=by omega
  repeat (first | refine aJ t1 ?_ | refine gn ?_)
  exact aA Tryz.func51
structure Fe (s:ah):Prop where
 gs:s.gs.length≤100000
 ch:s.ax.length≤100000
 su:s.aD.length≤100000
 dr:s.cD.length≤100000
 dn:s.done.length≤100000
 cl:s.cache.length=s.gs.length
 cb:∀ l∈s.cache,l.length≤100000
 mb:s.middle.length≤100000
 gb:∀ g∈s.gs,g.ops.length≤100000∧(∀ o∈g.ops,o.cases.length≤100000)∧g.order.length≤100000∧g.aC.length≤100000∧g.au.length≤100000∧g.an.length≤100000
 hb:∀ c∈s.ax,c.buf.length≤100000∧c.recv.length≤100000∧c.send.length≤100000
theorem Mi (s:ah) (h:Fe s):Pure Tryz.prog 16 [.agg (az s),.agg (az s)] (.c (bI true)):=by
 have zS:=h.gs;have nL:=h.ch;have QW:=h.su;have jB:=h.dr;have Mj:=h.dn;have CM:=pV s.middle h.mb;refine aq.intro Tryz.func16 rfl rfl rfl (fun ok e=>?_)
 repeat (first | (refine K.binOp ?_;first | refine jq rfl rfl rfl (Qt.pU rfl rfl) ?_ | refine jq rfl rfl rfl (Qt.xk [.int .i64 s.cY,.int .i64 s.bM] rfl rfl (fun w=>LK w _ _) LI) ?_) | refine av ?_ | intro _)
 rename_i b3 b2;refine J.loop (ι:={ k:Nat // k≤(s.gs).length }) (fun p=>[(101,.c (nI p.1)),(100,.c (nI (s.gs).length)),(2,.c (.v (.pointer (some ⟨b3,0,none⟩)))),(3,.c (.v (.pointer (some ⟨b2,0,none⟩))))]) (fun _=>[.box b2 36 (az s),.box b3 36 (az s)]) (fun p=>(s.gs).length - p.1) ⟨0,Nat.zero_le _⟩ (fun X h=>h.aQ ⟨rfl,rfl,rfl,rfl,trivial⟩) (fun p ih=>?_);obtain ⟨k,hk⟩:=p;simp only at hk ih ⊢
 by_cases aN:k < (s.gs).length
 ·have t1:(decide ((k:Int) < ((s.gs).length:Int)))=true:=by simpa using aN
  obtain ⟨x,hx⟩:∃ x,(s.gs)[k]?=some x:=⟨_,List.getElem?_eq_getElem aN⟩
  have hm:=List.mem_of_getElem? hx;obtain ⟨g1,g2,g3,g4,g5,g6⟩:=h.gb x hm;obtain ⟨y,hy⟩:∃ y,s.cache[k]?=some y:=⟨_,List.getElem?_eq_getElem (by rw [h.cl];exact aN)⟩
  repeat (refine gn ?_)
  refine J.draw (by kernel_rfl) rfl ?_;refine JW.base none ?_;refine tk 0 ?_;refine tk 1 ?_;refine tk 2 ?_;refine JD.take 3 rfl rfl (by kernel_rfl) rfl (qb rfl) (Qt.cE rfl rfl (by omega) (g9 hx)) rfl ?_;refine tk 4 ?_;refine tk 5 ?_;refine tk 6 ?_;refine tk 7 ?_;refine JD.take 8 rfl rfl (by kernel_rfl) rfl (qb rfl) (Qt.cE rfl rfl (by omega) (g9 hx)) rfl ?_;refine tk 9 ?_;refine jl 10 rfl rfl rfl rfl (Ld.pure (Mg x g1 g2 g3 g4 g5 g6) (qb rfl) rfl (by repeat (first | exact br.nil | refine br.cons (c9.agg (by repeat (first | exact .nil | refine .cons .refl ?_))) ?_))) .none (fun _=>?_);refine jk 11 rfl rfl rfl rfl (Qt.not rfl) ?_;refine jk 12 rfl rfl rfl rfl (Qt.move rfl) ?_;refine JD.jN ?_;refine tk 13 ?_;refine tk 14 ?_;refine tk 15 ?_
  (refine JD.take 16 rfl rfl (by kernel_rfl) rfl (qb rfl) (Qt.cE rfl rfl (by omega) (g9 hy)) rfl ?_)
  refine tk 17 ?_;refine tk 18 ?_;refine tk 19 ?_;refine tk 20 ?_
  (refine JD.take 21 rfl rfl (by kernel_rfl) rfl (qb rfl) (Qt.cE rfl rfl (by omega) (g9 hy)) rfl ?_)
  refine tk 22 ?_;refine jl 23 rfl rfl rfl rfl (Ld.pure (pV y (h.cb y (List.mem_of_getElem? hy))) (qb rfl) rfl lq) .none (fun _=>?_);refine tk 24 ?_;refine jk 25 rfl rfl rfl rfl (Qt.pick rfl rfl) ?_;refine bP ?_
  repeat (refine gn ?_)
  exact (ih ⟨k + 1,by omega⟩ (by simp only;omega)).aQ ⟨rfl,rfl,rfl,rfl,trivial⟩
 ·have t1:(decide ((k:Int) < ((s.gs).length:Int)))=false:=by simpa using aN
  obtain rfl:k=(s.gs).length:=by omega
  repeat (refine gn ?_)
  refine J.loop (ι:={ k:Nat // k≤(s.ax).length }) (fun p=>[(134,.c (nI p.1)),(133,.c (nI (s.ax).length)),(2,.c (.v (.pointer (some ⟨b3,0,none⟩)))),(3,.c (.v (.pointer (some ⟨b2,0,none⟩))))]) (fun _=>[.box b2 36 (az s),.box b3 36 (az s)]) (fun p=>(s.ax).length - p.1) ⟨0,Nat.zero_le _⟩ (fun X h=>h.aQ ⟨rfl,rfl,rfl,rfl,trivial⟩) (fun p ih=>?_);obtain ⟨k,hk⟩:=p;simp only at hk ih ⊢
  by_cases aN:k < (s.ax).length
  ·have t1:(decide ((k:Int) < ((s.ax).length:Int)))=true:=by simpa using aN
   obtain ⟨x,hx⟩:∃ x,(s.ax)[k]?=some x:=⟨_,List.getElem?_eq_getElem aN⟩
   have hm:=List.mem_of_getElem? hx;obtain ⟨g1,g2,g3⟩:=h.hb x hm
   repeat (refine gn ?_)
   refine J.draw (by kernel_rfl) rfl ?_;refine JW.base none ?_;refine tk 0 ?_;refine tk 1 ?_;refine tk 2 ?_;refine JD.take 3 rfl rfl (by kernel_rfl) rfl (qb rfl) (Qt.cE rfl rfl (by omega) (g9 hx)) rfl ?_;refine tk 4 ?_;refine tk 5 ?_;refine tk 6 ?_;refine tk 7 ?_;refine JD.take 8 rfl rfl (by kernel_rfl) rfl (qb rfl) (Qt.cE rfl rfl (by omega) (g9 hx)) rfl ?_;refine tk 9 ?_;refine jl 10 rfl rfl rfl rfl (Ld.pure (Mh x g1 g2 g3) (qb rfl) rfl (by repeat (first | exact br.nil | refine br.cons (c9.agg (by repeat (first | exact .nil | refine .cons .refl ?_))) ?_))) .none (fun _=>?_);refine jk 11 rfl rfl rfl rfl (Qt.not rfl) ?_;refine bP ?_
   repeat (refine gn ?_)
   exact (ih ⟨k + 1,by omega⟩ (by simp only;omega)).aQ ⟨rfl,rfl,rfl,rfl,trivial⟩
  ·have t1:(decide ((k:Int) < ((s.ax).length:Int)))=false:=by simpa using aN
   obtain rfl:k=(s.ax).length:=by omega
   repeat (refine gn ?_)
   refine J.loop (ι:={ k:Nat // k≤(s.aD).length }) (fun p=>[(153,.c (nI p.1)),(152,.c (nI (s.aD).length)),(2,.c (.v (.pointer (some ⟨b3,0,none⟩)))),(3,.c (.v (.pointer (some ⟨b2,0,none⟩))))]) (fun _=>[.box b2 36 (az s),.box b3 36 (az s)]) (fun p=>(s.aD).length - p.1) ⟨0,Nat.zero_le _⟩ (fun X h=>h.aQ ⟨rfl,rfl,rfl,rfl,trivial⟩) (fun p ih=>?_);obtain ⟨k,hk⟩:=p;simp only at hk ih ⊢
   by_cases aN:k < (s.aD).length
   ·have t1:(decide ((k:Int) < ((s.aD).length:Int)))=true:=by simpa using aN
    obtain ⟨x,hx⟩:∃ x,(s.aD)[k]?=some x:=⟨_,List.getElem?_eq_getElem aN⟩
    have hm:=List.mem_of_getElem? hx
    repeat (refine gn ?_)
    refine J.draw (by kernel_rfl) rfl ?_;refine JW.base none ?_;refine tk 0 ?_;refine tk 1 ?_;refine tk 2 ?_;refine JD.take 3 rfl rfl (by kernel_rfl) rfl (qb rfl) (Qt.cE rfl rfl (by omega) (g9 hx)) rfl ?_;refine tk 4 ?_;refine tk 5 ?_;refine tk 6 ?_;refine tk 7 ?_;refine JD.take 8 rfl rfl (by kernel_rfl) rfl (qb rfl) (Qt.cE rfl rfl (by omega) (g9 hx)) rfl ?_;refine tk 9 ?_;refine JD.take 10 rfl rfl (by kernel_rfl) rfl (qb rfl) (Qt.xk [.bool x.live,.int .i64 x.g,.int .i64 x.ch,.int .i64 x.cs,.bool x.send,.int .i64 x.v,.bool x.done] rfl rfl (fun w=>LW w _ _ _ _ _ _ _) LN) rfl ?_;refine bP ?_
    repeat (refine gn ?_)
    exact (ih ⟨k + 1,by omega⟩ (by simp only;omega)).aQ ⟨rfl,rfl,rfl,rfl,trivial⟩
   ·have t1:(decide ((k:Int) < ((s.aD).length:Int)))=false:=by simpa using aN
    obtain rfl:k=(s.aD).length:=by omega
    repeat (refine gn ?_)
    refine J.loop (ι:={ k:Nat // k≤(s.cD).length }) (fun p=>[(171,.c (nI p.1)),(170,.c (nI (s.cD).length)),(2,.c (.v (.pointer (some ⟨b3,0,none⟩)))),(3,.c (.v (.pointer (some ⟨b2,0,none⟩))))]) (fun _=>[.box b2 36 (az s),.box b3 36 (az s)]) (fun p=>(s.cD).length - p.1) ⟨0,Nat.zero_le _⟩ (fun X h=>h.aQ ⟨rfl,rfl,rfl,rfl,trivial⟩) (fun p ih=>?_);obtain ⟨k,hk⟩:=p;simp only at hk ih ⊢
    by_cases aN:k < (s.cD).length
    ·have t1:(decide ((k:Int) < ((s.cD).length:Int)))=true:=by simpa using aN
     obtain ⟨x,hx⟩:∃ x,(s.cD)[k]?=some x:=⟨_,List.getElem?_eq_getElem aN⟩
     have hm:=List.mem_of_getElem? hx
     repeat (refine gn ?_)
     refine J.draw (by kernel_rfl) rfl ?_;refine JW.base none ?_;refine tk 0 ?_;refine tk 1 ?_;refine tk 2 ?_;refine JD.take 3 rfl rfl (by kernel_rfl) rfl (qb rfl) (Qt.cE rfl rfl (by omega) (g9 hx)) rfl ?_;refine tk 4 ?_;refine tk 5 ?_;refine tk 6 ?_;refine tk 7 ?_;refine JD.take 8 rfl rfl (by kernel_rfl) rfl (qb rfl) (Qt.cE rfl rfl (by omega) (g9 hx)) rfl ?_;refine tk 9 ?_;refine JD.take 10 rfl rfl (by kernel_rfl) rfl (qb rfl) (Qt.pU rfl rfl) rfl ?_;refine bP ?_
     repeat (refine gn ?_)
     exact (ih ⟨k + 1,by omega⟩ (by simp only;omega)).aQ ⟨rfl,rfl,rfl,rfl,trivial⟩
    ·have t1:(decide ((k:Int) < ((s.cD).length:Int)))=false:=by simpa using aN
     obtain rfl:k=(s.cD).length:=by omega
     repeat (refine gn ?_)
     refine J.loop (ι:={ k:Nat // k≤(s.done).length }) (fun p=>[(189,.c (nI p.1)),(188,.c (nI (s.done).length)),(2,.c (.v (.pointer (some ⟨b3,0,none⟩)))),(3,.c (.v (.pointer (some ⟨b2,0,none⟩))))]) (fun _=>[.box b2 36 (az s),.box b3 36 (az s)]) (fun p=>(s.done).length - p.1) ⟨0,Nat.zero_le _⟩ (fun X h=>h.aQ ⟨rfl,rfl,rfl,rfl,trivial⟩) (fun p ih=>?_);obtain ⟨k,hk⟩:=p;simp only at hk ih ⊢
     by_cases aN:k < (s.done).length
     ·have t1:(decide ((k:Int) < ((s.done).length:Int)))=true:=by simpa using aN
      obtain ⟨x,hx⟩:∃ x,(s.done)[k]?=some x:=⟨_,List.getElem?_eq_getElem aN⟩
      have hm:=List.mem_of_getElem? hx
      repeat (refine gn ?_)
      refine J.draw (by kernel_rfl) rfl ?_;refine JW.base none ?_;refine tk 0 ?_;refine tk 1 ?_;refine tk 2 ?_;refine JD.take 3 rfl rfl (by kernel_rfl) rfl (qb rfl) (Qt.cE rfl rfl (by omega) (g9 hx)) rfl ?_;refine tk 4 ?_;refine tk 5 ?_;refine tk 6 ?_;refine tk 7 ?_;refine JD.take 8 rfl rfl (by kernel_rfl) rfl (qb rfl) (Qt.cE rfl rfl (by omega) (g9 hx)) rfl ?_;refine tk 9 ?_;refine JD.take 10 rfl rfl (by kernel_rfl) rfl (qb rfl) (Qt.xk [.int .i64 x.g,.int .i64 x.op,.int .i64 x.call,.int .i64 x.iF,.int .i64 x.cz,.int .i64 x.wi,.int .i64 x.dc,.int .i64 x.re,.int .i64 x.res.code,.int .i64 x.res.cs,.int .i64 x.res.v,.bool x.res.ok,.int .i64 x.res.n] rfl rfl (fun w=>Mc w _ _ _ _ _ _ _ _ _ _ _ _ _) L9) rfl ?_;refine bP ?_
      repeat (refine gn ?_)
      exact (ih ⟨k + 1,by omega⟩ (by simp only;omega)).aQ ⟨rfl,rfl,rfl,rfl,trivial⟩
     ·have t1:(decide ((k:Int) < ((s.done).length:Int)))=false:=by simpa using aN
      obtain rfl:k=(s.done).length:=by omega
      repeat (refine gn ?_)
      exact aA Tryz.func16
end Fl
end Go.Proofs.YtgjpdogjekmemaaGreat
