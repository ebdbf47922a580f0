/-
  What the laws need, part A9.
  Conditions: none.
-/
import Derived.Test.YtdjhhbpedllnhaaGreatA8
import Derived.Deep.OwnRows
import Derived.StillTailTactics
set_option linter.unusedVariables false
set_option linter.unusedSimpArgs false
set_option linter.unnecessarySimpa false
set_option maxHeartbeats 2000000
namespace Go.Proofs.YtdjhhbpedllnhaaGreat
open Go.RowKit
attribute [local go_sem ↓] Go.wp_at_zero Go.wp_at_succ
namespace Qu
theorem Jz {a:List Int} (h:a≠[]):a.getLastD (-1)∈a:=by
 rw [List.getLastD_eq_getLast?,List.getLast?_eq_some_getLast h];exact List.getLast_mem h
theorem JA {b:List Int} (h:b≠[]):b.headD (-1)∈b:=by
 cases b with
 | nil=>exact absurd rfl h
 | cons z r=>simp
structure RI (n:Nat) (R:List (List Int)) (k:Nat) (x:Int) (a b:List Int):Prop where
 x0:0≤x∧x < n
 tx:tc R x=((k:Int),b.headD (-1),a.getLastD (-1))
 pa:a≠[]→0≤a.getLastD (-1)∧a.getLastD (-1) < n∧a.getLastD (-1)≠x∧tc R (a.getLastD (-1))=((k:Int),x,gq a (a.getLastD (-1)))
 hb:b≠[]→0≤b.headD (-1)∧b.headD (-1) < n∧b.headD (-1)≠x∧tc R (b.headD (-1))=((k:Int),fy b (b.headD (-1)),x)
 ab:a≠[]→b≠[]→a.getLastD (-1)≠b.headD (-1)
 len:(a ++ x :: b).length≤64
theorem RJ {n:Nat} {R:List (List Int)} {k:Nat} {x:Int} {a b:List Int} (v:Inv n R) (hk:k < R.length) (hl:R.getD k []=a ++ x :: b):RI n R k x a b:=by
 have ho:∀ y,(a ++ x :: b).count y≤1:=fun y=>by rw [← hl];exact Nat.le_trans (count_le hk y) (v.one y)
 have kO:∀ y,y∈a ++ x :: b→0≤y∧y < n:=fun y hy=>v.bound y (qE hk (by rw [hl];exact hy))
 have mO:=fun y=>wK v hk (y:=y)
 rw [hl] at mO;have dZ:∀ y,a.count y + ((if x=y then 1 else 0) + b.count y)≤1:=fun y=>by
  have:=ho y;rw [List.count_append,List.count_cons] at this
  by_cases e:x=y
  ·subst e;simp at this ⊢;omega
  ·have e2:(x == y)=false:=by simpa using e
   rw [e2] at this;rw [if_neg e];simp at this;omega
 have uQ:x∉a:=fun h=>by have:=List.count_pos_iff.2 h;have:=dZ x;rw [if_pos rfl] at this;omega
 have tF:x∉b:=fun h=>by have:=List.count_pos_iff.2 h;have:=dZ x;rw [if_pos rfl] at this;omega
 have rT:∀ y,y∈a→y∉b:=fun y h1 h2=>by
  have:=List.count_pos_iff.2 h1;have:=List.count_pos_iff.2 h2;have:=dZ y;omega
 have ca:∀ y,a.count y≤1:=fun y=>by have:=dZ y;omega
 refine ⟨kO x (by simp),?_,fun h=>?_,fun h=>?_,fun h1 h2 e=>rT _ (Jz h1) (by rw [e];exact JA h2),?_⟩
 ·rw [mO x (by simp),wI uQ,gq,yL uQ,fy,if_pos rfl,jQ,if_pos rfl]
 ·have hm:=Jz h;have h2:=kO _ (List.mem_append_left _ hm);refine ⟨h2.1,h2.2,fun e=>uQ (e ▸ hm),?_⟩;rw [mO _ (List.mem_append_left _ hm),yK hm (ca _),if_pos rfl,wJ hm];rfl
 ·have hm:=JA h;have h2:=kO _ (List.mem_append_right _ (List.mem_cons_of_mem _ hm));have bG:b.headD (-1)≠x:=fun e=>tF (e ▸ hm)
  have JB:b.headD (-1)∉a:=fun e=>rT _ e hm
  refine ⟨h2.1,h2.2,bG,?_⟩;rw [mO _ (List.mem_append_right _ (List.mem_cons_of_mem _ hm)),wI JB,gq,yL JB,fy,if_neg (fun e=>bG e.symm),jQ,if_neg (fun e=>bG e.symm),Jd (q:=x) hm,if_pos rfl]
 ·have:=Bx ho kO;have:=v.uP;omega
def drop (R:List (List Int)) (x:Int):List (List Int) × Bool:=match loc R x with
 | some k=>(R.set k ((R.getD k []).filter (fun y=>y != x)),true)
 | none=>(R,false)
theorem RK {x:Int} {a b:List Int} (h1:x∉a) (h2:x∉b):(a ++ x :: b).filter (fun y=>y != x)=a ++ b:=by
 rw [List.filter_append,List.filter_cons];have e1:a.filter (fun y=>y != x)=a:=List.filter_eq_self.2 (fun y hy=>by simp;exact fun e=>h1 (e ▸ hy));have e2:b.filter (fun y=>y != x)=b:=List.filter_eq_self.2 (fun y hy=>by simp;exact fun e=>h2 (e ▸ hy));rw [e1,e2];simp
theorem RN {n:Nat} {R:List (List Int)} {x:Int} {k:Nat} (v:Inv n R) (h:loc R x=some k):∃ a b,k < R.length∧R.getD k []=a ++ x :: b∧drop R x=(R.set k (a ++ b),true):=by
 obtain ⟨hk,hm⟩:=yM h;obtain ⟨a,b,hl,uQ⟩:=Ro hm;have ho:(a ++ x :: b).count x≤1:=by rw [← hl];exact Nat.le_trans (count_le hk x) (v.one x)
 have tF:x∉b:=fun hb=>by
  have:=List.count_pos_iff.2 hb;rw [List.count_append,List.count_cons_self] at ho;omega
 refine ⟨a,b,hk,hl,?_⟩;unfold drop;rw [h];simp only [hl,RK uQ tF]
end Qu
theorem BB (w:World) (cs:List Value) (e:TypeId) (b:Nat) (hb:b=w.heap.size):cr (w.alloc (.cells cs.toArray e)) b cs e:=by subst hb;exact cr.new w cs e
theorem RO (w:World) (cs:List Value) (e:TypeId):cr (w.alloc (.cells cs.toArray e)) w.heap.size cs e:=cr.new w cs e
theorem dj.then {w w':World} {b g1 o1 c1 g2 o2 c2:Nat} {A B:List (Int × Int × Int)} (h:dj w b g1 o1 c1 g2 o2 c2 A B) (k:aq [] w w'):dj w' b g1 o1 c1 g2 o2 c2 A B :=
 ⟨h.1.aY k (by simp),h.2.1.then k,h.2.2.1.then k,h.2.2.2⟩
theorem Qu.RQ {a b:List Int} {y:Int} (h:a≠[]):(a ++ b).headD (-1)=(a ++ y :: b).headD (-1):=by
 cases a with
 | nil=>exact absurd rfl h
 | cons z r=>rfl
theorem Qu.JC {a b:List Int} (h:b≠[]):(a ++ b).getLastD (-1)=b.getLastD (-1):=by
 rw [List.getLastD_eq_getLast?,List.getLastD_eq_getLast?,List.getLast?_append,List.getLast?_eq_some_getLast h];rfl
theorem Qu.RS {y:Int} {b:List Int} (h:b≠[]):(y :: b).getLastD (-1)=b.getLastD (-1):=by
 cases b with
 | nil=>exact absurd rfl h
 | cons z r=>simp [List.getLastD_eq_getLast?]
set_option maxRecDepth 100000 in
set_option maxHeartbeats 3200000 in
theorem RT (w:World) (p:Value) (n:Nat) (R:List (List Int)) (S:List Nat) (x:Int) (h:Qq w p n R S) :
  Calls Tryz.prog 123 #[p,.int .i64 x] w (rU (Qu.drop R x) p n S w):=by
 obtain ⟨b,rfl⟩:=h.shape;have H:=Lib.hid h;have hv:=h.inv
 cases hl:Qu.loc R x with
 | none =>
  have HF:Hid (Qu.drop R x=(R,false)):=Lib.hid (by unfold Qu.drop;rw [hl]);have HI:Hid (Qu.ov R x=(0,false)):=Lib.hid (by unfold Qu.ov;rw [hl]);clear h hv hl
  go_enter Tryz.func123,Tryz.ntmps123
  go_wp2_with fail
  refine (Jp _ _ _ _ _ _ H.out).mono ?_
  rintro e w1 ⟨rfl,rfl⟩
  rw [HI.out]
  go_wp2_with fail
  go_ret
  unfold rU;rw [HF.out];exact ⟨rfl,aq.refl _ _,H.out⟩
 | some k =>
  obtain ⟨a,bb,hk,iS,he⟩:=Qu.RN hv hl;have F:=Qu.RJ hv hk iS;have HI:Hid (Qu.ov R x=((k:Int),true)):=Lib.hid (by unfold Qu.ov;rw [hl]);obtain ⟨y,rfl⟩:=Int.eq_ofNat_of_zero_le F.x0.1;have BC:y < n:=by have:=F.x0.2;omega
  obtain ⟨g1,o1,c1,g2,o2,c2,rfl,cG⟩:=h.raw (by omega) (by omega);have uU:=Qu.Rp hv hk iS;rw [Int.toNat_natCast] at uU;have RU:=Lib.hid (Qu.Jj hv hk iS);have uS:=Qu.ou (R:=R) BC;rw [F.tx] at uS;have rV:=Qu.EA hk;rw [iS] at rV;have yS:(Qu.ln R).length=R.length:=by simp [Qu.ln]
  obtain ⟨⟨e0,e1,e2⟩,f0,f1,f2⟩:=cG.aO uS;obtain ⟨⟨d0,d1,d2⟩,q0,q1,q2⟩:=cG.line rV;obtain ⟨oA,mP⟩:=cG.head;rw [Qu.iZ] at oA;rw [yS] at mP;have cJ:=h.lt;have HR:=Lib.hid cG;have RV:=Lib.hid uU;have yT:=Lib.hid rV;have HF:=Lib.hid F;have HE:=Lib.hid he;obtain ⟨n1,n2,n3⟩:=(⟨cG.2.2.2.1,cG.2.2.2.2.1,cG.2.2.2.2.2⟩:b≠g1∧b≠g2∧g1≠g2)
  have Rz:g2≠g1:=fun e=>n3 e.symm
  have m1:b < w.heap.size:=cJ b (by simp);have m2:g1 < w.heap.size:=cJ g1 (by simp);have m3:g2 < w.heap.size:=cJ g2 (by simp);have m4:w.heap.size≠b:=by omega
  have m5:w.heap.size≠g1:=by omega
  have m6:w.heap.size≠g2:=by omega
  have RB:=hv.tD;have RW:=hv.uP;have RY:(k:Int) < (R.length:Int):=by omega
  have Js:(y:Int) < (n:Int):=by omega
  have hlen:=F.len;obtain ⟨L,hL⟩:∃ L,(a ++ (y:Int) :: bb).length=L + 1:=⟨a.length + bb.length,by simp;omega⟩
  have HL:=Lib.hid hL;simp only [Qu.lc] at d0 d1 d2;rw [hL] at d2 hlen;obtain ⟨pa,BD⟩:∃ pa,a.getLastD (-1)=pa:=⟨_,rfl⟩
  obtain ⟨hb,qG⟩:∃ hb,bb.headD (-1)=hb:=⟨_,rfl⟩
  rw [BD] at e2;rw [qG] at e1;simp only at e0 e1 e2;have BE:=Lib.hid BD;have EK:=Lib.hid qG;obtain ⟨qa,RZ⟩:∃ q,(pa == -1)=q:=⟨_,rfl⟩
  obtain ⟨qb,EL⟩:∃ q,(hb == -1)=q:=⟨_,rfl⟩
  have JE:Hid (qa=decide (a=[])):=Lib.hid (by
   rw [← RZ,← BD,Bool.eq_iff_iff]
   by_cases ha:a=[]
   ·subst ha;simp
   ·have:=F.pa ha;simp only [beq_iff_eq,decide_eq_true_eq,ha,iff_false];omega)
  have JF:Hid (qb=decide (bb=[])):=Lib.hid (by
   rw [← EL,← qG,Bool.eq_iff_iff]
   by_cases ha:bb=[]
   ·subst ha;simp
   ·have:=F.hb ha;simp only [beq_iff_eq,decide_eq_true_eq,ha,iff_false];omega)
  clear h hv hl cG uU uS rV yS cJ F he iS hL BD qG
  go_enter Tryz.func123,Tryz.ntmps123
  go_wp2_with fail
  refine (Jp _ _ _ _ _ _ H.out).mono ?_
  rintro e w1 ⟨rfl,rfl⟩
  rw [HI.out]
  go_upto_if 32 with fail
  go_cut [40] (fun _ w'=>dj w' b g1 o1 c1 g2 o2 c2 (if a=[] then Qu.th n R else (Qu.th n R).set pa.toNat ((k:Int),hb,Qu.gq a pa)) ((Qu.ln R).set k ((a ++ bb).headD (-1),(a ++ (y:Int) :: bb).getLastD (-1),(L:Int) + 1))∧aq [b,g1,g2] w w'∧cr w' w.heap.size [.int .i64 k,.int .i64 hb,.int .i64 pa] 136)
  case first =>
   have yV:=HR.out.then ((aq.refl [] w).alloc (.cells #[.int .i64 k,.int .i64 hb,.int .i64 pa] 136));have R3:=Lib.hid yV;have kA:=RO w [.int .i64 k,.int .i64 hb,.int .i64 pa] 136;have R4:=Lib.hid kA;have j8:(a ++ (y:Int) :: bb).length=L + 1:=HL.out;have EM:Hid ((Qu.ln R)[k]?=some ((a ++ (y:Int) :: bb).headD (-1),(a ++ (y:Int) :: bb).getLastD (-1),(L:Int) + 1)):=Lib.hid (by rw [yT.out];unfold Qu.lc;rw [j8];simp);obtain ⟨⟨a0,a1,a2⟩,p0,p1,p2⟩:=yV.line EM.out;obtain ⟨x0,x1⟩:=yV.head;rw [Qu.iZ] at x0;rw [show (Qu.ln R).length=R.length by simp [Qu.ln]] at x1;have b1:(w.alloc (.cells #[.int .i64 k,.int .i64 hb,.int .i64 pa] 136)).cell? ⟨w.heap.size,1,none⟩=some (.int .i64 hb):=kA.cell 1;have b2:(w.alloc (.cells #[.int .i64 k,.int .i64 hb,.int .i64 pa] 136)).cell? ⟨w.heap.size,2,none⟩=some (.int .i64 pa):=kA.cell 2;clear yV kA j8;generalize (a ++ (y:Int) :: bb).getLastD (-1)=lal at *
   cases qa with
   | true =>
    have ha:a=[]:=by have:=JE.out;simpa using this
    subst ha;have EN:Hid (([] ++ bb).headD (-1)=hb):=Lib.hid (by rw [List.nil_append];exact EK.out)
    go_wp2_with fail
    go_meet
    refine ⟨?_,(((aq.refl _ w).setCell (by simp) _).alloc _),BB _ _ _ _ (by simp)⟩;rw [if_pos trivial,EN.out];exact (HR.out.l0 EM.out hb).then ((aq.refl [] _).alloc _)
   | false =>
    have ha:a≠[]:=by have:=JE.out;simpa using this
    have hf:=HF.out.pa ha;rw [BE.out] at hf;obtain ⟨z,rfl⟩:=Int.eq_ofNat_of_zero_le hf.1;have wM:z < n:=by omega
    have oB:=Qu.ou (R:=R) wM;rw [hf.2.2.2] at oB;have HZ:=Lib.hid oB;obtain ⟨⟨z0,z1,z2⟩,Jv,Jw,Jx⟩:=R3.out.aO oB;have Jy:(z:Int) < (n:Int):=by omega
    have EN:Hid ((a ++ bb).headD (-1)=(a ++ (y:Int) :: bb).headD (-1)):=Lib.hid (Qu.RQ ha);have EO:=Lib.hid ha;clear oB hf ha
    go_wp2_with fail
    go_region
    go_wp2_with fail
    go_meet
    refine ⟨?_,((((aq.refl _ w).setCell (by simp) _).alloc _).drew),(BB _ _ _ _ (by simp)).drew⟩;rw [if_neg EO.out,EN.out,Int.toNat_natCast,List.Jq EM.out];exact ((HR.out.t1 HZ.out hb).then ((aq.refl [] _).alloc _)).drew
  case rest =>
   obtain ⟨rW,bu,kA⟩:=hcut;have kP:=Lib.hid rW;have rX:=Lib.hid bu;have R4:=Lib.hid kA;have fK:k < (Qu.ln R).length:=by simp [Qu.ln];omega
   have JG:Hid (((Qu.ln R).set k ((a ++ bb).headD (-1),(a ++ (y:Int) :: bb).getLastD (-1),(L:Int) + 1))[k]?=some ((a ++ bb).headD (-1),(a ++ (y:Int) :: bb).getLastD (-1),(L:Int) + 1)):=Lib.hid (by simp [fK]);obtain ⟨⟨a0,a1,a2⟩,p0,p1,p2⟩:=rW.line JG.out;obtain ⟨x0,x1⟩:=rW.head;rw [show (if a=[] then Qu.th n R else (Qu.th n R).set pa.toNat ((k:Int),hb,Qu.gq a pa)).length=n by split <;> simp [Qu.iZ]] at x0;rw [List.length_set,show (Qu.ln R).length=R.length by simp [Qu.ln]] at x1;have b1:wc.cell? ⟨w.heap.size,1,none⟩=some (.int .i64 hb):=kA.cell 1;have b2:wc.cell? ⟨w.heap.size,2,none⟩=some (.int .i64 pa):=kA.cell 2;clear rW bu kA e0 e1 e2 f0 f1 f2 d0 d1 d2 q0 q1 q2 oA mP
   go_upto_if 50 with fail
   go_cut [60] (fun _ w'=>dj w' b g1 o1 c1 g2 o2 c2 (if bb=[] then (if a=[] then Qu.th n R else (Qu.th n R).set pa.toNat ((k:Int),hb,Qu.gq a pa)) else (if a=[] then Qu.th n R else (Qu.th n R).set pa.toNat ((k:Int),hb,Qu.gq a pa)).set hb.toNat ((k:Int),Qu.fy bb hb,pa)) ((Qu.ln R).set k ((a ++ bb).headD (-1),(a ++ bb).getLastD (-1),(L:Int) + 1))∧aq [b,g1,g2] w w')
   case first =>
    generalize (a ++ bb).headD (-1)=hd at *
    cases qb with
    | true =>
     have ha:bb=[]:=by have:=JF.out;simpa using this
     subst ha;have ju:Hid ((a ++ []).getLastD (-1)=pa):=Lib.hid (by rw [List.append_nil];exact BE.out)
     go_wp2_with fail
     go_meet
     refine ⟨?_,(rX.out.setCell (by simp) _)⟩;rw [if_pos trivial,ju.out];have:=kP.out.l1 JG.out pa;simp only [List.set_set] at this;exact this
    | false =>
     have ha:bb≠[]:=by have:=JF.out;simpa using this
     have hf:=HF.out.hb ha;have rT:=HF.out.ab;have oT:=HF.out.pa;rw [EK.out] at hf rT;rw [BE.out] at rT oT;obtain ⟨z,rfl⟩:=Int.eq_ofNat_of_zero_le hf.1;have wM:z < n:=by omega
     have oB:(if a=[] then Qu.th n R else (Qu.th n R).set pa.toNat ((k:Int),(z:Int),Qu.gq a pa))[z]?=some ((k:Int),Qu.fy bb (z:Int),(y:Int)):=by
      rw [← hf.2.2.2]
      split
      ·exact Qu.ou wM
      ·rename_i h1;have:=rT h1 ha;have:=oT h1;rw [List.getElem?_set_ne (by omega)];exact Qu.ou wM
     have HZ:=Lib.hid oB;obtain ⟨⟨z0,z1,z2⟩,Jv,Jw,Jx⟩:=kP.out.aO oB;have Jy:(z:Int) < (n:Int):=by omega
     have ju:Hid ((a ++ bb).getLastD (-1)=(a ++ (y:Int) :: bb).getLastD (-1)):=Lib.hid (by rw [Qu.JC ha,Qu.JC (by simp),Qu.RS ha]);have EO:=Lib.hid ha;clear oB hf ha rT oT;generalize Qu.fy bb (z:Int)=nz at *
     go_wp2_with fail
     go_region
     go_wp2_with fail
     go_meet
     refine ⟨?_,((rX.out.setCell (by simp) _).drew)⟩;rw [if_neg EO.out,ju.out,Int.toNat_natCast];exact (kP.out.t2 HZ.out pa).drew
   case rest =>
    obtain ⟨gB,bZ⟩:=hcut;have qJ:=Lib.hid gB;have uT:=Lib.hid bZ;have BA:Hid (((Qu.ln R).set k ((a ++ bb).headD (-1),(a ++ bb).getLastD (-1),(L:Int) + 1))[k]?=some ((a ++ bb).headD (-1),(a ++ bb).getLastD (-1),(L:Int) + 1)):=Lib.hid (by simp [fK]);obtain ⟨⟨a0,a1,a2⟩,p0,p1,p2⟩:=gB.line BA.out;obtain ⟨x0,x1⟩:=gB.head;rw [show (if bb=[] then (if a=[] then Qu.th n R else (Qu.th n R).set pa.toNat ((k:Int),hb,Qu.gq a pa)) else (if a=[] then Qu.th n R else (Qu.th n R).set pa.toNat ((k:Int),hb,Qu.gq a pa)).set hb.toNat ((k:Int),Qu.fy bb hb,pa)).length=n by split <;> split <;> simp [Qu.iZ]] at x0;rw [List.length_set,show (Qu.ln R).length=R.length by simp [Qu.ln]] at x1;have JH:(a ++ bb).length=L:=by have:=HL.out;simp at this ⊢;omega
    have EJ:Hid (Qu.ln (R.set k (a ++ bb))=(Qu.ln R).set k ((a ++ bb).headD (-1),(a ++ bb).getLastD (-1),(L:Int))):=Lib.hid (by
     rw [Qu.Jf];unfold Qu.lc;rw [JH])
    have EP:y < (if bb=[] then (if a=[] then Qu.th n R else (Qu.th n R).set pa.toNat ((k:Int),hb,Qu.gq a pa)) else (if a=[] then Qu.th n R else (Qu.th n R).set pa.toNat ((k:Int),hb,Qu.gq a pa)).set hb.toNat ((k:Int),Qu.fy bb hb,pa)).length:=by split <;> split <;> (simp [Qu.iZ];exact BC)
    have R5:=Lib.hid EP;obtain ⟨tt,JI⟩:=(⟨_,List.getElem?_eq_getElem EP⟩:∃ tt,(if bb=[] then (if a=[] then Qu.th n R else (Qu.th n R).set pa.toNat ((k:Int),hb,Qu.gq a pa)) else (if a=[] then Qu.th n R else (Qu.th n R).set pa.toNat ((k:Int),hb,Qu.gq a pa)).set hb.toNat ((k:Int),Qu.fy bb hb,pa))[y]?=some tt)
    obtain ⟨⟨t0,t1,t2⟩,tf0,tf1,tf2⟩:=gB.aO JI;clear gB bZ JH EP JI;have uU:=RV.out;rw [BE.out,EK.out] at uU;have R8:=Lib.hid uU;clear uU;generalize (a ++ bb).headD (-1)=hd at *;generalize (a ++ bb).getLastD (-1)=la at *;generalize (if bb=[] then (if a=[] then Qu.th n R else (Qu.th n R).set pa.toNat ((k:Int),hb,Qu.gq a pa)) else (if a=[] then Qu.th n R else (Qu.th n R).set pa.toNat ((k:Int),hb,Qu.gq a pa)).set hb.toNat ((k:Int),Qu.fy bb hb,pa))=A2 at *
    go_wp2_with fail
    go_ret
    unfold rU;rw [HE.out];refine ⟨rfl,((((uT.out.setCell (by simp) _).setCell (by simp) _).setCell (by simp) _).setCell (by simp) _),?_⟩;have r1:=qJ.out.l2 BA.out ((L:Int));have r2:=r1.ED (x:=y) R5.out (-1) (-1) (-1);simp only [List.set_set] at r2;exact r2.q R8.out.symm EJ.out.symm RU.out
open Go.RowKit
def PS (w:World) (p:Value) (size most:Nat) (s:Po.St) (S:List Nat):Prop:=Pl w p size most s.C s.M s.f s.H S
theorem NR.JJ {w w':World} {g off m cap:Nat} {es e:TypeId} {ll:List (List Int)} {T V:List Nat} {Us:List (List Nat)} (h:NR w (.slice (some ⟨g,off,none⟩) m cap) es e ll T Us) {k:Nat} {l l':List Int} {U U':List Nat} {x':Value} (hk:ll[k]?=some l) (hU:Us[k]?=some U)
  (kp:aq V w w') (R9:∀ x∈T,x∉V) (Sa:∀ (j:Nat) B,j≠k→Us[j]?=some B→∀ x∈B,x∉V) (uJ:IR w' x' e l' U') (hn:∀ x∈U',x∈U∨w.heap.size≤x) :
  NR (w'.setCell ⟨g,off + k,none⟩ x') (.slice (some ⟨g,off,none⟩) m cap) es e (ll.set k l') T (Us.set k U'):=by
 have cJ:=NR.lt h;obtain ⟨vs,hr,hl,hi,hd,hp⟩:=h;have fK:=(List.getElem?_eq_some_iff.1 hk).1;have nZ:k < vs.length:=by rw [hr.len];omega
 have wN:∀ x∈T,x∉U:=fun x hx hu=>hd U (List.mem_of_getElem? hU) x hu hx
 have gB:=hr.aY kp R9;obtain ⟨hs,Bm⟩:=gB.stored k nZ x';have JK:∀ x∈U',x∉T:=fun x hx ht=>by
  rcases hn x hx with h | h
  ·exact wN x ht h
  ·have:=cJ.1 x ht;omega
 have JL:∀ (j:Nat) B,j≠k→Us[j]?=some B→∀ x∈B,x∉U':=fun j B hj hB x hx fN=>by
  rcases hn x fN with h | h
  ·exact hp j k B U hj hB hU x hx h
  ·have:=cJ.2 B (List.mem_of_getElem? hB) x hx;omega
 refine ⟨vs.set k x',by rw [List.length_set];exact hs,by simp [hl],?_,?_,?_⟩
 ·intro j x A l2 a b c
  by_cases hj:k=j
  ·subst hj;rw [List.getElem?_set_self nZ] at a;rw [List.getElem?_set_self (by omega)] at b c
   cases a;cases b;cases c;exact uJ.aY Bm JK
  ·rw [List.getElem?_set_ne hj] at a b c;exact ((hi j x A l2 a b c).aY kp (Sa j A (fun e=>hj e.symm) b)).aY Bm (fun x hx=>hd A (List.mem_of_getElem? b) x hx)
 ·intro A hA x hx;rcases List.mem_or_eq_of_mem_set hA with h | rfl
  ·exact hd A h x hx
  ·exact JK x hx
 ·intro i j A B rJ hA hB x hx ES
  by_cases p9:k=i
  ·subst p9;rw [List.getElem?_set_self (by omega)] at hA
   cases hA;rw [List.getElem?_set_ne rJ] at hB;exact JL j B (fun e=>rJ e.symm) hB x ES hx
  ·rw [List.getElem?_set_ne p9] at hA
   by_cases mE:k=j
   ·subst mE;rw [List.getElem?_set_self (by omega)] at hB
    cases hB;exact JL i A (fun e=>p9 e.symm) hA x hx ES
   ·rw [List.getElem?_set_ne mE] at hB;exact hp i j A B rJ hA hB x hx ES
theorem uV {Us:List (List Nat)} {n:Nat} {U':List Nat} {x:Nat} (h:x∈(Us.set n U').flatten):x∈Us.flatten∨x∈U':=by
 obtain ⟨A,hA,hx⟩:=List.mem_flatten.1 h;rcases List.mem_or_eq_of_mem_set hA with h | rfl
 ·exact .inl (List.mem_flatten.2 ⟨A,h,hx⟩)
 ·exact .inr hx
theorem JM {w wc:World} {b n gT fS mT cap gH ja mH JN x:Nat} {size most f:Int} {vm BF v' ET EU:Value} {C:List (List Int)} {M M' l l':List Int} {H:List Bool} {t:Bool} {T Tm Th U U' mQ:List Nat} {Us:List (List Nat)}
  (Sb:ET=.slice (some ⟨gT,fS,none⟩) mT cap) (Sc:EU=.slice (some ⟨gH,ja,none⟩) mH JN)
  (hb:b < w.heap.size) (hc:NR w ET 28 3 C T Us) (hh:BR w EU H Th) (hm:IR w vm 3 M Tm)
  (ha:fq [[b],T,Us.flatten,Tm,Th]) (hk:C[n]?=some l) (hU:Us[n]?=some U) (cV:aq (b :: (U ++ Tm)) w wc)
  (dU:cr wc b [.int .i64 size,.int .i64 most,ET,BF,.int .i64 f,EU] 140)
  (fZ:IR wc v' 3 l' U') (rY:∀ x∈U',x∈U∨w.heap.size≤x) (gu:IR wc BF 3 M' mQ) (yW:∀ x∈mQ,x∈Tm∨w.heap.size≤x) (hd:∀ x∈U',x∉mQ) (hx:x < H.length) :
  ∃ S',Pl ((wc.setCell ⟨gT,fS + n,none⟩ v').setCell ⟨gH,ja + x,none⟩ (.bool t)) (.pointer (some ⟨b,0,none⟩)) size most (C.set n l') M' f (H.set x t) S' ∧
   aq (b :: (T ++ Us.flatten ++ Tm ++ Th)) w ((wc.setCell ⟨gT,fS + n,none⟩ v').setCell ⟨gH,ja + x,none⟩ (.bool t))∧∀ k∈S',k∈b :: (T ++ Us.flatten ++ Tm ++ Th)∨w.heap.size≤k:=by
 subst Sb Sc;have mR:=ha;simp only [fq,List.pairwise_cons,List.mem_cons,List.not_mem_nil,or_false,forall_eq_or_imp,forall_eq] at mR;obtain ⟨⟨a1,a2,a3,a4⟩,⟨a5,a6,a7⟩,⟨a8,a9⟩,iA,_⟩:=mR;have jv:∀ x∈U,x∈Us.flatten:=fun x hx=>List.mem_flatten.2 ⟨U,List.mem_of_getElem? hU,hx⟩
 have bY:=NR.lt hc;have EV:∀ x∈Us.flatten,x < w.heap.size:=fun x hx=>by
  obtain ⟨A,hA,hx⟩:=List.mem_flatten.1 hx;exact bY.2 A hA x hx
 have EW:=bY.1;have Se:=hh.lt;have gQ:=hm.lt;obtain ⟨gT',abh,_,_,e1,rfl,_⟩:=NR.get hc hk;obtain ⟨rfl,rfl⟩:=by simpa using e1
 have uW:=List.getElem?_eq_getElem hx;obtain ⟨gH',abj,e2,rfl,_⟩:=hh.cells uW;obtain ⟨rfl,rfl⟩:=by simpa using e2
 simp only [List.mem_singleton,forall_eq] at a1 a4 a5 a6 a7 EW Se;have Sg:∀ (i j:Nat) A B,i≠j→Us[i]?=some A→Us[j]?=some B→∀ x∈A,x∉B:=by
  obtain ⟨_,_,_,_,_,hp⟩:=hc;exact hp
 have Sh:=hc.JJ hk hU cV (by intro y hy hv;simp at hy;subst hy;simp at hv;rcases hv with h | h | h;exact a1 h.symm;exact a5 (jv _ h);exact a6 h)
  (fun j B hj hB y hy hv=>by
   have BG:y∈Us.flatten:=List.mem_flatten.2 ⟨B,List.mem_of_getElem? hB,hy⟩;simp at hv;rcases hv with rfl | h | h
   ·exact a2 BG
   ·exact Sg j n B U hj hB hU y hy h
   ·exact a8 y BG h) fZ rY
 have kc:aq [gT] wc (wc.setCell ⟨gT,fS + n,none⟩ v'):=(aq.refl _ _).setCell (by simp) _;have Sk:b∉U':=fun h=>by rcases rY b h with h | h;exact a2 (jv _ h);omega
 have JP:gT∉mQ:=fun h=>by rcases yW gT h with h | h;exact a6 h;omega
 have JQ:gH∉mQ:=fun h=>by
  rcases yW gH h with h | h
  ·exact iA gH h (by simp)
  ·omega
 have Sl:gH∉(b :: (U ++ Tm)):=by
  simp;refine ⟨fun h=>a4 h.symm,fun h=>a9 gH (jv _ h) (by simp),fun h=>iA gH h (by simp)⟩
 have Sm:=(hh.aY cV (by intro y hy;simp at hy;subst hy;exact Sl)).aY kc (by intro y hy;simp at hy;subst hy;simpa using fun h=>a7 h.symm);obtain ⟨Sn,kb⟩:=Sm.stored x hx t;refine ⟨b :: ([gT] ++ (Us.set n U').flatten ++ mQ ++ [gH]),⟨b,.slice (some ⟨gT,fS,none⟩) mT cap,BF,.slice (some ⟨gH,ja,none⟩) mH JN,[gT],Us.set n U',mQ,[gH],rfl,?_,?_,?_,?_,?_,rfl⟩,?_,?_⟩
 ·exact ((dU.aY kc (by simpa using a1)).aY kb (by simpa using a4))
 ·refine Sh.aY kb (by simpa using a7) ?_;intro A hA y hy;have BG:y∈(Us.set n U').flatten:=List.mem_flatten.2 ⟨A,hA,hy⟩;rcases uV BG with h | h
  ·exact a9 y h
  ·rcases rY y h with h | h
   ·exact a9 y (jv _ h)
   ·simp;omega
 ·exact (gu.aY kc (by intro y hy h;simp at h;subst h;exact JP hy)).aY kb (by intro y hy h;simp at h;subst h;exact JQ hy)
 ·simpa using Sn
 ·simp only [fq,List.pairwise_cons,List.mem_cons,List.not_mem_nil,or_false,forall_eq_or_imp,forall_eq,List.Pairwise.nil,and_true,List.mem_singleton];refine ⟨⟨a1,?_,?_,a4⟩,⟨?_,JP,a7⟩,⟨?_,?_⟩,?_,by simp⟩
  ·intro h;rcases uV h with h | h
   ·exact a2 h
   ·exact Sk h
  ·intro h;rcases yW b h with h | h
   ·exact a3 h
   ·omega
  ·intro h;rcases uV h with h | h
   ·exact a5 h
   ·rcases rY gT h with h | h
    ·exact a5 (jv _ h)
    ·omega
  ·intro y hy tG;rcases uV hy with h | h
   ·rcases yW y tG with h1 | h1
    ·exact a8 y h h1
    ·have:=EV y h;omega
   ·exact hd y h tG
  ·intro y hy h;subst h;rcases uV hy with h | h
   ·exact a9 y h (by simp)
   ·rcases rY y h with h | h
    ·exact a9 y (jv _ h) (by simp)
    ·omega
  ·intro y hy h;subst h;exact JQ hy
 ·refine ((cV.mono (T:=b :: ([gT] ++ Us.flatten ++ Tm ++ [gH])) ?_).setCell (by simp) _).setCell (by simp) _;intro y hy
  left
  simp at hy ⊢;rcases hy with rfl | h | h
  ·simp
  ·have:=jv y h;simp at this;simp [this]
  ·simp [h]
 ·intro y hy;simp only [List.mem_cons,List.mem_append,List.not_mem_nil,or_false] at hy ⊢;rcases hy with rfl | ((rfl | h) | h) | rfl
  ·simp
  ·simp
  ·rcases uV h with h | h
   ·simp only [h,true_or,or_true]
   ·rcases rY y h with h | h
    ·have:=jv y h;simp only [this,true_or,or_true]
    ·exact .inr h
  ·rcases yW y h with h | h
   ·simp only [h,true_or,or_true]
   ·exact .inr h
  ·simp
def wO:Value→Nat
 | .slice _ n _=>n
 | _=>0
theorem Po.JR (M:List Int) (k j:Nat) (h:M.length - k=j + 1):M.reverse.take (k + 1)=M.reverse.take k ++ [M.getD j 0]:=by
 have hk:k < M.reverse.length:=by simp;omega
 rw [List.take_succ_eq_append_getElem hk,List.getElem_reverse]
 congr 2
 rw [List.getD_eq_getElem?_getD,List.getElem?_eq_getElem (by omega)];simp only [Option.getD_some]
 congr 1;omega
open Go.RowKit
def BH (r:Po.St × Bool) (p:Value) (size most:Nat) (S:List Nat) (w:World) (e:Ending) (w':World):Prop :=
 e=.returned (.bool r.2)∧∃ S',PS w' p size most r.1 S'∧aq S w w'∧∀ k∈S',k∈S∨w.heap.size≤k
def EX (w:World) (b:Nat) (size most:Nat) (vc vh:Value) (f:Nat) (o m:List Int) (U Tm:List Nat) (v7:Value) (w':World):Prop :=
 ∃ ao cap vm mQ,v7=.slice ao o.length cap∧aq (b :: Tm) w w'∧cr w' b [.int .i64 size,.int .i64 most,vc,vm,.int .i64 f,vh] 140 ∧
  IR w' v7 3 o U∧IR w' vm 3 m mQ∧(∀ x∈mQ,x∈Tm∨w.heap.size≤x)
def yX (w:World) (b:Nat) (size most:Nat) (vc vh:Value) (f:Nat) (M c:List Int) (U Tm:List Nat) (k:Nat) (v7:Value) (w':World):Prop :=
 ∃ ao cap vm mQ,v7=.slice ao (c.length - k) cap∧aq (b :: Tm) w w'∧cr w' b [.int .i64 size,.int .i64 most,vc,vm,.int .i64 f,vh] 140 ∧
  IR w' v7 3 (c.take (c.length - k)) U∧IR w' vm 3 (M ++ c.reverse.take k) mQ∧(∀ x∈mQ,x∈Tm∨w.heap.size≤x)
theorem yX.step {w wr w7:World} {b size most:Nat} {vc vh:Value} {f:Nat} {M c:List Int} {U Tm T6 T7:List Nat} {k gC wP j lF n7 kQ:Nat} {kR:Option Addr}
  (EY:b∉U) (yY:b∉Tm) (wN:∀ x∈Tm,x∉U) (hb:b < w.heap.size) (EV:∀ x∈U,x < w.heap.size) (cV:aq (b :: Tm) w wr)
  {vm:Value} (dU:cr wr b [.int .i64 size,.int .i64 most,vc,vm,.int .i64 f,vh] 140)
  (jw:IR wr (.slice (some ⟨gC,wP,none⟩) (j + 1) lF) 3 (c.take (j + 1)) U) (lG:∀ x∈T6,x∈Tm∨w.heap.size≤x) (hj:c.length - k=j + 1)
  (r7:IR w7 (.slice kR n7 kQ) 3 ((M ++ c.reverse.take k) ++ [c.getD j 0]) T7) (k7:aq T6 wr w7) (s7:∀ x∈T7,x∈T6∨wr.heap.size≤x) (m:Nat) :
  yX w b size most vc vh f M c U Tm (k + 1) (.slice (some ⟨gC,wP,none⟩) j lF) ((w7.setCell ⟨b,3,none⟩ (.slice kR n7 kQ)).drewN m):=by
 have jZ:=cV.size;have rZ:b∉T6:=fun hx=>by rcases lG b hx with h | h;exact yY h;omega
 have EZ:b∉T7:=fun hx=>by rcases s7 b hx with h | h;exact rZ h;omega
 have kS:∀ x∈U,x∉T6:=fun x hx h6=>by rcases lG x h6 with h | h;exact wN x h hx;have:=EV x hx;omega
 have gQ:(c.take (j + 1)).length=j + 1:=by simp;omega
 have o7:aq [b] w7 (w7.setCell ⟨b,3,none⟩ (.slice kR n7 kQ)):=(aq.refl [b] w7).setCell (by simp) _;have uX:IR wr (.slice (some ⟨gC,wP,none⟩) j lF) 3 (c.take j) U:=by
  have:=IR.prefix (l:=c.take (j + 1)) (by rw [gQ];exact jw) j (by omega)
  rwa [List.take_take,Nat.min_eq_left (by omega)] at this
 have kT:∀ W:World,aq [] W (W.drewN m):=fun W=>(aq.refl [] W).drewN m
 refine ⟨some ⟨gC,wP,none⟩,lF,.slice kR n7 kQ,T7,by rw [show c.length - (k + 1)=j by omega],?_,?_,?_,?_,?_⟩
 ·refine ((cV.trans k7 (fun x hx=>?_)).setCell (by simp) _).drewN m;rcases lG x hx with h | h
  ·left;simp [h]
  ·exact .inr h
 ·have:=((dU.aY k7 rZ).set 3 (.slice kR n7 kQ)).aY (kT _) (by simp);simpa using this
 ·rw [show c.length - (k + 1)=j by omega];exact ((uX.aY k7 kS).aY o7 (fun x hx h=>by simp at h;subst h;exact EY hx)).then (kT _)
 ·rw [Po.JR c k j hj,← List.append_assoc];exact (r7.aY o7 (fun x hx h=>by simp at h;subst h;exact EZ hx)).then (kT _)
 ·intro x hx;rcases s7 x hx with h | h
  ·exact lG x h
  ·right;omega
set_option maxRecDepth 100000 in
set_option maxHeartbeats 1600000 in
theorem So (w:World) (p:Value) (size most:Nat) (s:Po.St) (S:List Nat) (g y:Int) (h:PS w p size most s S) (v:Po.Inv size most s) :
  Calls Tryz.prog 117 #[p,.int .i64 g,.int .i64 y] w (BH (Po.cy most s g y) p size most S w):=by
 have HP:=Lib.hid h;have HV:=Lib.hid v;obtain ⟨b,vc,vm,vh,T1,Us,Tm,Th,rfl,hb,hc,hm,hh,ha,rfl⟩:=h;obtain ⟨ta,cF,o8⟩:=(⟨v.m1,v.m2,v.s1⟩:_∧_∧_)
 have yZ:(s.f:Int)≤(s.H.length:Int):=by have:=v.fl;have:=v.hl;omega
 clear v
 cases ht:Po.kF s.C g with
 | false =>
  have HF:Hid (Po.cy most s g y=(s,false)):=Lib.hid (by simp [Po.cy,ht]);clear hb hc hm hh ha
  go_enter Tryz.func117,Tryz.ntmps117
  go_wp2_with fail
  refine (uN _ _ _ _ _ _ _ _ _ _ HP.out).mono ?_
  rintro e w1 ⟨rfl,rfl⟩
  rw [ht]
  go_wp2_with fail
  go_ret
  unfold BH;rw [HF.out];exact ⟨rfl,_,HP.out,aq.refl _ _,fun k hk=>.inl hk⟩
 | true =>
  cases qL:Po.live s.f s.H y with
  | false =>
   have HF:Hid (Po.cy most s g y=(s,false)):=Lib.hid (by simp [Po.cy,qL]);clear hb hc hm hh ha
   go_enter Tryz.func117,Tryz.ntmps117
   go_wp2_with fail
   refine (uN _ _ _ _ _ _ _ _ _ _ HP.out).mono ?_
   rintro e w1 ⟨rfl,rfl⟩
   rw [ht]
   go_wp2_with fail
   refine (El _ _ _ _ _ _ _ _ _ _ HP.out yZ).mono ?_
   rintro e w1 ⟨rfl,rfl⟩
   rw [qL]
   go_wp2_with fail
   go_ret
   unfold BH;rw [HF.out];exact ⟨rfl,_,HP.out,aq.refl _ _,fun k hk=>.inl hk⟩
  | true =>
   have h2:=ht;simp only [Po.kF,Bool.and_eq_true,decide_eq_true_eq] at h2;obtain ⟨n,rfl⟩:=Int.eq_ofNat_of_zero_le h2.1;have h3:=qL;simp only [Po.live,Bool.and_eq_true,decide_eq_true_eq] at h3;obtain ⟨x,rfl⟩:=Int.eq_ofNat_of_zero_le h3.1.1;have y7:x < s.H.length:=by omega
   have hn:n < s.C.length:=by omega
   have hle:=hc.le;unfold maxLen at hle;obtain ⟨ao,cap,rfl⟩:=hc.shape;have hk:=List.getElem?_eq_getElem hn;obtain ⟨c,mD⟩:∃ c,s.C[n]=c:=⟨_,rfl⟩
   rw [mD] at hk;have y8:s.C.getD n []=c:=by rw [List.getD_eq_getElem?_getD,hk];rfl
   have Sp:Hid (Po.cy most s n x=(Po.qu most s n c x,true)):=Lib.hid (by
    unfold Po.cy;rw [ht,qL];simp only [if_true,Int.toNat_natCast,y8,Bool.and_self])
   have bY:c.length≤most:=HV.out.qv c (List.mem_of_getElem? hk);have Sq:s.M.length≤64:=HV.out.lens.1;obtain ⟨gT,fS,x0,U,rfl,rfl,y9,cT,fT,hr,hU,JU⟩:=hc.get hk;obtain ⟨o9,lF,rfl⟩:=hr.shape;have c2:w.cell? ⟨b,2,none⟩=some (.slice (some ⟨gT,fS,none⟩) s.C.length cap):=hb.cell 2;have c1:w.cell? ⟨b,1,none⟩=some (.int .i64 most):=hb.cell 1;have cJ:(n:Int) < s.C.length:=by omega
   obtain ⟨Sr,r8,rfl⟩:=hh.shape;have uW:=List.getElem?_eq_getElem y7;obtain ⟨gH,ja,rfl,rfl,E0,cH,fH⟩:=hh.cells uW;generalize s.H[x]=t0 at *;have HB:=Lib.hid hb;have HC:=Lib.hid hc;have HM:=Lib.hid hm;have HH:=Lib.hid hh;have HA:=Lib.hid ha;have HR:=Lib.hid hr;have HU:=Lib.hid hU;have HK:=Lib.hid hk;have mR:=ha;simp only [fq,List.pairwise_cons,List.mem_cons,List.not_mem_nil,or_false,forall_eq_or_imp,forall_eq] at mR;obtain ⟨⟨a1,a2,a3,a4⟩,⟨a5,a6,a7⟩,⟨a8,a9⟩,iA,jy⟩:=mR;have jv:∀ x∈U,x∈Us.flatten:=fun x hx=>List.mem_flatten.2 ⟨U,List.mem_of_getElem? hU,hx⟩
   have gE:Hid (b∉U∧b∉Tm∧(∀ x∈Tm,x∉U)∧b < w.heap.size∧(∀ x∈U,x < w.heap.size)∧gT∉Tm∧gH∉Tm∧gH∉U):=Lib.hid
    ⟨fun h=>a2 (jv b h),a3,fun x hx h=>a8 x (jv x h) hx,hb.lt,hr.lt,a6,fun h=>iA gH h (by simp),fun h=>a9 gH (jv _ h) (by simp)⟩
   have n1:b≠gT:=by simpa using a1
   have n2:b≠gH:=by simpa using a4
   have n3:gT≠gH:=by simpa using a7
   clear hb hc hm hh ha hr hU hk mD y8 h2 h3 uW a1 a2 a3 a4 a5 a6 a7 a8 a9 iA jy jv;have abk:c.length≤16:=by omega
   obtain ⟨o,ho⟩:∃ o,c.take (c.length - Po.eD most c)=o:=⟨_,rfl⟩
   have uY:=Lib.hid ho;have nY:o.length≤16:=by rw [← ho];simp;omega
   clear ho;obtain ⟨q,hq⟩:∃ q,decide (c.length=most)=q:=⟨_,rfl⟩
   have HQ:Hid (q=decide (c.length=most)):=Lib.hid hq.symm;have og:((c.length:Int) == (most:Int))=q:=by rw [← hq,Bool.eq_iff_iff];simp;omega
   go_enter Tryz.func117,Tryz.ntmps117
   go_wp2_with fail
   refine (uN _ _ _ _ _ _ _ _ _ _ HP.out).mono ?_
   rintro e w1 ⟨rfl,rfl⟩
   rw [ht]
   go_wp2_with fail
   refine (El _ _ _ _ _ _ _ _ _ _ HP.out yZ).mono ?_
   rintro e w1 ⟨rfl,rfl⟩
   rw [qL]
   go_upto_if 32 with fail
   go_cut [7] (fun v7 w'=>EX w b size most (.slice (some ⟨gT,fS,none⟩) s.C.length cap) (.slice (some ⟨gH,ja,none⟩) s.H.length r8) s.f o (s.M ++ c.reverse.take (Po.eD most c)) U Tm v7 w')
   case first =>
    cases q with
    | true =>
     have h0:c.length=most:=by have:=HQ.out;simpa using this
     have Sv:Hid (Po.eD most c=c.length - most / 2):=Lib.hid (by simp [Po.eD,h0]);have E3:Hid (yX w b size most (.slice (some ⟨gT,fS,none⟩) s.C.length cap) (.slice (some ⟨gH,ja,none⟩) s.H.length r8) s.f s.M c U Tm 0 (.slice o9 c.length lF) w):=Lib.hid
      ⟨o9,lF,vm,Tm,by simp,aq.refl _ _,HB.out,by simpa using HR.out,by simpa using HM.out,fun x hx=>.inl hx⟩
     clear h0
     go_wp2_with fail
     go_loopw [7] (fun v7 wr=>∃ k:Nat,k≤c.length - most / 2∧yX w b size most (.slice (some ⟨gT,fS,none⟩) s.C.length cap) (.slice (some ⟨gH,ja,none⟩) s.H.length r8) s.f s.M c U Tm k v7 wr) (fun v7 _=>wO v7)
     case atStart=>exact ⟨0,Nat.zero_le _,E3.out⟩
     case round =>
      obtain ⟨k,hk,tH,oC,wQ,T6,rfl,cV,dU,fZ,gu,lG⟩:=hrel;have d1:wr.cell? ⟨b,1,none⟩=some (.int .i64 most):=dU.cell 1
      by_cases uZ:k < c.length - most / 2
      ·obtain ⟨j,hj⟩:∃ j,c.length - k=j + 1:=⟨c.length - k - 1,by omega⟩
       rw [hj] at fZ;have gQ:(c.take (j + 1)).length=j + 1:=by simp;omega
       obtain ⟨gC,wP,rfl,rfl,hgC,JV,_⟩:=fZ.cells (by omega);have cC:wr.cell? ⟨gC,wP + j,none⟩=some (.int .i64 (c.getD j 0)):=by
        have:=JV j (by omega);rw [this,List.getD_eq_getElem?_getD,List.getD_eq_getElem?_getD,List.getElem?_take,if_pos (by omega)]
       have r9:j + 1≤oC:=by obtain ⟨_,_,_,e,h1,_⟩:=fZ;simp at e;omega
       obtain ⟨m6,BI⟩:∃ m,s.M ++ c.reverse.take k=m:=⟨_,rfl⟩
       have abm:m6.length≤80:=by rw [← BI];simp;omega
       rw [BI] at gu;obtain ⟨tI,jz,rfl⟩:=gu.shape;have d3:wr.cell? ⟨b,3,none⟩=some (.slice tI m6.length jz):=dU.cell 3;have f3:wr.frozen? ⟨b,3,none⟩=false:=dU.free 3;have JX:b∉T6:=fun h=>by
        rcases lG b h with h | h
        ·exact gE.out.2.1 h
        ·have:=gE.out.2.2.2.1;omega
       have abn:gC∉T6:=fun h=>by
        rcases lG gC h with h | h
        ·exact gE.out.2.2.1 gC h (by simp)
        ·have:=gE.out.2.2.2.2.1 gC (by simp);omega
       have JY:decide ((most:Int) / 2 < (j:Int) + 1)=true:=by simp;omega
       have RE:(j:Int) + 1≤(oC:Int):=by omega
       have hj0:(0:Int)≤(j:Int):=by omega
       have Sw:j≤64:=by omega
       have hjx:(j:Int) < (j:Int) + 1:=by omega
       have ig:=Lib.hid cV;have u6:=Lib.hid dU;have oD:=Lib.hid fZ;have tJ:=Lib.hid gu;have za:=Lib.hid lG;have Sy:=Lib.hid BI;have HJ:=Lib.hid hj;have uT:Hid (k + 1≤c.length - most / 2):=Lib.hid uZ;rw [hj];clear cV dU fZ gu lG BI JV gQ hj hk uZ;obtain ⟨x2,HX⟩:∃ x,Hid (c.getD j 0=x):=⟨_,rfl⟩
       rw [HX.out] at cC
       go_wp2_with fail
       have d3a:(wr.alloc (.cells #[.int .i64 x2] 3)).drew.cell? ⟨b,3,none⟩=some (.slice tI m6.length jz):=(World.cell?_alloc_past _ _ _ (block_lt_of_cell d3)).trans d3
       go_region_law (refine DF rO (tJ.out.then ((aq.refl [] wr).drew)) (by omega) ?_;intro kR kQ w7 T7 r7 k7 s7;have k8:aq T6 wr w7:=((aq.refl T6 wr).drew).trans k7 (fun x hx=>.inl hx);have f7:w7.frozen? ⟨b,3,none⟩=false:=(World.frozen?_of_block (a:=⟨b,3,none⟩) (k8.block b (block_lt_of_cell d3) JX)).trans f3;have e3:w7.cell? ⟨b,3,none⟩=some (.slice tI m6.length jz):=k8.cell (by exact d3) JX;have E4:=Lib.hid (fun m=>yX.step gE.out.1 gE.out.2.1 gE.out.2.2.1 gE.out.2.2.2.1 gE.out.2.2.2.2.1 ig.out u6.out oD.out za.out HJ.out (by rw [Sy.out,HX.out];exact r7) k8 s7 m);clear r7 k7 s7 k8)
       all_goals
        go_wp2_with fail
        go_roundw
        case rel=>exact ⟨k + 1,uT.out,E4.out 0⟩
        case measure=>simp [wO]
      ·have sj:Hid (EX w b size most (.slice (some ⟨gT,fS,none⟩) s.C.length cap) (.slice (some ⟨gH,ja,none⟩) s.H.length r8) s.f o (s.M ++ c.reverse.take (Po.eD most c)) U Tm (.slice tH (c.length - k) oC) wr):=Lib.hid (by
        have hN:c.length - most / 2=k:=by omega
        rw [← uY.out,Sv.out,hN];exact ⟨tH,oC,wQ,T6,by simp,cV,dU,fZ,gu,lG⟩)
       obtain ⟨m,hm⟩:∃ m,c.length - k=m:=⟨_,rfl⟩
       rw [hm] at sj ⊢;have abr:decide ((most:Int) / 2 < (m:Int))=false:=by simp;omega
       have abt:m≤64:=by omega
       clear cV dU fZ gu lG hk uZ hm
       go_wp2_with fail
       go_meet
       exact sj.out
    | false =>
     have h0:¬ c.length=most:=by have:=HQ.out;simpa using this
     have sj:Hid (EX w b size most (.slice (some ⟨gT,fS,none⟩) s.C.length cap) (.slice (some ⟨gH,ja,none⟩) s.H.length r8) s.f o (s.M ++ c.reverse.take (Po.eD most c)) U Tm (.slice o9 c.length lF) w):=Lib.hid (by
      have e1:Po.eD most c=0:=by simp [Po.eD,h0]
      have e2:o=c:=by rw [← uY.out,e1];simp
      rw [e1,e2];exact ⟨o9,lF,vm,Tm,rfl,aq.refl _ _,HB.out,HR.out,by simpa using HM.out,fun x hx=>.inl hx⟩)
     clear h0
     go_wp2_with fail
     go_meet
     exact sj.out
   case rest =>
    obtain ⟨tH,oC,wQ,T6,rfl,cV,dU,fZ,gu,lG⟩:=hcut;have tK:=gE.out;have d2:wc.cell? ⟨b,2,none⟩=some (.slice (some ⟨gT,fS,none⟩) s.C.length cap):=dU.cell 2;have e5:wc.cell? ⟨b,5,none⟩=some (.slice (some ⟨gH,ja,none⟩) s.H.length r8):=dU.cell 5;have JZ:gH∉(b :: Tm):=by simp;exact ⟨fun h=>n2 h.symm,tK.2.2.2.2.2.2.1⟩
    have J0:gT∉(b :: Tm):=by simp;exact ⟨fun h=>n1 h.symm,tK.2.2.2.2.2.1⟩
    have eH:=cV.cell cH JZ;have eT:=cV.cell cT J0;have J3:wc.frozen? ⟨gH,ja + x,none⟩=false:=(World.frozen?_of_block (a:=⟨gH,ja + x,none⟩) (cV.block gH E0 JZ)).trans fH;have J4:wc.frozen? ⟨gT,fS + n,none⟩=false:=(World.frozen?_of_block (a:=⟨gT,fS + n,none⟩) (cV.block gT y9 J0)).trans fT;have Sz:(x:Int) < (s.H.length:Int):=by omega
    have ig:=Lib.hid cV;have u6:=Lib.hid dU;have oD:=Lib.hid fZ;have tJ:=Lib.hid gu;have za:=Lib.hid lG;clear cV dU fZ gu lG tK
    go_wp2_with fail
    obtain ⟨tI,jz,hvm⟩:=tJ.out.shape;have d2a:(wc.alloc (.cells #[.int .i64 (x:Int)] 3)).drew.cell? ⟨b,2,none⟩=some (.slice (some ⟨gT,fS,none⟩) s.C.length cap):=(World.cell?_alloc_past _ _ _ (block_lt_of_cell d2)).trans d2;have J5:gT∉U:=JU
    go_region_law (refine DF rO (oD.out.then ((aq.refl [] wc).drew)) (by omega) ?_;intro kR kQ w7 U7 r7 k7 s7;have k8:aq U wc w7:=((aq.refl U wc).drew).trans k7 (fun x hx=>.inl hx);have g7:w7.frozen? ⟨gT,fS + n,none⟩=false:=(World.frozen?_of_block (a:=⟨gT,fS + n,none⟩) (k8.block gT (block_lt_of_cell eT) J5)).trans J4;have e7:w7.cell? ⟨gT,fS + n,none⟩=some (.slice o9 c.length lF):=k8.cell eT J5;have e72:w7.cell? ⟨b,2,none⟩=some (.slice (some ⟨gT,fS,none⟩) s.C.length cap):=k8.cell d2 gE.out.1;have e75:w7.cell? ⟨b,5,none⟩=some (.slice (some ⟨gH,ja,none⟩) s.H.length r8):=k8.cell e5 gE.out.1;have e7H:w7.cell? ⟨gH,ja + x,none⟩=some (.bool t0):=k8.cell eH gE.out.2.2.2.2.2.2.2;have g7H:w7.frozen? ⟨gH,ja + x,none⟩=false:=(World.frozen?_of_block (a:=⟨gH,ja + x,none⟩) (k8.block gH (block_lt_of_cell eH) gE.out.2.2.2.2.2.2.2)).trans J3;have R7:=Lib.hid r7;have K8:=Lib.hid k8;have S7:=Lib.hid s7;clear r7 k7 s7 k8)
    all_goals
     obtain ⟨S',zb,zc,ze⟩:=JM (t:=true) (BF:=wQ) (M':=s.M ++ c.reverse.take (Po.eD most c)) (mQ:=T6) rfl rfl gE.out.2.2.2.1 HC.out HH.out HM.out HA.out HK.out HU.out
      ((ig.out.mono (T:=b :: (U ++ Tm)) (fun y hy=>by left;simp at hy ⊢;rcases hy with h | h <;> simp [h])).trans K8.out (fun y hy=>by left;simp [hy])) (u6.out.aY K8.out gE.out.1) R7.out (fun y hy=>by
       rcases S7.out y hy with h | h
       ·exact .inl h
       ·have:=ig.out.size;have h':wc.heap.size≤y:=h;omega) (tJ.out.aY K8.out (fun y hy hu=>by
        rcases za.out y hy with h | h
        ·exact gE.out.2.2.1 y h hu
        ·have:=gE.out.2.2.2.2.1 y hu;omega)) za.out (fun y hy tG=>by
       rcases S7.out y hy with h | h
       ·rcases za.out y tG with h1 | h1
        ·exact gE.out.2.2.1 y h1 h
        ·have:=gE.out.2.2.2.2.1 y h;omega
       ·have:=tJ.out.lt y tG;have h':wc.heap.size≤y:=h;omega) y7
     have E6:=Lib.hid zb;have kU:=Lib.hid zc;have E7:=Lib.hid ze;clear zb zc ze
     go_wp2_with fail
     go_ret
     unfold BH;rw [Sp.out];refine ⟨rfl,S',?_,kU.out,E7.out⟩
     show Pl _ _ _ _ (s.C.set n (c.take (c.length - Po.eD most c) ++ [(x:Int)])) _ _ (s.H.set ((x:Int)).toNat true) S';rw [uY.out,Int.toNat_natCast];exact E6.out
namespace Po
def fits (size cR most:Int):Bool:=decide (0≤size∧size≤64∧0≤cR∧cR≤8∧1≤most∧most≤16)
theorem J6 {size cR most:Int} (h:fits size cR most=true):0≤size∧size≤64∧0≤cR∧cR≤8∧1≤most∧most≤16:=by simpa [fits] using h
end Po
open Go.RowKit
namespace Po
def new (size cR:Nat):St:=⟨List.replicate cR [],[],0,List.replicate size false⟩
end Po
theorem J7 (w:World) (size cR most:Int) :
  Calls Tryz.prog 183 #[.int .i64 size,.int .i64 cR,.int .i64 most] w fun e w'=>e=.returned (.bool (Po.fits size cR most))∧w=w':=by
 have zf:size < 0∨(0≤size∧64 < size)∨(0≤size∧size≤64∧cR < 0)∨(0≤size∧size≤64∧0≤cR∧8 < cR)∨(0≤size∧size≤64∧0≤cR∧cR≤8∧most < 1)∨(0≤size∧size≤64∧0≤cR∧cR≤8∧1≤most∧16 < most)∨(0≤size∧size≤64∧0≤cR∧cR≤8∧1≤most∧most≤16):=by omega
 obtain ⟨c,hc⟩:∃ c,c=Po.fits size cR most:=⟨_,rfl⟩
 have HC:=Lib.hid hc;rw [← hc];clear hc;rcases zf with h1 | ⟨h1,h2⟩ | ⟨h1,h2,h3⟩ | ⟨h1,h2,h3,h4⟩ | ⟨h1,h2,h3,h4,h5⟩ | ⟨h1,h2,h3,h4,h5,h6⟩ | ⟨h1,h2,h3,h4,h5,h6⟩
 all_goals go_enter Tryz.func183,Tryz.ntmps183
 all_goals go_wp2_with fail
 all_goals go_ret
 all_goals exact ⟨eW (by rw [HC.out,Bool.eq_iff_iff];simp [Po.fits];omega),rfl⟩
theorem NR.made {w:World} {v:Value} {es e:TypeId} {n:Nat} {T:List Nat} (h:Row w v es 1 n (List.replicate n (.slice none 0 0)) T):NR w v es e (List.replicate n []) T (List.replicate n []):=by
 refine ⟨List.replicate n (.slice none 0 0),by simpa using h,by simp,?_,?_,?_⟩
 ·intro k x U l a b c;obtain ⟨_,rfl⟩:=List.getElem?_eq_some_iff.1 a;obtain ⟨_,rfl⟩:=List.getElem?_eq_some_iff.1 b;obtain ⟨_,rfl⟩:=List.getElem?_eq_some_iff.1 c;simp only [List.getElem_replicate];exact IR.nil w e
 ·intro U hU x hx;rw [(List.mem_replicate.1 hU).2] at hx;cases hx
 ·intro i j A B _ hA hB x hx;obtain ⟨_,rfl⟩:=List.getElem?_eq_some_iff.1 hA;simp at hx
theorem J8 (z:Value) (n:Nat):madeCells #[z] n=(List.replicate n z).toArray:=by
 apply Array.toList_inj.1;rw [toList_madeCells_one]
def J9 (size cR most:Nat) (w:World) (e:Ending) (w':World):Prop :=
 ∃ p S,e=.returned (.tuple #[p,.int .i64 0])∧aq [] w w'∧PS w' p size most (Po.new size cR) S∧∀ k∈S,w.heap.size≤k
theorem Ka {w W:World} {b g h:Nat} {size cR most:Nat} (hw:aq [] w W) (hb:cr W b [.int .i64 size,.int .i64 most,.slice (some ⟨g,0,none⟩) cR cR,.slice none 0 0,.int .i64 ((0:Nat):Int),.slice (some ⟨h,0,none⟩) size size] 140)
  (hg:Row W (.slice (some ⟨g,0,none⟩) cR cR) 28 1 cR (List.replicate cR (.slice none 0 0)) [g])
  (hh:Row W (.slice (some ⟨h,0,none⟩) size size) 4 1 size (List.replicate size (.bool false)) [h])
  (h1:b≠g) (h2:b≠h) (h3:g≠h) (k1:w.heap.size≤b) (k2:w.heap.size≤g) (k3:w.heap.size≤h) :
  J9 size cR most w (.returned (.tuple #[.pointer (some ⟨b,0,none⟩),.int .i64 0])) W:=by
 have lp:(List.replicate cR ([]:List Nat)).flatten=[]:=by
  clear hb hg
  induction cR with
  | zero=>rfl
  | succ n ih=>rw [List.replicate_succ,List.flatten_cons,ih];rfl
 refine ⟨_,b :: ([g] ++ (List.replicate cR ([]:List Nat)).flatten ++ [] ++ [h]),rfl,hw,⟨b,.slice (some ⟨g,0,none⟩) cR cR,.slice none 0 0,.slice (some ⟨h,0,none⟩) size size,[g],List.replicate cR [],[],[h],rfl,hb,NR.made hg,IR.nil _ _,?_,?_,rfl⟩,?_⟩
 ·unfold BR Po.new;simpa using hh
 ·simp only [fq,lp,List.pairwise_cons,List.mem_cons,List.not_mem_nil,or_false,forall_eq_or_imp,forall_eq,List.Pairwise.nil,and_true,List.mem_singleton];simp [h1,h2,h3]
 ·rw [lp];intro k hk;simp at hk;rcases hk with rfl | rfl | rfl <;> assumption
theorem BJ (w:World) (z:Value) (n:Nat) (e:TypeId) (b:Nat) (hn:n≤1000) (hb:b=w.heap.size):Row (w.alloc (.cells (Array.replicate n z) e)) (.slice (some ⟨b,0,none⟩) n n) e 1 n (List.replicate n z) [b]:=by
 subst hb;have:=Row.lit w (List.replicate n z) e 1 n (by simp) (by simp [maxLen];omega);simpa using this
theorem Kb (w:World) (cs:List Value) (e:TypeId) (b:Nat) (hb:b=w.heap.size):cr (w.alloc (.cells cs.toArray e)) b cs e:=by subst hb;exact cr.new w cs e
set_option maxHeartbeats 800000 in
theorem SB (w:World) (size cR most:Nat) (h1:size≤64) (h2:cR≤8) (h3:1≤most) (h4:most≤16) :
  Calls Tryz.prog 101 #[.int .i64 size,.int .i64 cR,.int .i64 most] w (J9 size cR most w):=by
 have Kc:∀ w:World,(Instr.makeSlice 33 (.int .i64 (cR:Int)) (.int .i64 (cR:Int))).run Tryz.prog w=.ok (.slice (some ⟨w.heap.size,0,none⟩) cR cR) (w.alloc (.cells (List.replicate cR (.slice none 0 0)).toArray 28)):=fun w=>by
  rw [← J8];exact run_make_row' 33 28 (.slice none 0 0) 24 Tryz.underlying33 (by kernel_rfl) rfl .i64 .i64 cR (by omega) (by omega) w
 have Ke:∀ w:World,(Instr.makeSlice 62 (.int .i64 (size:Int)) (.int .i64 (size:Int))).run Tryz.prog w=.ok (.slice (some ⟨w.heap.size,0,none⟩) size size) (w.alloc (.cells (List.replicate size (.bool false)).toArray 4)):=fun w=>by
  rw [← J8];exact run_make_row' 62 4 (.bool false) 1 Tryz.underlying62 (by kernel_rfl) rfl .i64 .i64 size (by omega) (by omega) w
 have hf:Po.fits size cR most=true:=by simp [Po.fits];omega
 go_enter Tryz.func101,Tryz.ntmps101
 go_wp2_with fail
 refine (J7 _ _ _ _).mono ?_
 rintro e w1 ⟨rfl,rfl⟩
 rw [hf]
 go_wp2_with fail
 go_region
 all_goals go_wp2_with fail
 all_goals go_ret2
 ·refine Ka (b:=w.heap.size + 1 + 1) (g:=w.heap.size) (h:=w.heap.size + 1) (((((aq.refl [] w).alloc _).alloc _).alloc _).drew) ?_ ?_ ?_ (by omega) (by omega) (by omega) (by omega) (by omega) (by omega)
  ·exact (Kb _ _ _ _ (by simp)).drew
  ·exact Row.then (Row.alloc (Row.alloc (BJ w _ _ _ _ (by omega) rfl) _) _) (aq.refl [] _).drew
  ·exact Row.then (Row.alloc (BJ _ _ _ _ _ (by omega) (by simp)) _) (aq.refl [] _).drew
 ·refine Ka (b:=w.heap.size + 1 + 1) (h:=w.heap.size) (g:=w.heap.size + 1) (((((aq.refl [] w).alloc _).alloc _).alloc _).drew) ?_ ?_ ?_ (by omega) (by omega) (by omega) (by omega) (by omega) (by omega)
  ·exact (Kb _ _ _ _ (by simp)).drew
  ·exact Row.then (Row.alloc (BJ _ _ _ _ _ (by omega) (by simp)) _) (aq.refl [] _).drew
  ·exact Row.then (Row.alloc (Row.alloc (BJ w _ _ _ _ (by omega) rfl) _) _) (aq.refl [] _).drew
def SC (w:World) (e:Ending) (w':World):Prop:=e=.returned (.tuple #[.pointer none,.int .i64 1])∧w=w'
theorem SD (w:World) (size cR most:Int) (h:Po.fits size cR most=false) :
  Calls Tryz.prog 101 #[.int .i64 size,.int .i64 cR,.int .i64 most] w (SC w):=by
 go_enter Tryz.func101,Tryz.ntmps101
 go_wp2_with fail
 refine (J7 _ _ _ _).mono ?_
 rintro e w1 ⟨rfl,rfl⟩
 rw [h]
 go_wp2_with fail
 go_ret2
 exact ⟨rfl,rfl⟩
open Go.RowKit
def Kf (w w':World) (S:List Nat):Prop:=aq [] w w'∧∀ k∈S,w.heap.size≤k
open Go.RowKit
namespace Qu
theorem SF {l:List Int} (h:∀ a,l.count a≤1) {i:Nat} (hi:i < l.length):fy l (l.getD i (-1))=l.getD (i + 1) (-1):=by
 obtain ⟨x,hx⟩:∃ x,l[i]=x:=⟨_,rfl⟩
 have e0:l.getD i (-1)=x:=by rw [List.getD_eq_getElem?_getD,List.getElem?_eq_getElem hi,← hx];rfl
 have e1:l=l.take i ++ x :: l.drop (i + 1):=by rw [← hx,← List.drop_eq_getElem_cons hi,List.take_append_drop]
 have e2:l.getD (i + 1) (-1)=(l.drop (i + 1)).headD (-1):=by rw [List.getD_eq_getElem?_getD,List.headD_eq_head?_getD,List.head?_drop]
 have h3:l.count x=(l.take i).count x + (x :: l.drop (i + 1)).count x:=by
  rw [← List.count_append,← e1]
 have hn:x∉l.take i:=fun hm=>by
  have h1:=List.count_pos_iff.2 hm;have h2:=h x;rw [List.count_cons_self] at h3;omega
 rw [e0,e2];generalize l.take i=a at *;generalize l.drop (i + 1)=b at *;rw [e1,wI hn,fy,if_pos rfl]
end Qu
set_option maxHeartbeats 1600000 in
theorem SG (w:World) (p:Value) (n:Nat) (R:List (List Int)) (S:List Nat) (k:Int) (h:Qq w p n R S) :
  Calls Tryz.prog 62 #[p,.int .i64 k] w (Em (Qu.row R k) w):=by
 obtain ⟨b,rfl⟩:=h.shape;have H:=Lib.hid h
 cases hk:Qu.line R k with
 | false =>
  have HF:Hid (Qu.row R k=[]):=Lib.hid (by simp [Qu.row,hk]);clear h
  go_enter Tryz.func62,Tryz.ntmps62
  go_wp2_with fail
  refine (oz _ _ _ _ _ _ H.out).mono ?_
  rintro e w1 ⟨rfl,rfl⟩
  rw [hk]
  go_wp2_with fail
  go_ret
  exact ⟨_,[],rfl,aq.refl _ _,by rw [HF.out];exact IV.nil _,by simp⟩
 | true =>
  obtain ⟨j,rfl,hj⟩:=Qu.By hk;obtain ⟨g2,o2,c2,c1,d0,d2⟩:=h.EE hj;have hv:=h.inv;have hr:=hv.tD;have RW:=hv.uP;have HF:Hid (Qu.row R j=R.getD j []):=Lib.hid (Qu.yR hj);have tq:=fun a=>Nat.le_trans (Qu.count_le hj (R:=R) a) (hv.one a)
  have kO:=fun z hz=>hv.bound z (Qu.qE hj (y:=z) hz)
  have u7:=fun z hz=>Qu.wK hv hj (y:=z) hz
  have hlen:=Qu.Bx tq kO;obtain ⟨l,hl⟩:∃ l,R.getD j []=l:=⟨_,rfl⟩
  rw [hl] at tq kO u7 hlen d0 d2;rw [hl] at HF;have HO:=Lib.hid tq;have EI:=Lib.hid kO;have SI:=Lib.hid u7;have BK:l.length≤64:=by omega
  have dU:b < w.heap.size:=block_lt_of_cell c1;have HH:Hid (l.headD (-1)=l.getD 0 (-1)):=Lib.hid (by cases l <;> rfl);rw [HH.out] at d0;clear h hv tq kO u7 hl hlen
  go_enter Tryz.func62,Tryz.ntmps62
  go_wp2_with fail
  refine (oz _ _ _ _ _ _ H.out).mono ?_
  rintro e w1 ⟨rfl,rfl⟩
  rw [hk];obtain ⟨x0,qw⟩:∃ x,l.getD 0 (-1)=x:=⟨_,rfl⟩
  have SJ:=Lib.hid qw;rw [qw] at d0;clear qw
  go_wp2_with (at_make;go_must (refine It rO l.length (by omega) ?_ (hC:=rfl));intro w1 r1 k1;have SK:=k1.cell c1 (by simp);have SL:=k1.cell d0 (by simp))
  have rX:=Lib.hid k1;have kP:Hid (IR w1 (.slice (some ⟨w.heap.size,0,none⟩) 0 l.length) 3 (l.take 0) [w.heap.size]):=Lib.hid (by simpa [IR] using r1);clear r1 k1 SK SL
  go_loopw [5,6] (fun v5 v6 wr=>∃ (i:Nat) (T:List Nat),i≤l.length∧v6=.int .i64 (l.getD i (-1))∧aq [] w wr∧IR wr v5 3 (l.take i) T∧∀ x∈T,w.heap.size≤x) (fun v5 _ _=>l.length - wO v5)
  case atStart=>exact ⟨0,[w.heap.size],Nat.zero_le _,by rw [SJ.out],rX.out,kP.out,by simp⟩
  case round =>
   obtain ⟨i,T,hi,rfl,cV,fZ,hT⟩:=hrel;obtain ⟨li,wR⟩:∃ li,l.take i=li:=⟨_,rfl⟩
   have E8:li.length=i:=by rw [← wR];simp;omega
   rw [wR] at fZ;obtain ⟨ao,cap,rfl⟩:=fZ.shape;have ig:=Lib.hid cV;have oD:=Lib.hid fZ;have HT:=Lib.hid hT;have Kg:=Lib.hid wR;have HLl:=Lib.hid E8;have abB:li.length≤64:=by omega
   clear fZ hT wR
   by_cases cJ:i < l.length
   ·have hm:l.getD i (-1)∈l:=by rw [List.getD_eq_getElem?_getD,List.getElem?_eq_getElem cJ];simp
    have hb:=EI.out _ hm;obtain ⟨y,hy⟩:=Int.eq_ofNat_of_zero_le hb.1;have BC:y < n:=by omega
    obtain ⟨g1,o1,c1,e0,oE,_,e2⟩:=(H.out.then ig.out).EF BC;have E9:=Qu.SF HO.out cJ;have u7:=SI.out _ hm;rw [hy] at u7 E9 ⊢;rw [u7,E9] at e2;have HS:Hid (l.take (i + 1)=li ++ [(y:Int)]):=Lib.hid (by
     rw [List.take_succ_eq_append_getElem cJ,Kg.out,← hy,List.getD_eq_getElem?_getD,List.getElem?_eq_getElem cJ];rfl)
    obtain ⟨nx,Fa⟩:∃ nx,l.getD (i + 1) (-1)=nx:=⟨_,rfl⟩
    have SM:=Lib.hid Fa;simp only [Fa] at e2;have Js:(y:Int) < (n:Int):=by omega
    have SN:((y:Int) != -1)=true:=by simp
    have abC:li.length < l.length:=by rw [E8];exact cJ
    clear hm hb hy E9 u7 Fa cV E8
    go_wp2_with (at_builtin;go_must (refine Iu rO oD.out (by omega) ?_))
    intro kR kQ w7 T7 r7 k7 s7;have f0:w7.cell? ⟨b,0,none⟩=some (.slice (some ⟨g1,o1,none⟩) n c1):=k7.cell e0 (fun hm=>by have:=HT.out b hm;omega);have f2:w7.cell? ⟨g1,o1 + y * 3 + 1,none⟩=some (.int .i64 nx):=k7.cell e2 (fun hm=>by have:=HT.out g1 hm;have:=H.out.lt g1 oE;omega);have Fb:=Lib.hid (ig.out.trans k7 (fun x hx=>.inr (HT.out x hx)));have SO:Hid (IR w7 (.slice kR (li.length + 1) kQ) 3 (l.take (i + 1)) T7):=Lib.hid (by rw [HS.out];exact r7);have SQ:Hid (∀ x∈T7,w.heap.size≤x):=Lib.hid (fun x hx=>by
     rcases s7 x hx with h | h
     ·exact HT.out x h
     ·have:=ig.out.size;omega)
    clear r7 k7 s7 e0 e2
    go_wp2_with fail
    go_roundw
    case rel=>exact ⟨i + 1,T7,by omega,by rw [SM.out],Fb.out,SO.out,SQ.out⟩
    case measure=>simp [wO];omega
   ·obtain rfl:i=l.length:=by omega
    have tn:l.getD l.length (-1)=-1:=by simp
    rw [tn];have SS:Hid (IV wr (.slice ao li.length cap) l T):=Lib.hid (by have h1:=oD.out.iv;have h2:=Kg.out;rw [List.take_length] at h2;rw [← h2] at h1 ⊢;exact h1);clear tn
    go_wp2_with fail
    go_ret
    exact ⟨_,T,rfl,ig.out,by rw [HF.out];exact SS.out,HT.out⟩
end Go.Proofs.YtdjhhbpedllnhaaGreat
