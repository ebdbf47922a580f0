/-
  What the laws need, part D9.
  Conditions: none.
-/
import Derived.Test.YtofnbflkhgammaaGreatD8
import Derived.StillTailTactics
set_option linter.unusedVariables false
set_option linter.unusedSimpArgs false
set_option linter.unnecessarySimpa false
set_option maxHeartbeats 2000000
namespace Go.Proofs.YtofnbflkhgammaaGreat
open Go.RowKit
attribute [local go_sem ↓] Go.wp_at_zero Go.wp_at_succ
namespace Qu
theorem J7 {a:List Int} (h:a≠[]):a.getLastD (-1)∈a:=by
 rw [List.getLastD_eq_getLast?,List.getLast?_eq_some_getLast h];exact List.getLast_mem h
theorem J8 {b:List Int} (h:b≠[]):b.headD (-1)∈b:=by
 cases b with
 | nil=>exact absurd rfl h
 | cons z r=>simp
structure Rt (n:Nat) (R:List (List Int)) (k:Nat) (x:Int) (a b:List Int):Prop where
 x0:0≤x∧x < n
 tx:tc R x=((k:Int),b.headD (-1),a.getLastD (-1))
 pa:a≠[]→0≤a.getLastD (-1)∧a.getLastD (-1) < n∧a.getLastD (-1)≠x∧tc R (a.getLastD (-1))=((k:Int),x,fS a (a.getLastD (-1)))
 hb:b≠[]→0≤b.headD (-1)∧b.headD (-1) < n∧b.headD (-1)≠x∧tc R (b.headD (-1))=((k:Int),eZ b (b.headD (-1)),x)
 ab:a≠[]→b≠[]→a.getLastD (-1)≠b.headD (-1)
 len:(a ++ x :: b).length≤64
theorem Ru {n:Nat} {R:List (List Int)} {k:Nat} {x:Int} {a b:List Int} (v:Inv n R) (hk:k < R.length) (hl:R.getD k []=a ++ x :: b):Rt n R k x a b:=by
 have ho:∀ y,(a ++ x :: b).count y≤1:=fun y=>by rw [← hl];exact Nat.le_trans (count_le hk y) (v.one y)
 have kE:∀ y,y∈a ++ x :: b→0≤y∧y < n:=fun y hy=>v.bound y (qH hk (by rw [hl];exact hy))
 have mI:=fun y=>wI v hk (y:=y)
 rw [hl] at mI;have dZ:∀ y,a.count y + ((if x=y then 1 else 0) + b.count y)≤1:=fun y=>by
  have:=ho y;rw [List.count_append,List.count_cons] at this
  by_cases e:x=y
  ·subst e;simp at this ⊢;omega
  ·have e2:(x == y)=false:=by simpa using e
   rw [e2] at this;rw [if_neg e];simp at this;omega
 have uO:x∉a:=fun h=>by have:=List.count_pos_iff.2 h;have:=dZ x;rw [if_pos rfl] at this;omega
 have tE:x∉b:=fun h=>by have:=List.count_pos_iff.2 h;have:=dZ x;rw [if_pos rfl] at this;omega
 have rT:∀ y,y∈a→y∉b:=fun y h1 h2=>by
  have:=List.count_pos_iff.2 h1;have:=List.count_pos_iff.2 h2;have:=dZ y;omega
 have ca:∀ y,a.count y≤1:=fun y=>by have:=dZ y;omega
 refine ⟨kE x (by simp),?_,fun h=>?_,fun h=>?_,fun h1 h2 e=>rT _ (J7 h1) (by rw [e];exact J8 h2),?_⟩
 ·rw [mI x (by simp),wF uO,fS,yP uO,eZ,if_pos rfl,jJ,if_pos rfl]
 ·have hm:=J7 h;have h2:=kE _ (List.mem_append_left _ hm);refine ⟨h2.1,h2.2,fun e=>uO (e ▸ hm),?_⟩;rw [mI _ (List.mem_append_left _ hm),yN hm (ca _),if_pos rfl,wG hm];rfl
 ·have hm:=J8 h;have h2:=kE _ (List.mem_append_right _ (List.mem_cons_of_mem _ hm));have bO:b.headD (-1)≠x:=fun e=>tE (e ▸ hm)
  have J9:b.headD (-1)∉a:=fun e=>rT _ e hm
  refine ⟨h2.1,h2.2,bO,?_⟩;rw [mI _ (List.mem_append_right _ (List.mem_cons_of_mem _ hm)),wF J9,fS,yP J9,eZ,if_neg (fun e=>bO e.symm),jJ,if_neg (fun e=>bO e.symm),JG (q:=x) hm,if_pos rfl]
 ·have:=Br ho kE;have:=v.uN;omega
def drop (R:List (List Int)) (x:Int):List (List Int) × Bool:=match loc R x with
 | some k=>(R.set k ((R.getD k []).filter (fun y=>y != x)),true)
 | none=>(R,false)
theorem Rv {x:Int} {a b:List Int} (h1:x∉a) (h2:x∉b):(a ++ x :: b).filter (fun y=>y != x)=a ++ b:=by
 rw [List.filter_append,List.filter_cons];have e1:a.filter (fun y=>y != x)=a:=List.filter_eq_self.2 (fun y hy=>by simp;exact fun e=>h1 (e ▸ hy));have e2:b.filter (fun y=>y != x)=b:=List.filter_eq_self.2 (fun y hy=>by simp;exact fun e=>h2 (e ▸ hy));rw [e1,e2];simp
theorem Rw {n:Nat} {R:List (List Int)} {x:Int} {k:Nat} (v:Inv n R) (h:loc R x=some k):∃ a b,k < R.length∧R.getD k []=a ++ x :: b∧drop R x=(R.set k (a ++ b),true):=by
 obtain ⟨hk,hm⟩:=yQ h;obtain ⟨a,b,hl,uO⟩:=Q9 hm;have ho:(a ++ x :: b).count x≤1:=by rw [← hl];exact Nat.le_trans (count_le hk x) (v.one x)
 have tE:x∉b:=fun hb=>by
  have:=List.count_pos_iff.2 hb;rw [List.count_append,List.count_cons_self] at ho;omega
 refine ⟨a,b,hk,hl,?_⟩;unfold drop;rw [h];simp only [hl,Rv uO tE]
end Qu
theorem Bv (w:World) (cs:List Value) (e:TypeId) (b:Nat) (hb:b=w.heap.size):cJ (w.alloc (.cells cs.toArray e)) b cs e:=by subst hb;exact cJ.new w cs e
theorem Rx (w:World) (cs:List Value) (e:TypeId):cJ (w.alloc (.cells cs.toArray e)) w.heap.size cs e:=cJ.new w cs e
theorem c7.then {w w':World} {b g1 o1 c1 g2 o2 c2:Nat} {A B:List (Int × Int × Int)} (h:c7 w b g1 o1 c1 g2 o2 c2 A B) (k:aq [] w w'):c7 w' b g1 o1 c1 g2 o2 c2 A B :=
 ⟨h.1.aY k (by simp),h.2.1.then k,h.2.2.1.then k,h.2.2.2⟩
theorem Qu.Ry {a b:List Int} {y:Int} (h:a≠[]):(a ++ b).headD (-1)=(a ++ y :: b).headD (-1):=by
 cases a with
 | nil=>exact absurd rfl h
 | cons z r=>rfl
theorem Qu.Ka {a b:List Int} (h:b≠[]):(a ++ b).getLastD (-1)=b.getLastD (-1):=by
 rw [List.getLastD_eq_getLast?,List.getLastD_eq_getLast?,List.getLast?_append,List.getLast?_eq_some_getLast h];rfl
theorem Qu.Rz {y:Int} {b:List Int} (h:b≠[]):(y :: b).getLastD (-1)=b.getLastD (-1):=by
 cases b with
 | nil=>exact absurd rfl h
 | cons z r=>simp [List.getLastD_eq_getLast?]
set_option maxRecDepth 100000 in
set_option maxHeartbeats 3200000 in
theorem RB (w:World) (p:Value) (n:Nat) (R:List (List Int)) (S:List Nat) (x:Int) (h:Qq w p n R S) :
  Calls Tryz.prog 111 #[p,.int .i64 x] w (rU (Qu.drop R x) p n S w):=by
 obtain ⟨b,rfl⟩:=h.shape;have H:=Lib.hid h;have hv:=h.inv
 cases hl:Qu.loc R x with
 | none =>
  have HF:Hid (Qu.drop R x=(R,false)):=Lib.hid (by unfold Qu.drop;rw [hl]);have HI:Hid (Qu.oo R x=(0,false)):=Lib.hid (by unfold Qu.oo;rw [hl]);clear h hv hl
  go_enter Tryz.func111,Tryz.ntmps111
  go_wp2_with fail
  refine (JU _ _ _ _ _ _ H.out).mono ?_
  rintro e w1 ⟨rfl,rfl⟩
  rw [HI.out]
  go_wp2_with fail
  go_ret
  unfold rU;rw [HF.out];exact ⟨rfl,aq.refl _ _,H.out⟩
 | some k =>
  obtain ⟨a,bb,hk,iM,he⟩:=Qu.Rw hv hl;have F:=Qu.Ru hv hk iM;have HI:Hid (Qu.oo R x=((k:Int),true)):=Lib.hid (by unfold Qu.oo;rw [hl]);obtain ⟨y,rfl⟩:=Int.eq_ofNat_of_zero_le F.x0.1;have Bw:y < n:=by have:=F.x0.2;omega
  obtain ⟨g1,o1,c1,g2,o2,c2,rfl,cK⟩:=h.raw (by omega) (by omega);have uU:=Qu.Ra hv hk iM;rw [Int.toNat_natCast] at uU;have RE:=Lib.hid (Qu.JM hv hk iM);have uQ:=Qu.oh (R:=R) Bw;rw [F.tx] at uQ;have rV:=Qu.Eu hk;rw [iM] at rV;have yV:(Qu.ln R).length=R.length:=by simp [Qu.ln]
  obtain ⟨⟨e0,e1,e2⟩,f0,f1,f2⟩:=cK.aP uQ;obtain ⟨⟨d0,d1,d2⟩,q0,q1,q2⟩:=cK.line rV;obtain ⟨ot,mJ⟩:=cK.head;rw [Qu.iV] at ot;rw [yV] at mJ;have ck:=h.lt;have HR:=Lib.hid cK;have RF:=Lib.hid uU;have yW:=Lib.hid rV;have HF:=Lib.hid F;have HE:=Lib.hid he;obtain ⟨n1,n2,n3⟩:=(⟨cK.2.2.2.1,cK.2.2.2.2.1,cK.2.2.2.2.2⟩:b≠g1∧b≠g2∧g1≠g2)
  have Rm:g2≠g1:=fun e=>n3 e.symm
  have m1:b < w.heap.size:=ck b (by simp);have m2:g1 < w.heap.size:=ck g1 (by simp);have m3:g2 < w.heap.size:=ck g2 (by simp);have m4:w.heap.size≠b:=by omega
  have m5:w.heap.size≠g1:=by omega
  have m6:w.heap.size≠g2:=by omega
  have Ro:=hv.tC;have RG:=hv.uN;have RH:(k:Int) < (R.length:Int):=by omega
  have JY:(y:Int) < (n:Int):=by omega
  have hlen:=F.len;obtain ⟨L,hL⟩:∃ L,(a ++ (y:Int) :: bb).length=L + 1:=⟨a.length + bb.length,by simp;omega⟩
  have HL:=Lib.hid hL;simp only [Qu.lc] at d0 d1 d2;rw [hL] at d2 hlen;obtain ⟨pa,Bx⟩:∃ pa,a.getLastD (-1)=pa:=⟨_,rfl⟩
  obtain ⟨hb,qJ⟩:∃ hb,bb.headD (-1)=hb:=⟨_,rfl⟩
  rw [Bx] at e2;rw [qJ] at e1;simp only at e0 e1 e2;have By:=Lib.hid Bx;have EE:=Lib.hid qJ;obtain ⟨qa,RI⟩:∃ q,(pa == -1)=q:=⟨_,rfl⟩
  obtain ⟨qb,RJ⟩:∃ q,(hb == -1)=q:=⟨_,rfl⟩
  have Kb:Hid (qa=decide (a=[])):=Lib.hid (by
   rw [← RI,← Bx,Bool.eq_iff_iff]
   by_cases ha:a=[]
   ·subst ha;simp
   ·have:=F.pa ha;simp only [beq_iff_eq,decide_eq_true_eq,ha,iff_false];omega)
  have Kc:Hid (qb=decide (bb=[])):=Lib.hid (by
   rw [← RJ,← qJ,Bool.eq_iff_iff]
   by_cases ha:bb=[]
   ·subst ha;simp
   ·have:=F.hb ha;simp only [beq_iff_eq,decide_eq_true_eq,ha,iff_false];omega)
  clear h hv hl cK uU uQ rV yV ck F he iM hL Bx qJ
  go_enter Tryz.func111,Tryz.ntmps111
  go_wp2_with fail
  refine (JU _ _ _ _ _ _ H.out).mono ?_
  rintro e w1 ⟨rfl,rfl⟩
  rw [HI.out]
  go_upto_if 32 with fail
  go_cut [40] (fun _ w'=>c7 w' b g1 o1 c1 g2 o2 c2 (if a=[] then Qu.th n R else (Qu.th n R).set pa.toNat ((k:Int),hb,Qu.fS a pa)) ((Qu.ln R).set k ((a ++ bb).headD (-1),(a ++ (y:Int) :: bb).getLastD (-1),(L:Int) + 1))∧aq [b,g1,g2] w w'∧cJ w' w.heap.size [.int .i64 k,.int .i64 hb,.int .i64 pa] 151)
  case first =>
   have yY:=HR.out.then ((aq.refl [] w).alloc (.cells #[.int .i64 k,.int .i64 hb,.int .i64 pa] 151));have RK:=Lib.hid yY;have ke:=Rx w [.int .i64 k,.int .i64 hb,.int .i64 pa] 151;have RN:=Lib.hid ke;have jX:(a ++ (y:Int) :: bb).length=L + 1:=HL.out;have EF:Hid ((Qu.ln R)[k]?=some ((a ++ (y:Int) :: bb).headD (-1),(a ++ (y:Int) :: bb).getLastD (-1),(L:Int) + 1)):=Lib.hid (by rw [yW.out];unfold Qu.lc;rw [jX];simp);obtain ⟨⟨a0,a1,a2⟩,p0,p1,p2⟩:=yY.line EF.out;obtain ⟨x0,x1⟩:=yY.head;rw [Qu.iV] at x0;rw [show (Qu.ln R).length=R.length by simp [Qu.ln]] at x1;have b1:(w.alloc (.cells #[.int .i64 k,.int .i64 hb,.int .i64 pa] 151)).cell? ⟨w.heap.size,1,none⟩=some (.int .i64 hb):=ke.cell 1;have b2:(w.alloc (.cells #[.int .i64 k,.int .i64 hb,.int .i64 pa] 151)).cell? ⟨w.heap.size,2,none⟩=some (.int .i64 pa):=ke.cell 2;clear yY ke jX;generalize (a ++ (y:Int) :: bb).getLastD (-1)=lal at *
   cases qa with
   | true =>
    have ha:a=[]:=by have:=Kb.out;simpa using this
    subst ha;have EG:Hid (([] ++ bb).headD (-1)=hb):=Lib.hid (by rw [List.nil_append];exact EE.out)
    go_wp2_with fail
    go_meet
    refine ⟨?_,(((aq.refl _ w).setCell (by simp) _).alloc _),Bv _ _ _ _ (by simp)⟩;rw [if_pos trivial,EG.out];exact (HR.out.l0 EF.out hb).then ((aq.refl [] _).alloc _)
   | false =>
    have ha:a≠[]:=by have:=Kb.out;simpa using this
    have hf:=HF.out.pa ha;rw [By.out] at hf;obtain ⟨z,rfl⟩:=Int.eq_ofNat_of_zero_le hf.1;have wK:z < n:=by omega
    have ou:=Qu.oh (R:=R) wK;rw [hf.2.2.2] at ou;have HZ:=Lib.hid ou;obtain ⟨⟨z0,z1,z2⟩,J3,J4,J5⟩:=RK.out.aP ou;have J6:(z:Int) < (n:Int):=by omega
    have EG:Hid ((a ++ bb).headD (-1)=(a ++ (y:Int) :: bb).headD (-1)):=Lib.hid (Qu.Ry ha);have EH:=Lib.hid ha;clear ou hf ha
    go_wp2_with fail
    go_region
    go_wp2_with fail
    go_meet
    refine ⟨?_,((((aq.refl _ w).setCell (by simp) _).alloc _).drew),(Bv _ _ _ _ (by simp)).drew⟩;rw [if_neg EH.out,EG.out,Int.toNat_natCast,List.JV EF.out];exact ((HR.out.t1 HZ.out hb).then ((aq.refl [] _).alloc _)).drew
  case rest =>
   obtain ⟨rW,br,ke⟩:=hcut;have nv:=Lib.hid rW;have rX:=Lib.hid br;have RN:=Lib.hid ke;have fD:k < (Qu.ln R).length:=by simp [Qu.ln];omega
   have Ke:Hid (((Qu.ln R).set k ((a ++ bb).headD (-1),(a ++ (y:Int) :: bb).getLastD (-1),(L:Int) + 1))[k]?=some ((a ++ bb).headD (-1),(a ++ (y:Int) :: bb).getLastD (-1),(L:Int) + 1)):=Lib.hid (by simp [fD]);obtain ⟨⟨a0,a1,a2⟩,p0,p1,p2⟩:=rW.line Ke.out;obtain ⟨x0,x1⟩:=rW.head;rw [show (if a=[] then Qu.th n R else (Qu.th n R).set pa.toNat ((k:Int),hb,Qu.fS a pa)).length=n by split <;> simp [Qu.iV]] at x0;rw [List.length_set,show (Qu.ln R).length=R.length by simp [Qu.ln]] at x1;have b1:wc.cell? ⟨w.heap.size,1,none⟩=some (.int .i64 hb):=ke.cell 1;have b2:wc.cell? ⟨w.heap.size,2,none⟩=some (.int .i64 pa):=ke.cell 2;clear rW br ke e0 e1 e2 f0 f1 f2 d0 d1 d2 q0 q1 q2 ot mJ
   go_upto_if 50 with fail
   go_cut [60] (fun _ w'=>c7 w' b g1 o1 c1 g2 o2 c2 (if bb=[] then (if a=[] then Qu.th n R else (Qu.th n R).set pa.toNat ((k:Int),hb,Qu.fS a pa)) else (if a=[] then Qu.th n R else (Qu.th n R).set pa.toNat ((k:Int),hb,Qu.fS a pa)).set hb.toNat ((k:Int),Qu.eZ bb hb,pa)) ((Qu.ln R).set k ((a ++ bb).headD (-1),(a ++ bb).getLastD (-1),(L:Int) + 1))∧aq [b,g1,g2] w w')
   case first =>
    generalize (a ++ bb).headD (-1)=hd at *
    cases qb with
    | true =>
     have ha:bb=[]:=by have:=Kc.out;simpa using this
     subst ha;have jm:Hid ((a ++ []).getLastD (-1)=pa):=Lib.hid (by rw [List.append_nil];exact By.out)
     go_wp2_with fail
     go_meet
     refine ⟨?_,(rX.out.setCell (by simp) _)⟩;rw [if_pos trivial,jm.out];have:=nv.out.l1 Ke.out pa;simp only [List.set_set] at this;exact this
    | false =>
     have ha:bb≠[]:=by have:=Kc.out;simpa using this
     have hf:=HF.out.hb ha;have rT:=HF.out.ab;have oX:=HF.out.pa;rw [EE.out] at hf rT;rw [By.out] at rT oX;obtain ⟨z,rfl⟩:=Int.eq_ofNat_of_zero_le hf.1;have wK:z < n:=by omega
     have ou:(if a=[] then Qu.th n R else (Qu.th n R).set pa.toNat ((k:Int),(z:Int),Qu.fS a pa))[z]?=some ((k:Int),Qu.eZ bb (z:Int),(y:Int)):=by
      rw [← hf.2.2.2]
      split
      ·exact Qu.oh wK
      ·rename_i h1;have:=rT h1 ha;have:=oX h1;rw [List.getElem?_set_ne (by omega)];exact Qu.oh wK
     have HZ:=Lib.hid ou;obtain ⟨⟨z0,z1,z2⟩,J3,J4,J5⟩:=nv.out.aP ou;have J6:(z:Int) < (n:Int):=by omega
     have jm:Hid ((a ++ bb).getLastD (-1)=(a ++ (y:Int) :: bb).getLastD (-1)):=Lib.hid (by rw [Qu.Ka ha,Qu.Ka (by simp),Qu.Rz ha]);have EH:=Lib.hid ha;clear ou hf ha rT oX;generalize Qu.eZ bb (z:Int)=nz at *
     go_wp2_with fail
     go_region
     go_wp2_with fail
     go_meet
     refine ⟨?_,((rX.out.setCell (by simp) _).drew)⟩;rw [if_neg EH.out,jm.out,Int.toNat_natCast];exact (nv.out.t2 HZ.out pa).drew
   case rest =>
    obtain ⟨gf,aQ⟩:=hcut;have uS:=Lib.hid gf;have uT:=Lib.hid aQ;have Bu:Hid (((Qu.ln R).set k ((a ++ bb).headD (-1),(a ++ bb).getLastD (-1),(L:Int) + 1))[k]?=some ((a ++ bb).headD (-1),(a ++ bb).getLastD (-1),(L:Int) + 1)):=Lib.hid (by simp [fD]);obtain ⟨⟨a0,a1,a2⟩,p0,p1,p2⟩:=gf.line Bu.out;obtain ⟨x0,x1⟩:=gf.head;rw [show (if bb=[] then (if a=[] then Qu.th n R else (Qu.th n R).set pa.toNat ((k:Int),hb,Qu.fS a pa)) else (if a=[] then Qu.th n R else (Qu.th n R).set pa.toNat ((k:Int),hb,Qu.fS a pa)).set hb.toNat ((k:Int),Qu.eZ bb hb,pa)).length=n by split <;> split <;> simp [Qu.iV]] at x0;rw [List.length_set,show (Qu.ln R).length=R.length by simp [Qu.ln]] at x1;have Kf:(a ++ bb).length=L:=by have:=HL.out;simp at this ⊢;omega
    have ED:Hid (Qu.ln (R.set k (a ++ bb))=(Qu.ln R).set k ((a ++ bb).headD (-1),(a ++ bb).getLastD (-1),(L:Int))):=Lib.hid (by
     rw [Qu.JI];unfold Qu.lc;rw [Kf])
    have EI:y < (if bb=[] then (if a=[] then Qu.th n R else (Qu.th n R).set pa.toNat ((k:Int),hb,Qu.fS a pa)) else (if a=[] then Qu.th n R else (Qu.th n R).set pa.toNat ((k:Int),hb,Qu.fS a pa)).set hb.toNat ((k:Int),Qu.eZ bb hb,pa)).length:=by split <;> split <;> (simp [Qu.iV];exact Bw)
    have RO:=Lib.hid EI;obtain ⟨tt,Kg⟩:=(⟨_,List.getElem?_eq_getElem EI⟩:∃ tt,(if bb=[] then (if a=[] then Qu.th n R else (Qu.th n R).set pa.toNat ((k:Int),hb,Qu.fS a pa)) else (if a=[] then Qu.th n R else (Qu.th n R).set pa.toNat ((k:Int),hb,Qu.fS a pa)).set hb.toNat ((k:Int),Qu.eZ bb hb,pa))[y]?=some tt)
    obtain ⟨⟨t0,t1,t2⟩,tf0,tf1,tf2⟩:=gf.aP Kg;clear gf aQ Kf EI Kg;have uU:=RF.out;rw [By.out,EE.out] at uU;have RQ:=Lib.hid uU;clear uU;generalize (a ++ bb).headD (-1)=hd at *;generalize (a ++ bb).getLastD (-1)=la at *;generalize (if bb=[] then (if a=[] then Qu.th n R else (Qu.th n R).set pa.toNat ((k:Int),hb,Qu.fS a pa)) else (if a=[] then Qu.th n R else (Qu.th n R).set pa.toNat ((k:Int),hb,Qu.fS a pa)).set hb.toNat ((k:Int),Qu.eZ bb hb,pa))=A2 at *
    go_wp2_with fail
    go_ret
    unfold rU;rw [HE.out];refine ⟨rfl,((((uT.out.setCell (by simp) _).setCell (by simp) _).setCell (by simp) _).setCell (by simp) _),?_⟩;have r1:=uS.out.l2 Bu.out ((L:Int));have r2:=r1.Ex (x:=y) RO.out (-1) (-1) (-1);simp only [List.set_set] at r2;exact r2.q RQ.out.symm ED.out.symm RE.out
open Go.RowKit
def PS (w:World) (p:Value) (size most:Nat) (s:Po.St) (S:List Nat):Prop:=Pl w p size most s.C s.M s.f s.H S
def yZ (r:Po.St × Int × Bool) (p:Value) (size most:Nat) (S:List Nat) (w:World) (e:Ending) (w':World):Prop :=
 e=.returned (.tuple #[.int .i64 r.2.1,.bool r.2.2])∧∃ S',PS w' p size most r.1 S'∧aq S w w'∧∀ k∈S',k∈S∨w.heap.size≤k
def EJ (w:World) (b:Nat) (size most:Nat) (vc vh:Value) (f:Nat) (o m:List Int) (U Tm:List Nat) (v6:Value) (w':World):Prop :=
 ∃ ao cap vm U',v6=.slice ao o.length cap∧aq (b :: U) w w'∧cJ w' b [.int .i64 size,.int .i64 most,vc,vm,.int .i64 f,vh] 155 ∧
  IR w' v6 3 o U'∧IR w' vm 3 m Tm∧(∀ x∈U',x∈U∨w.heap.size≤x)∧(o=[]→w'=w)
theorem NR.Kh {w w':World} {g off m cap:Nat} {es e:TypeId} {ll:List (List Int)} {T V:List Nat} {Us:List (List Nat)} (h:NR w (.slice (some ⟨g,off,none⟩) m cap) es e ll T Us) {k:Nat} {l l':List Int} {U U':List Nat} {x':Value} (hk:ll[k]?=some l) (hU:Us[k]?=some U)
  (kp:aq V w w') (RS:∀ x∈T,x∉V) (RT:∀ (j:Nat) B,j≠k→Us[j]?=some B→∀ x∈B,x∉V) (uD:IR w' x' e l' U') (hn:∀ x∈U',x∈U∨w.heap.size≤x) :
  NR (w'.setCell ⟨g,off + k,none⟩ x') (.slice (some ⟨g,off,none⟩) m cap) es e (ll.set k l') T (Us.set k U'):=by
 have ck:=NR.lt h;obtain ⟨vs,hr,hl,hi,hd,hp⟩:=h;have fD:=(List.getElem?_eq_some_iff.1 hk).1;have nR:k < vs.length:=by rw [hr.len];omega
 have wL:∀ x∈T,x∉U:=fun x hx hu=>hd U (List.mem_of_getElem? hU) x hu hx
 have gf:=hr.aY kp RS;obtain ⟨hs,Be⟩:=gf.stored k nR x';have Ki:∀ x∈U',x∉T:=fun x hx ht=>by
  rcases hn x hx with h | h
  ·exact wL x ht h
  ·have:=ck.1 x ht;omega
 have Kj:∀ (j:Nat) B,j≠k→Us[j]?=some B→∀ x∈B,x∉U':=fun j B hj hB x hx fI=>by
  rcases hn x fI with h | h
  ·exact hp j k B U hj hB hU x hx h
  ·have:=ck.2 B (List.mem_of_getElem? hB) x hx;omega
 refine ⟨vs.set k x',by rw [List.length_set];exact hs,by simp [hl],?_,?_,?_⟩
 ·intro j x A l2 a b c
  by_cases hj:k=j
  ·subst hj;rw [List.getElem?_set_self nR] at a;rw [List.getElem?_set_self (by omega)] at b c
   cases a;cases b;cases c;exact uD.aY Be Ki
  ·rw [List.getElem?_set_ne hj] at a b c;exact ((hi j x A l2 a b c).aY kp (RT j A (fun e=>hj e.symm) b)).aY Be (fun x hx=>hd A (List.mem_of_getElem? b) x hx)
 ·intro A hA x hx;rcases List.mem_or_eq_of_mem_set hA with h | rfl
  ·exact hd A h x hx
  ·exact Ki x hx
 ·intro i j A B rJ hA hB x hx EK
  by_cases qh:k=i
  ·subst qh;rw [List.getElem?_set_self (by omega)] at hA
   cases hA;rw [List.getElem?_set_ne rJ] at hB;exact Kj j B (fun e=>rJ e.symm) hB x EK hx
  ·rw [List.getElem?_set_ne qh] at hA
   by_cases mj:k=j
   ·subst mj;rw [List.getElem?_set_self (by omega)] at hB
    cases hB;exact Kj i A (fun e=>qh e.symm) hA x hx EK
   ·rw [List.getElem?_set_ne mj] at hB;exact hp i j A B rJ hA hB x hx EK
theorem uV {Us:List (List Nat)} {n:Nat} {U':List Nat} {x:Nat} (h:x∈(Us.set n U').flatten):x∈Us.flatten∨x∈U':=by
 obtain ⟨A,hA,hx⟩:=List.mem_flatten.1 h;rcases List.mem_or_eq_of_mem_set hA with h | rfl
 ·exact .inl (List.mem_flatten.2 ⟨A,h,hx⟩)
 ·exact .inr hx
theorem Kk {w wc:World} {b n gT fL mT cap gH iW mH Kl x:Nat} {size most f:Int} {vm Bz v' EL EM:Value} {C:List (List Int)} {M M' l l':List Int} {H:List Bool} {t:Bool} {T Tm Th U U' mK:List Nat} {Us:List (List Nat)}
  (RU:EL=.slice (some ⟨gT,fL,none⟩) mT cap) (RV:EM=.slice (some ⟨gH,iW,none⟩) mH Kl)
  (hb:b < w.heap.size) (hc:NR w EL 28 3 C T Us) (hh:BR w EM H Th) (hm:IR w vm 3 M Tm)
  (ha:eY [[b],T,Us.flatten,Tm,Th]) (hk:C[n]?=some l) (hU:Us[n]?=some U) (cR:aq (b :: (U ++ Tm)) w wc)
  (dP:cJ wc b [.int .i64 size,.int .i64 most,EL,Bz,.int .i64 f,EM] 155)
  (fP:IR wc v' 3 l' U') (rY:∀ x∈U',x∈U∨w.heap.size≤x) (fU:IR wc Bz 3 M' mK) (y7:∀ x∈mK,x∈Tm∨w.heap.size≤x) (hd:∀ x∈U',x∉mK) (hx:x < H.length) :
  ∃ S',Pl ((wc.setCell ⟨gT,fL + n,none⟩ v').setCell ⟨gH,iW + x,none⟩ (.bool t)) (.pointer (some ⟨b,0,none⟩)) size most (C.set n l') M' f (H.set x t) S' ∧
   aq (b :: (T ++ Us.flatten ++ Tm ++ Th)) w ((wc.setCell ⟨gT,fL + n,none⟩ v').setCell ⟨gH,iW + x,none⟩ (.bool t))∧∀ k∈S',k∈b :: (T ++ Us.flatten ++ Tm ++ Th)∨w.heap.size≤k:=by
 subst RU RV;have mL:=ha;simp only [eY,List.pairwise_cons,List.mem_cons,List.not_mem_nil,or_false,forall_eq_or_imp,forall_eq] at mL;obtain ⟨⟨a1,a2,a3,a4⟩,⟨a5,a6,a7⟩,⟨a8,a9⟩,ij,_⟩:=mL;have jn:∀ x∈U,x∈Us.flatten:=fun x hx=>List.mem_flatten.2 ⟨U,List.mem_of_getElem? hU,hx⟩
 have bZ:=NR.lt hc;have EN:∀ x∈Us.flatten,x < w.heap.size:=fun x hx=>by
  obtain ⟨A,hA,hx⟩:=List.mem_flatten.1 hx;exact bZ.2 A hA x hx
 have EO:=bZ.1;have RW:=hh.lt;have gF:=hm.lt;obtain ⟨gT',aap,_,_,e1,rfl,_⟩:=NR.get hc hk;obtain ⟨rfl,rfl⟩:=by simpa using e1
 have uW:=List.getElem?_eq_getElem hx;obtain ⟨gH',aar,e2,rfl,_⟩:=hh.cells uW;obtain ⟨rfl,rfl⟩:=by simpa using e2
 simp only [List.mem_singleton,forall_eq] at a1 a4 a5 a6 a7 EO RW;have RY:∀ (i j:Nat) A B,i≠j→Us[i]?=some A→Us[j]?=some B→∀ x∈A,x∉B:=by
  obtain ⟨_,_,_,_,_,hp⟩:=hc;exact hp
 have RZ:=hc.Kh hk hU cR (by intro y hy hv;simp at hy;subst hy;simp at hv;rcases hv with h | h | h;exact a1 h.symm;exact a5 (jn _ h);exact a6 h)
  (fun j B hj hB y hy hv=>by
   have BA:y∈Us.flatten:=List.mem_flatten.2 ⟨B,List.mem_of_getElem? hB,hy⟩;simp at hv;rcases hv with rfl | h | h
   ·exact a2 BA
   ·exact RY j n B U hj hB hU y hy h
   ·exact a8 y BA h) fP rY
 have kc:aq [gT] wc (wc.setCell ⟨gT,fL + n,none⟩ v'):=(aq.refl _ _).setCell (by simp) _;have R3:b∉U':=fun h=>by rcases rY b h with h | h;exact a2 (jn _ h);omega
 have Km:gT∉mK:=fun h=>by rcases y7 gT h with h | h;exact a6 h;omega
 have Kn:gH∉mK:=fun h=>by
  rcases y7 gH h with h | h
  ·exact ij gH h (by simp)
  ·omega
 have R4:gH∉(b :: (U ++ Tm)):=by
  simp;refine ⟨fun h=>a4 h.symm,fun h=>a9 gH (jn _ h) (by simp),fun h=>ij gH h (by simp)⟩
 have R5:=(hh.aY cR (by intro y hy;simp at hy;subst hy;exact R4)).aY kc (by intro y hy;simp at hy;subst hy;simpa using fun h=>a7 h.symm);obtain ⟨R8,kb⟩:=R5.stored x hx t;refine ⟨b :: ([gT] ++ (Us.set n U').flatten ++ mK ++ [gH]),⟨b,.slice (some ⟨gT,fL,none⟩) mT cap,Bz,.slice (some ⟨gH,iW,none⟩) mH Kl,[gT],Us.set n U',mK,[gH],rfl,?_,?_,?_,?_,?_,rfl⟩,?_,?_⟩
 ·exact ((dP.aY kc (by simpa using a1)).aY kb (by simpa using a4))
 ·refine RZ.aY kb (by simpa using a7) ?_;intro A hA y hy;have BA:y∈(Us.set n U').flatten:=List.mem_flatten.2 ⟨A,hA,hy⟩;rcases uV BA with h | h
  ·exact a9 y h
  ·rcases rY y h with h | h
   ·exact a9 y (jn _ h)
   ·simp;omega
 ·exact (fU.aY kc (by intro y hy h;simp at h;subst h;exact Km hy)).aY kb (by intro y hy h;simp at h;subst h;exact Kn hy)
 ·simpa using R8
 ·simp only [eY,List.pairwise_cons,List.mem_cons,List.not_mem_nil,or_false,forall_eq_or_imp,forall_eq,List.Pairwise.nil,and_true,List.mem_singleton];refine ⟨⟨a1,?_,?_,a4⟩,⟨?_,Km,a7⟩,⟨?_,?_⟩,?_,by simp⟩
  ·intro h;rcases uV h with h | h
   ·exact a2 h
   ·exact R3 h
  ·intro h;rcases y7 b h with h | h
   ·exact a3 h
   ·omega
  ·intro h;rcases uV h with h | h
   ·exact a5 h
   ·rcases rY gT h with h | h
    ·exact a5 (jn _ h)
    ·omega
  ·intro y hy tF;rcases uV hy with h | h
   ·rcases y7 y tF with h1 | h1
    ·exact a8 y h h1
    ·have:=EN y h;omega
   ·exact hd y h tF
  ·intro y hy h;subst h;rcases uV hy with h | h
   ·exact a9 y h (by simp)
   ·rcases rY y h with h | h
    ·exact a9 y (jn _ h) (by simp)
    ·omega
  ·intro y hy h;subst h;exact Kn hy
 ·refine ((cR.mono (T:=b :: ([gT] ++ Us.flatten ++ Tm ++ [gH])) ?_).setCell (by simp) _).setCell (by simp) _;intro y hy
  left
  simp at hy ⊢;rcases hy with rfl | h | h
  ·simp
  ·have:=jn y h;simp at this;simp [this]
  ·simp [h]
 ·intro y hy;simp only [List.mem_cons,List.mem_append,List.not_mem_nil,or_false] at hy ⊢;rcases hy with rfl | ((rfl | h) | h) | rfl
  ·simp
  ·simp
  ·rcases uV h with h | h
   ·simp only [h,true_or,or_true]
   ·rcases rY y h with h | h
    ·have:=jn y h;simp only [this,true_or,or_true]
    ·exact .inr h
  ·rcases y7 y h with h | h
   ·simp only [h,true_or,or_true]
   ·exact .inr h
  ·simp
def y8 (w:World) (b:Nat) (size most:Nat) (vc vh:Value) (f:Nat) (M:List Int) (U Tm:List Nat) (k:Nat) (v6:Value) (w':World):Prop :=
 ∃ ao cap vm U',v6=.slice ao k cap∧aq (b :: U) w w'∧cJ w' b [.int .i64 size,.int .i64 most,vc,vm,.int .i64 f,vh] 155 ∧
  IR w' v6 3 (M.reverse.take k) U'∧IR w' vm 3 (M.take (M.length - k)) Tm∧(∀ x∈U',x∈U∨w.heap.size≤x)∧(k=0→w'=w)
def wM:Value→Nat
 | .slice _ n _=>n
 | _=>0
theorem Po.Ko (M:List Int) (k j:Nat) (h:M.length - k=j + 1):M.reverse.take (k + 1)=M.reverse.take k ++ [M.getD j 0]:=by
 have hk:k < M.reverse.length:=by simp;omega
 rw [List.take_succ_eq_append_getElem hk,List.getElem_reverse]
 congr 2
 rw [List.getD_eq_getElem?_getD,List.getElem?_eq_getElem (by omega)];simp only [Option.getD_some]
 congr 1;omega
theorem y8.step {w wr w7:World} {b size most:Nat} {vc vh:Value} {f:Nat} {M:List Int} {U Tm U6 U7:List Nat} {k gM pq j jo kF:Nat} {kG:Option Addr}
  (EP:b∉U) (y9:b∉Tm) (wL:∀ x∈Tm,x∉U) (hb:b < w.heap.size) (EO:∀ x∈Tm,x < w.heap.size) (cR:aq (b :: U) w wr)
  (dP:cJ wr b [.int .i64 size,.int .i64 most,vc,.slice (some ⟨gM,pq,none⟩) (j + 1) jo,.int .i64 f,vh] 155)
  (fU:IR wr (.slice (some ⟨gM,pq,none⟩) (j + 1) jo) 3 (M.take (j + 1)) Tm) (kH:∀ x∈U6,x∈U∨w.heap.size≤x) (hj:M.length - k=j + 1)
  (r7:IR w7 (.slice kG (k + 1) kF) 3 (M.reverse.take k ++ [M.getD j 0]) U7) (k7:aq U6 wr w7) (s7:∀ x∈U7,x∈U6∨wr.heap.size≤x) :
  y8 w b size most vc vh f M U Tm (k + 1) (.slice kG (k + 1) kF) (w7.setCell ⟨b,3,none⟩ (.slice (some ⟨gM,pq,none⟩) j jo)):=by
 have jT:=cR.size;have rZ:b∉U6:=fun hx=>by rcases kH b hx with h | h;exact EP h;omega
 have ES:b∉U7:=fun hx=>by rcases s7 b hx with h | h;exact rZ h;omega
 have kZ:∀ x∈Tm,x∉U6:=fun x hx h6=>by rcases kH x h6 with h | h;exact wL x hx h;have:=EO x hx;omega
 have gF:(M.take (j + 1)).length=j + 1:=by simp;omega
 have pz:aq [b] w7 (w7.setCell ⟨b,3,none⟩ (.slice (some ⟨gM,pq,none⟩) j jo)):=(aq.refl [b] w7).setCell (by simp) _;have uX:IR wr (.slice (some ⟨gM,pq,none⟩) j jo) 3 (M.take j) Tm:=by
  have:=IR.prefix (l:=M.take (j + 1)) (by rw [gF];exact fU) j (by omega)
  rwa [List.take_take,Nat.min_eq_left (by omega)] at this
 refine ⟨kG,kF,.slice (some ⟨gM,pq,none⟩) j jo,U7,rfl,?_,?_,?_,?_,?_,fun h=>by omega⟩
 ·refine (cR.trans k7 (fun x hx=>?_)).setCell (by simp) _;rcases kH x hx with h | h
  ·left;simp [h]
  ·exact .inr h
 ·have:=(dP.aY k7 rZ).set 3 (.slice (some ⟨gM,pq,none⟩) j jo);simpa using this
 ·rw [Po.Ko M k j hj];exact r7.aY pz (fun x hx h=>by simp at h;subst h;exact ES hx)
 ·rw [show M.length - (k + 1)=j by omega];exact (uX.aY k7 kZ).aY pz (fun x hx h=>by simp at h;subst h;exact y9 hx)
 ·intro x hx;rcases s7 x hx with h | h
  ·exact kH x h
  ·right;omega
set_option maxRecDepth 100000 in
set_option maxHeartbeats 1600000 in
theorem R9 (w:World) (p:Value) (size most:Nat) (s:Po.St) (S:List Nat) (g:Int) (h:PS w p size most s S) (v:Po.Inv size most s) :
  Calls Tryz.prog 156 #[p,.int .i64 g] w (yZ (Po.take size most s g) p size most S w):=by
 have HP:=Lib.hid h;have HV:=Lib.hid v;obtain ⟨b,vc,vm,vh,T1,Us,Tm,Th,rfl,hb,hc,hm,hh,ha,rfl⟩:=h;obtain ⟨ta,cB,pE⟩:=(⟨v.m1,v.m2,v.s1⟩:_∧_∧_)
 clear v
 cases ht:Po.ko s.C g with
 | false =>
  have HF:Hid (Po.take size most s g=(s,0,false)):=Lib.hid (by simp [Po.take,ht]);clear hb hc hm hh ha
  go_enter Tryz.func156,Tryz.ntmps156
  go_wp2_with fail
  refine (uK _ _ _ _ _ _ _ _ _ _ HP.out).mono ?_
  rintro e w1 ⟨rfl,rfl⟩
  rw [ht]
  go_wp2_with fail
  go_ret2
  unfold yZ;rw [HF.out];exact ⟨rfl,_,HP.out,aq.refl _ _,fun k hk=>.inl hk⟩
 | true =>
  have h2:=ht;simp only [Po.ko,Bool.and_eq_true,decide_eq_true_eq] at h2;obtain ⟨n,rfl⟩:=Int.eq_ofNat_of_zero_le h2.1;have hn:n < s.C.length:=by omega
  have hle:=hc.le;unfold maxLen at hle;obtain ⟨ao,cap,rfl⟩:=hc.shape;have hk:=List.getElem?_eq_getElem hn;obtain ⟨c,mg⟩:∃ c,s.C[n]=c:=⟨_,rfl⟩
  rw [mg] at hk;have za:s.C.getD n []=c:=by rw [List.getD_eq_getElem?_getD,hk];rfl
  have uY:Hid (Po.take size most s n=if Po.own most c s.M=[] then (if s.f < size then (⟨s.C,s.M,s.f + 1,s.H⟩,(s.f:Int),true) else (s,0,false)) else (Po.qw s n (Po.own most c s.M) (Po.bh most c s.M),(Po.own most c s.M).getLastD 0,true)):=Lib.hid (by
   unfold Po.take;rw [ht];simp only [if_true,Int.toNat_natCast,za])
  have bZ:c.length≤most:=HV.out.qA c (List.mem_of_getElem? hk);have Sa:s.M.length≤64:=HV.out.lens.1;obtain ⟨gT,fL,x0,U,rfl,rfl,zb,cT,fT,hr,hU,Kp⟩:=hc.get hk;obtain ⟨pF,lf,rfl⟩:=hr.shape;have c2:w.cell? ⟨b,2,none⟩=some (.slice (some ⟨gT,fL,none⟩) s.C.length cap):=hb.cell 2;have ck:(n:Int) < s.C.length:=by omega
  have HB:=Lib.hid hb;have HC:=Lib.hid hc;have HM:=Lib.hid hm;have HH:=Lib.hid hh;have HA:=Lib.hid ha;have HR:=Lib.hid hr;have HU:=Lib.hid hU;have HK:=Lib.hid hk;have gi:Hid (b∉U∧b∉Tm∧(∀ x∈Tm,x∉U)∧b < w.heap.size∧(∀ x∈Tm,x < w.heap.size)):=Lib.hid (by
   have mL:=ha;simp only [eY,List.pairwise_cons,List.mem_cons,List.not_mem_nil,or_false,forall_eq_or_imp,forall_eq] at mL;obtain ⟨⟨a1,a2,a3,a4⟩,⟨a5,a6,a7⟩,⟨a8,a9⟩,ij,_⟩:=mL;have jn:∀ x∈U,x∈Us.flatten:=fun x hx=>List.mem_flatten.2 ⟨U,List.mem_of_getElem? hU,hx⟩
   exact ⟨fun h=>a2 (jn b h),a3,fun x hx h=>a8 x (jn x h) hx,hb.lt,hm.lt⟩)
  clear hb hc hm hh ha hr hU hk mg za h2;have nQ:=Po.JC HV.out.m1 (M:=s.M) bZ;obtain ⟨o,ho⟩:∃ o,Po.own most c s.M=o:=⟨_,rfl⟩
  have uZ:=Lib.hid ho;rw [ho] at nQ uY;clear ho;obtain ⟨q,hq⟩:∃ q,((c.length:Int) == 0)=q:=⟨_,rfl⟩
  have HQ:Hid (q=decide (c=[])):=Lib.hid (by rw [← hq,Bool.eq_iff_iff];simp)
  go_enter Tryz.func156,Tryz.ntmps156
  go_wp2_with fail
  refine (uK _ _ _ _ _ _ _ _ _ _ HP.out).mono ?_
  rintro e w1 ⟨rfl,rfl⟩
  rw [ht]
  go_upto_if 23 with fail
  go_cut [6] (fun v6 w'=>EJ w b size most (.slice (some ⟨gT,fL,none⟩) s.C.length cap) vh s.f o (Po.bh most c s.M) U Tm v6 w')
  case first =>
   cases q with
   | true =>
    have h0:c=[]:=by have:=HQ.out;simpa using this
    have aas:Hid (c.length=0):=Lib.hid (by simp [h0]);have Sb:Hid (Po.own most c s.M=s.M.reverse.take (min (Po.room most) s.M.length)):=Lib.hid (by subst h0;simp [Po.own,Po.ng]);have Sc:Hid (Po.bh most c s.M=s.M.take (s.M.length - min (Po.room most) s.M.length)):=Lib.hid (by subst h0;simp [Po.bh,Po.ng]);have ET:Hid (y8 w b size most (.slice (some ⟨gT,fL,none⟩) s.C.length cap) vh s.f s.M U Tm 0 (.slice pF c.length lf) w):=Lib.hid (by
     subst h0;exact ⟨pF,lf,vm,U,by simp,aq.refl _ _,HB.out,by simpa using HR.out,by simpa using HM.out,fun x hx=>.inl hx,fun _=>rfl⟩)
    clear h0
    go_wp2_with fail
    go_loopw [6] (fun v6 wr=>∃ k:Nat,k≤min (Po.room most) s.M.length∧y8 w b size most (.slice (some ⟨gT,fL,none⟩) s.C.length cap) vh s.f s.M U Tm k v6 wr) (fun v6 _=>100 - wM v6)
    case atStart=>exact ⟨0,Nat.zero_le _,ET.out⟩
    case round =>
     obtain ⟨k,hk,tG,ov,wN,U6,rfl,cR,dP,fP,fU,kH,u6⟩:=hrel;have c1:wr.cell? ⟨b,1,none⟩=some (.int .i64 most):=dP.cell 1;have fD:(s.M.reverse.take k).length=k:=by simp;omega
     obtain ⟨l6,u7⟩:∃ l,s.M.reverse.take k=l:=⟨_,rfl⟩
     rw [u7] at fD fP;subst fD
     by_cases ck:l6.length < min (Po.room most) s.M.length
     ·obtain ⟨j,hj⟩:∃ j,s.M.length - l6.length=j + 1:=⟨s.M.length - l6.length - 1,by omega⟩
      rw [hj] at fU;have gF:(s.M.take (j + 1)).length=j + 1:=by simp;omega
      obtain ⟨tH,jo,rfl⟩:=fU.shape;rw [gF] at dP fU;obtain ⟨gM,pq,rfl,rfl,hgM,Kq,_⟩:=fU.cells (by omega);have cM:wr.cell? ⟨gM,pq + j,none⟩=some (.int .i64 (s.M.getD j 0)):=by
       have:=Kq j (by omega);rw [this,List.getD_eq_getElem?_getD,List.getD_eq_getElem?_getD,List.getElem?_take,if_pos (by omega)]
      have r8:j + 1≤jo:=by obtain ⟨_,_,_,e,h1,_⟩:=fU;simp at e;omega
      have c3:wr.cell? ⟨b,3,none⟩=some (.slice (some ⟨gM,pq,none⟩) (j + 1) jo):=dP.cell 3;have aau:(j:Int) + 1≤jo:=by omega
      have aav:l6.length≤64:=by omega
      have Se:j≤64:=by omega
      have gQ:=Lib.hid cR;have vb:=Lib.hid dP;have oz:=Lib.hid fP;have tI:=Lib.hid fU;have EU:=Lib.hid kH;clear u6;have Sg:=Lib.hid u7;have HJ:=Lib.hid hj;clear cR dP fP fU kH u7 Kq gF hj;obtain ⟨x,HX⟩:∃ x,Hid (s.M.getD j 0=x):=⟨_,rfl⟩
      rw [HX.out] at cM
      by_cases hr:1 < (most:Int) / 2
      all_goals
       have r9:(l6.length:Int) < if 1 < (most:Int) / 2 then (most:Int) / 2 else 1:=by unfold Po.room at ck;split <;> omega
       first | rw [if_pos hr] at r9 | rw [if_neg hr] at r9
       have Sh:=decide_eq_true r9;have Sk:Hid (l6.length + 1≤min (Po.room most) s.M.length):=Lib.hid ck;clear ck hk r9
       go_wp2_with (at_builtin;go_must (refine I0 rO oz.out (by omega) ?_))
       intro kG kF w7 U7 r7 k7 s7;have EV:=Lib.hid (y8.step gi.out.1 gi.out.2.1 gi.out.2.2.1 gi.out.2.2.2.1 gi.out.2.2.2.2 gQ.out vb.out tI.out EU.out HJ.out (by rw [HX.out,Sg.out];exact r7) k7 s7);have rZ:b∉U6:=fun hx=>by
        rcases EU.out b hx with h | h
        ·exact gi.out.1 h
        ·have:=gi.out.2.2.2.1;omega
       have d3:w7.cell? ⟨b,3,none⟩=some (.slice (some ⟨gM,pq,none⟩) (j + 1) jo):=k7.cell c3 rZ;have f3:w7.frozen? ⟨b,3,none⟩=false:=(vb.out.aY k7 rZ).free 3;clear r7 k7 s7 rZ
       go_wp2_with fail
       go_roundw
       case rel=>exact ⟨l6.length + 1,Sk.out,EV.out⟩
       case measure=>simp [wM];omega
     ·have sj:Hid (EJ w b size most (.slice (some ⟨gT,fL,none⟩) s.C.length cap) vh s.f o (Po.bh most c s.M) U Tm (.slice tG l6.length ov) wr):=Lib.hid (by
       have hN:min (Po.room most) s.M.length=l6.length:=by omega
       rw [← uZ.out,Sb.out,Sc.out,hN,u7];exact ⟨tG,ov,wN,U6,rfl,cR,dP,fP,fU,kH,fun h=>u6 (by rw [h];rfl)⟩)
      obtain ⟨m,hm⟩:∃ m,(s.M.take (s.M.length - l6.length)).length=m:=⟨_,rfl⟩
      obtain ⟨tH,jo,rfl⟩:=fU.shape;have c3:wr.cell? ⟨b,3,none⟩=some (.slice tH m jo):=by have:=dP.cell 3;rw [hm] at this;exact this
      have cB:m=s.M.length - l6.length:=by rw [← hm];simp
      clear dP fP fU kH cR hm u7 u6
      by_cases hz:m=0
      ·subst hz;clear ck hk cB
       go_wp2_with fail
       go_meet
       exact sj.out
      ·have wq:0 < m:=by omega
       have aaw:m≤64:=by omega
       by_cases hr:1 < (most:Int) / 2
       all_goals
        have r9:¬ ((l6.length:Int) < if 1 < (most:Int) / 2 then (most:Int) / 2 else 1):=by unfold Po.room at ck;split <;> omega
        first | rw [if_pos hr] at r9 | rw [if_neg hr] at r9
        have Sh:=decide_eq_false r9;clear ck hk r9 cB hz
        go_wp2_with fail
        go_meet
        exact sj.out
   | false =>
    have h0:c≠[]:=by have:=HQ.out;simpa using this
    have sj:Hid (EJ w b size most (.slice (some ⟨gT,fL,none⟩) s.C.length cap) vh s.f o (Po.bh most c s.M) U Tm (.slice pF c.length lf) w):=Lib.hid (by
     have e1:Po.own most c s.M=c:=by simp [Po.own,Po.ng,h0]
     have e2:Po.bh most c s.M=s.M:=by simp [Po.bh,Po.ng,h0]
     rw [← uZ.out,e1,e2];exact ⟨pF,lf,vm,U,rfl,aq.refl _ _,HB.out,HR.out,HM.out,fun x hx=>.inl hx,fun _=>rfl⟩)
    clear h0
    go_wp2_with fail
    go_meet
    exact sj.out
  case rest =>
   obtain ⟨tG,ov,wN,U6,rfl,cR,dP,fP,fU,kH,u6⟩:=hcut;have d2:wc.cell? ⟨b,2,none⟩=some (.slice (some ⟨gT,fL,none⟩) s.C.length cap):=dP.cell 2;have d4:wc.cell? ⟨b,4,none⟩=some (.int .i64 s.f):=dP.cell 4;have d0:wc.cell? ⟨b,0,none⟩=some (.int .i64 size):=dP.cell 0;have gQ:=Lib.hid cR;have vb:=Lib.hid dP;have oz:=Lib.hid fP;have tI:=Lib.hid fU;have EU:=Lib.hid kH
   by_cases h0:o=[]
   ·subst h0;have hw:=u6 rfl;subst hw;clear cR dP fP fU kH u6;rw [if_pos rfl] at uY
    cases hf:decide (s.f < size) with
    | true =>
     have zc:Hid (Po.take size most s n=(⟨s.C,s.M,s.f + 1,s.H⟩,(s.f:Int),true)):=Lib.hid (by rw [uY.out,if_pos (by simpa using hf)]);have aax:s.f≤64:=by simp at hf;omega
     have f4:=HB.out.free 4
     go_wp2_with fail
     go_quiet (fail)
     go_wp2_with fail
     go_ret2
     unfold yZ;rw [zc.out];have eN:cJ (wc.setCell ⟨b,4,none⟩ (.int .i64 ((s.f:Int) + 1))) b [.int .i64 size,.int .i64 most,.slice (some ⟨gT,fL,none⟩) s.C.length cap,vm,.int .i64 ((s.f + 1:Nat):Int),vh] 155:=by
      have:=HB.out.set 4 (.int .i64 ((s.f:Int) + 1));simpa using this
     have EW:aq [b] wc (wc.setCell ⟨b,4,none⟩ (.int .i64 ((s.f:Int) + 1))):=(aq.refl _ _).setCell (by simp) _;have mL:=HA.out;simp only [eY,List.pairwise_cons,List.mem_cons,List.not_mem_nil,or_false,forall_eq_or_imp,forall_eq] at mL;obtain ⟨⟨a1,a2,a3,a4⟩,_⟩:=mL;refine ⟨rfl,_,Pl.drewN ⟨b,.slice (some ⟨gT,fL,none⟩) s.C.length cap,vm,vh,[gT],Us,Tm,Th,rfl,eN,HC.out.aY EW (by intro y hy h;simp at hy h;subst hy;exact a1 (by simp [h])) (fun A hA y hy h=>by simp at h;subst h;exact a2 (List.mem_flatten.2 ⟨A,hA,hy⟩)),HM.out.aY EW (fun y hy h=>by simp at h;subst h;exact a3 hy),HH.out.aY EW (fun y hy h=>by simp at h;subst h;exact a4 hy),HA.out,rfl⟩ nq,?_,fun k hk=>.inl hk⟩;exact ((aq.refl _ wc).setCell (by simp) _).drewN nq
    | false =>
     have zc:Hid (Po.take size most s n=(s,0,false)):=Lib.hid (by rw [uY.out,if_neg (by simpa using hf)])
     go_wp2_with fail
     go_quiet (fail)
     go_wp2_with fail
     go_ret2
     unfold yZ;rw [zc.out];exact ⟨rfl,_,Pl.drewN HP.out _,(aq.refl _ _).drewN _,fun k hk=>.inl hk⟩
   ·obtain ⟨L,hL⟩:∃ L,o.length=L + 1:=⟨o.length - 1,by have:=List.length_pos_iff.2 h0;omega⟩
    rw [if_neg h0] at uY;have tE:0≤o.getLastD 0∧o.getLastD 0 < s.f:=HV.out.last HK.out uZ.out.symm h0;have kR:=HV.out.fl;have hHl:=HV.out.hl;obtain ⟨x,hx⟩:=Int.eq_ofNat_of_zero_le tE.1;have ze:x < s.H.length:=by omega
    obtain ⟨gO,Sl,rfl,rfl,hgO,Kr,_⟩:=fP.cells (by omega);have cO:wc.cell? ⟨gO,Sl + L,none⟩=some (.int .i64 (x:Int)):=by
     rw [Kr L (by omega),← hx,List.getLastD_eq_getLast?,List.getLast?_eq_getElem?,List.getD_eq_getElem?_getD,hL];rfl
    have aaA:L + 1≤ov:=by obtain ⟨_,_,_,e,h1,_⟩:=fP;simp at e;omega
    have tJ:=gi.out;have Ks:=fP;rw [hL] at fP;have uX:=IR.prefix Ks L (by omega);have ed:o.take L=o.dropLast:=by rw [List.dropLast_eq_take,hL];rfl
    rw [ed] at uX;obtain ⟨Sm,sk,rfl⟩:=HH.out.shape;have uW:=List.getElem?_eq_getElem ze;obtain ⟨gH,iW,rfl,rfl,EX,cH,fH⟩:=HH.out.cells uW;obtain ⟨S',zf,zg,zh⟩:=Kk (t:=false) rfl rfl tJ.2.2.2.1 HC.out HH.out HM.out HA.out HK.out HU.out (cR.mono (T:=b :: (U ++ Tm)) (fun y hy=>by left;simp at hy ⊢;rcases hy with h | h <;> simp [h])) dP uX kH fU (fun y hy=>.inl hy) (fun y hy tF=>by
     rcases kH y hy with h | h
     ·exact tJ.2.2.1 y tF h
     ·have:=tJ.2.2.2.2 y tF;omega) ze
    have EY:=Lib.hid zf;have kI:=Lib.hid zg;have EZ:=Lib.hid zh;have mL:=HA.out;simp only [eY,List.pairwise_cons,List.mem_cons,List.not_mem_nil,or_false,forall_eq_or_imp,forall_eq] at mL;obtain ⟨⟨a1,a2,a3,a4⟩,⟨a5,a6,a7⟩,⟨a8,a9⟩,ij,jr⟩:=mL;have jn:∀ x∈U,x∈Us.flatten:=fun x hx=>List.mem_flatten.2 ⟨U,List.mem_of_getElem? HU.out,hx⟩
    have n1:b≠gT:=by simpa using a1
    have n2:b≠gH:=by simpa using a4
    have n3:gT≠gH:=by simpa using a7
    have Kt:gH∉(b :: U):=by
     simp;exact ⟨fun h=>n2 h.symm,fun h=>a9 gH (jn _ h) (by simp)⟩
    have Ku:gT∉(b :: U):=by
     simp;exact ⟨fun h=>n1 h.symm,fun h=>a5 (jn _ h)⟩
    have e5:wc.cell? ⟨b,5,none⟩=some (.slice (some ⟨gH,iW,none⟩) s.H.length sk):=dP.cell 5;have eH:=cR.cell cH Kt;have Kv:wc.frozen? ⟨gH,iW + x,none⟩=false:=(World.frozen?_of_block (a:=⟨gH,iW + x,none⟩) (cR.block gH EX Kt)).trans fH;have Kw:wc.frozen? ⟨gT,fL + n,none⟩=false:=(World.frozen?_of_block (a:=⟨gT,fL + n,none⟩) (cR.block gT zb Ku)).trans fT;have eT:=cR.cell cT Ku;have zc:Hid (Po.take size most s n=(Po.qw s n o (Po.bh most c s.M),(x:Int),true)):=Lib.hid (by rw [uY.out,hx]);have HX:=Lib.hid hx;have hI1:(0:Int)≤(L:Int):=by omega
    have hI2:(L:Int)≤(ov:Int):=by omega
    have Sn:(x:Int) < (s.H.length:Int):=by omega
    have hI4:s.H.length≤64:=by omega
    have aaE:L≤16:=by omega
    have aaF:decide ((0:Int)≤L)=true:=by simp
    generalize s.H[x]=t0 at *;clear uY zf zg zh jn cR dP fP fU kH u6 Ks uX ed h0 uW Kr tE hx a2 a3 a8 a9 ij jr a1 a4 a5 a6 a7;rw [hL];clear hL
    go_wp2_with fail
    go_region
    go_wp2_with fail
    go_ret2
    unfold yZ;rw [zc.out];refine ⟨rfl,S',Pl.drewN ?_ _,aq.drewN kI.out _,EZ.out⟩
    show Pl _ _ _ _ _ _ _ (s.H.set (o.getLastD 0).toNat false) S';rw [HX.out];exact EY.out
open Go.RowKit
def BB (r:Po.St × Bool) (p:Value) (size most:Nat) (S:List Nat) (w:World) (e:Ending) (w':World):Prop :=
 e=.returned (.bool r.2)∧∃ S',PS w' p size most r.1 S'∧aq S w w'∧∀ k∈S',k∈S∨w.heap.size≤k
def E0 (w:World) (b:Nat) (size most:Nat) (vc vh:Value) (f:Nat) (o m:List Int) (U Tm:List Nat) (v7:Value) (w':World):Prop :=
 ∃ ao cap vm mK,v7=.slice ao o.length cap∧aq (b :: Tm) w w'∧cJ w' b [.int .i64 size,.int .i64 most,vc,vm,.int .i64 f,vh] 155 ∧
  IR w' v7 3 o U∧IR w' vm 3 m mK∧(∀ x∈mK,x∈Tm∨w.heap.size≤x)
def zi (w:World) (b:Nat) (size most:Nat) (vc vh:Value) (f:Nat) (M c:List Int) (U Tm:List Nat) (k:Nat) (v7:Value) (w':World):Prop :=
 ∃ ao cap vm mK,v7=.slice ao (c.length - k) cap∧aq (b :: Tm) w w'∧cJ w' b [.int .i64 size,.int .i64 most,vc,vm,.int .i64 f,vh] 155 ∧
  IR w' v7 3 (c.take (c.length - k)) U∧IR w' vm 3 (M ++ c.reverse.take k) mK∧(∀ x∈mK,x∈Tm∨w.heap.size≤x)
theorem zi.step {w wr w7:World} {b size most:Nat} {vc vh:Value} {f:Nat} {M c:List Int} {U Tm T6 T7:List Nat} {k gC wO j lf n7 kF:Nat} {kG:Option Addr}
  (EP:b∉U) (y9:b∉Tm) (wL:∀ x∈Tm,x∉U) (hb:b < w.heap.size) (EN:∀ x∈U,x < w.heap.size) (cR:aq (b :: Tm) w wr)
  {vm:Value} (dP:cJ wr b [.int .i64 size,.int .i64 most,vc,vm,.int .i64 f,vh] 155)
  (js:IR wr (.slice (some ⟨gC,wO,none⟩) (j + 1) lf) 3 (c.take (j + 1)) U) (kZ:∀ x∈T6,x∈Tm∨w.heap.size≤x) (hj:c.length - k=j + 1)
  (r7:IR w7 (.slice kG n7 kF) 3 ((M ++ c.reverse.take k) ++ [c.getD j 0]) T7) (k7:aq T6 wr w7) (s7:∀ x∈T7,x∈T6∨wr.heap.size≤x) (m:Nat) :
  zi w b size most vc vh f M c U Tm (k + 1) (.slice (some ⟨gC,wO,none⟩) j lf) ((w7.setCell ⟨b,3,none⟩ (.slice kG n7 kF)).drewN m):=by
 have jT:=cR.size;have rZ:b∉T6:=fun hx=>by rcases kZ b hx with h | h;exact y9 h;omega
 have ES:b∉T7:=fun hx=>by rcases s7 b hx with h | h;exact rZ h;omega
 have kH:∀ x∈U,x∉T6:=fun x hx h6=>by rcases kZ x h6 with h | h;exact wL x h hx;have:=EN x hx;omega
 have gF:(c.take (j + 1)).length=j + 1:=by simp;omega
 have pz:aq [b] w7 (w7.setCell ⟨b,3,none⟩ (.slice kG n7 kF)):=(aq.refl [b] w7).setCell (by simp) _;have uX:IR wr (.slice (some ⟨gC,wO,none⟩) j lf) 3 (c.take j) U:=by
  have:=IR.prefix (l:=c.take (j + 1)) (by rw [gF];exact js) j (by omega)
  rwa [List.take_take,Nat.min_eq_left (by omega)] at this
 have jK:∀ W:World,aq [] W (W.drewN m):=fun W=>(aq.refl [] W).drewN m
 refine ⟨some ⟨gC,wO,none⟩,lf,.slice kG n7 kF,T7,by rw [show c.length - (k + 1)=j by omega],?_,?_,?_,?_,?_⟩
 ·refine ((cR.trans k7 (fun x hx=>?_)).setCell (by simp) _).drewN m;rcases kZ x hx with h | h
  ·left;simp [h]
  ·exact .inr h
 ·have:=((dP.aY k7 rZ).set 3 (.slice kG n7 kF)).aY (jK _) (by simp);simpa using this
 ·rw [show c.length - (k + 1)=j by omega];exact ((uX.aY k7 kH).aY pz (fun x hx h=>by simp at h;subst h;exact EP hx)).then (jK _)
 ·rw [Po.Ko c k j hj,← List.append_assoc];exact (r7.aY pz (fun x hx h=>by simp at h;subst h;exact ES hx)).then (jK _)
 ·intro x hx;rcases s7 x hx with h | h
  ·exact kZ x h
  ·right;omega
set_option maxRecDepth 100000 in
set_option maxHeartbeats 1600000 in
theorem So (w:World) (p:Value) (size most:Nat) (s:Po.St) (S:List Nat) (g y:Int) (h:PS w p size most s S) (v:Po.Inv size most s) :
  Calls Tryz.prog 81 #[p,.int .i64 g,.int .i64 y] w (BB (Po.cq most s g y) p size most S w):=by
 have HP:=Lib.hid h;have HV:=Lib.hid v;obtain ⟨b,vc,vm,vh,T1,Us,Tm,Th,rfl,hb,hc,hm,hh,ha,rfl⟩:=h;obtain ⟨ta,cB,pE⟩:=(⟨v.m1,v.m2,v.s1⟩:_∧_∧_)
 have zj:(s.f:Int)≤(s.H.length:Int):=by have:=v.fl;have:=v.hl;omega
 clear v
 cases ht:Po.ko s.C g with
 | false =>
  have HF:Hid (Po.cq most s g y=(s,false)):=Lib.hid (by simp [Po.cq,ht]);clear hb hc hm hh ha
  go_enter Tryz.func81,Tryz.ntmps81
  go_wp2_with fail
  refine (uK _ _ _ _ _ _ _ _ _ _ HP.out).mono ?_
  rintro e w1 ⟨rfl,rfl⟩
  rw [ht]
  go_wp2_with fail
  go_ret
  unfold BB;rw [HF.out];exact ⟨rfl,_,HP.out,aq.refl _ _,fun k hk=>.inl hk⟩
 | true =>
  cases qN:Po.live s.f s.H y with
  | false =>
   have HF:Hid (Po.cq most s g y=(s,false)):=Lib.hid (by simp [Po.cq,qN]);clear hb hc hm hh ha
   go_enter Tryz.func81,Tryz.ntmps81
   go_wp2_with fail
   refine (uK _ _ _ _ _ _ _ _ _ _ HP.out).mono ?_
   rintro e w1 ⟨rfl,rfl⟩
   rw [ht]
   go_wp2_with fail
   refine (Eg _ _ _ _ _ _ _ _ _ _ HP.out zj).mono ?_
   rintro e w1 ⟨rfl,rfl⟩
   rw [qN]
   go_wp2_with fail
   go_ret
   unfold BB;rw [HF.out];exact ⟨rfl,_,HP.out,aq.refl _ _,fun k hk=>.inl hk⟩
  | true =>
   have h2:=ht;simp only [Po.ko,Bool.and_eq_true,decide_eq_true_eq] at h2;obtain ⟨n,rfl⟩:=Int.eq_ofNat_of_zero_le h2.1;have h3:=qN;simp only [Po.live,Bool.and_eq_true,decide_eq_true_eq] at h3;obtain ⟨x,rfl⟩:=Int.eq_ofNat_of_zero_le h3.1.1;have ze:x < s.H.length:=by omega
   have hn:n < s.C.length:=by omega
   have hle:=hc.le;unfold maxLen at hle;obtain ⟨ao,cap,rfl⟩:=hc.shape;have hk:=List.getElem?_eq_getElem hn;obtain ⟨c,mg⟩:∃ c,s.C[n]=c:=⟨_,rfl⟩
   rw [mg] at hk;have za:s.C.getD n []=c:=by rw [List.getD_eq_getElem?_getD,hk];rfl
   have Sp:Hid (Po.cq most s n x=(Po.qz most s n c x,true)):=Lib.hid (by
    unfold Po.cq;rw [ht,qN];simp only [if_true,Int.toNat_natCast,za,Bool.and_self])
   have bZ:c.length≤most:=HV.out.qA c (List.mem_of_getElem? hk);have Sa:s.M.length≤64:=HV.out.lens.1;obtain ⟨gT,fL,x0,U,rfl,rfl,zb,cT,fT,hr,hU,Kp⟩:=hc.get hk;obtain ⟨pF,lf,rfl⟩:=hr.shape;have c2:w.cell? ⟨b,2,none⟩=some (.slice (some ⟨gT,fL,none⟩) s.C.length cap):=hb.cell 2;have c1:w.cell? ⟨b,1,none⟩=some (.int .i64 most):=hb.cell 1;have ck:(n:Int) < s.C.length:=by omega
   obtain ⟨Sm,sk,rfl⟩:=hh.shape;have uW:=List.getElem?_eq_getElem ze;obtain ⟨gH,iW,rfl,rfl,EX,cH,fH⟩:=hh.cells uW;generalize s.H[x]=t0 at *;have HB:=Lib.hid hb;have HC:=Lib.hid hc;have HM:=Lib.hid hm;have HH:=Lib.hid hh;have HA:=Lib.hid ha;have HR:=Lib.hid hr;have HU:=Lib.hid hU;have HK:=Lib.hid hk;have mL:=ha;simp only [eY,List.pairwise_cons,List.mem_cons,List.not_mem_nil,or_false,forall_eq_or_imp,forall_eq] at mL;obtain ⟨⟨a1,a2,a3,a4⟩,⟨a5,a6,a7⟩,⟨a8,a9⟩,ij,jr⟩:=mL;have jn:∀ x∈U,x∈Us.flatten:=fun x hx=>List.mem_flatten.2 ⟨U,List.mem_of_getElem? hU,hx⟩
   have gi:Hid (b∉U∧b∉Tm∧(∀ x∈Tm,x∉U)∧b < w.heap.size∧(∀ x∈U,x < w.heap.size)∧gT∉Tm∧gH∉Tm∧gH∉U):=Lib.hid
    ⟨fun h=>a2 (jn b h),a3,fun x hx h=>a8 x (jn x h) hx,hb.lt,hr.lt,a6,fun h=>ij gH h (by simp),fun h=>a9 gH (jn _ h) (by simp)⟩
   have n1:b≠gT:=by simpa using a1
   have n2:b≠gH:=by simpa using a4
   have n3:gT≠gH:=by simpa using a7
   clear hb hc hm hh ha hr hU hk mg za h2 h3 uW a1 a2 a3 a4 a5 a6 a7 a8 a9 ij jr jn;have aaG:c.length≤16:=by omega
   obtain ⟨o,ho⟩:∃ o,c.take (c.length - Po.eu most c)=o:=⟨_,rfl⟩
   have uZ:=Lib.hid ho;have nQ:o.length≤16:=by rw [← ho];simp;omega
   clear ho;obtain ⟨q,hq⟩:∃ q,decide (c.length=most)=q:=⟨_,rfl⟩
   have HQ:Hid (q=decide (c.length=most)):=Lib.hid hq.symm;have uJ:((c.length:Int) == (most:Int))=q:=by rw [← hq,Bool.eq_iff_iff];simp;omega
   go_enter Tryz.func81,Tryz.ntmps81
   go_wp2_with fail
   refine (uK _ _ _ _ _ _ _ _ _ _ HP.out).mono ?_
   rintro e w1 ⟨rfl,rfl⟩
   rw [ht]
   go_wp2_with fail
   refine (Eg _ _ _ _ _ _ _ _ _ _ HP.out zj).mono ?_
   rintro e w1 ⟨rfl,rfl⟩
   rw [qN]
   go_upto_if 32 with fail
   go_cut [7] (fun v7 w'=>E0 w b size most (.slice (some ⟨gT,fL,none⟩) s.C.length cap) (.slice (some ⟨gH,iW,none⟩) s.H.length sk) s.f o (s.M ++ c.reverse.take (Po.eu most c)) U Tm v7 w')
   case first =>
    cases q with
    | true =>
     have h0:c.length=most:=by have:=HQ.out;simpa using this
     have Sq:Hid (Po.eu most c=c.length - most / 2):=Lib.hid (by simp [Po.eu,h0]);have ET:Hid (zi w b size most (.slice (some ⟨gT,fL,none⟩) s.C.length cap) (.slice (some ⟨gH,iW,none⟩) s.H.length sk) s.f s.M c U Tm 0 (.slice pF c.length lf) w):=Lib.hid
      ⟨pF,lf,vm,Tm,by simp,aq.refl _ _,HB.out,by simpa using HR.out,by simpa using HM.out,fun x hx=>.inl hx⟩
     clear h0
     go_wp2_with fail
     go_loopw [7] (fun v7 wr=>∃ k:Nat,k≤c.length - most / 2∧zi w b size most (.slice (some ⟨gT,fL,none⟩) s.C.length cap) (.slice (some ⟨gH,iW,none⟩) s.H.length sk) s.f s.M c U Tm k v7 wr) (fun v7 _=>wM v7)
     case atStart=>exact ⟨0,Nat.zero_le _,ET.out⟩
     case round =>
      obtain ⟨k,hk,tG,ov,wN,T6,rfl,cR,dP,fP,fU,kZ⟩:=hrel;have d1:wr.cell? ⟨b,1,none⟩=some (.int .i64 most):=dP.cell 1
      by_cases ve:k < c.length - most / 2
      ·obtain ⟨j,hj⟩:∃ j,c.length - k=j + 1:=⟨c.length - k - 1,by omega⟩
       rw [hj] at fP;have gF:(c.take (j + 1)).length=j + 1:=by simp;omega
       obtain ⟨gC,wO,rfl,rfl,hgC,Kx,_⟩:=fP.cells (by omega);have cC:wr.cell? ⟨gC,wO + j,none⟩=some (.int .i64 (c.getD j 0)):=by
        have:=Kx j (by omega);rw [this,List.getD_eq_getElem?_getD,List.getD_eq_getElem?_getD,List.getElem?_take,if_pos (by omega)]
       have r8:j + 1≤ov:=by obtain ⟨_,_,_,e,h1,_⟩:=fP;simp at e;omega
       obtain ⟨m6,BC⟩:∃ m,s.M ++ c.reverse.take k=m:=⟨_,rfl⟩
       have aaI:m6.length≤80:=by rw [← BC];simp;omega
       rw [BC] at fU;obtain ⟨tH,jo,rfl⟩:=fU.shape;have d3:wr.cell? ⟨b,3,none⟩=some (.slice tH m6.length jo):=dP.cell 3;have f3:wr.frozen? ⟨b,3,none⟩=false:=dP.free 3;have Ky:b∉T6:=fun h=>by
        rcases kZ b h with h | h
        ·exact gi.out.2.1 h
        ·have:=gi.out.2.2.2.1;omega
       have aaJ:gC∉T6:=fun h=>by
        rcases kZ gC h with h | h
        ·exact gi.out.2.2.1 gC h (by simp)
        ·have:=gi.out.2.2.2.2.1 gC (by simp);omega
       have Kz:decide ((most:Int) / 2 < (j:Int) + 1)=true:=by simp;omega
       have Rp:(j:Int) + 1≤(ov:Int):=by omega
       have hj0:(0:Int)≤(j:Int):=by omega
       have Se:j≤64:=by omega
       have hjx:(j:Int) < (j:Int) + 1:=by omega
       have gQ:=Lib.hid cR;have vb:=Lib.hid dP;have oz:=Lib.hid fP;have tI:=Lib.hid fU;have zl:=Lib.hid kZ;have Sr:=Lib.hid BC;have HJ:=Lib.hid hj;have uT:Hid (k + 1≤c.length - most / 2):=Lib.hid ve;rw [hj];clear cR dP fP fU kZ BC Kx gF hj hk ve;obtain ⟨x2,HX⟩:∃ x,Hid (c.getD j 0=x):=⟨_,rfl⟩
       rw [HX.out] at cC
       go_wp2_with fail
       have d3a:(wr.alloc (.cells #[.int .i64 x2] 3)).drew.cell? ⟨b,3,none⟩=some (.slice tH m6.length jo):=(World.cell?_alloc_past _ _ _ (block_lt_of_cell d3)).trans d3
       go_region_law (refine Dx rO (tI.out.then ((aq.refl [] wr).drew)) (by omega) ?_;intro kG kF w7 T7 r7 k7 s7;have k8:aq T6 wr w7:=((aq.refl T6 wr).drew).trans k7 (fun x hx=>.inl hx);have f7:w7.frozen? ⟨b,3,none⟩=false:=(World.frozen?_of_block (a:=⟨b,3,none⟩) (k8.block b (block_lt_of_cell d3) Ky)).trans f3;have e3:w7.cell? ⟨b,3,none⟩=some (.slice tH m6.length jo):=k8.cell (by exact d3) Ky;have EV:=Lib.hid (fun m=>zi.step gi.out.1 gi.out.2.1 gi.out.2.2.1 gi.out.2.2.2.1 gi.out.2.2.2.2.1 gQ.out vb.out oz.out zl.out HJ.out (by rw [Sr.out,HX.out];exact r7) k8 s7 m);clear r7 k7 s7 k8)
       all_goals
        go_wp2_with fail
        go_roundw
        case rel=>exact ⟨k + 1,uT.out,EV.out 0⟩
        case measure=>simp [wM]
      ·have sj:Hid (E0 w b size most (.slice (some ⟨gT,fL,none⟩) s.C.length cap) (.slice (some ⟨gH,iW,none⟩) s.H.length sk) s.f o (s.M ++ c.reverse.take (Po.eu most c)) U Tm (.slice tG (c.length - k) ov) wr):=Lib.hid (by
        have hN:c.length - most / 2=k:=by omega
        rw [← uZ.out,Sq.out,hN];exact ⟨tG,ov,wN,T6,by simp,cR,dP,fP,fU,kZ⟩)
       obtain ⟨m,hm⟩:∃ m,c.length - k=m:=⟨_,rfl⟩
       rw [hm] at sj ⊢;have aaN:decide ((most:Int) / 2 < (m:Int))=false:=by simp;omega
       have aaO:m≤64:=by omega
       clear cR dP fP fU kZ hk ve hm
       go_wp2_with fail
       go_meet
       exact sj.out
    | false =>
     have h0:¬ c.length=most:=by have:=HQ.out;simpa using this
     have sj:Hid (E0 w b size most (.slice (some ⟨gT,fL,none⟩) s.C.length cap) (.slice (some ⟨gH,iW,none⟩) s.H.length sk) s.f o (s.M ++ c.reverse.take (Po.eu most c)) U Tm (.slice pF c.length lf) w):=Lib.hid (by
      have e1:Po.eu most c=0:=by simp [Po.eu,h0]
      have e2:o=c:=by rw [← uZ.out,e1];simp
      rw [e1,e2];exact ⟨pF,lf,vm,Tm,rfl,aq.refl _ _,HB.out,HR.out,by simpa using HM.out,fun x hx=>.inl hx⟩)
     clear h0
     go_wp2_with fail
     go_meet
     exact sj.out
   case rest =>
    obtain ⟨tG,ov,wN,T6,rfl,cR,dP,fP,fU,kZ⟩:=hcut;have tJ:=gi.out;have d2:wc.cell? ⟨b,2,none⟩=some (.slice (some ⟨gT,fL,none⟩) s.C.length cap):=dP.cell 2;have e5:wc.cell? ⟨b,5,none⟩=some (.slice (some ⟨gH,iW,none⟩) s.H.length sk):=dP.cell 5;have KB:gH∉(b :: Tm):=by simp;exact ⟨fun h=>n2 h.symm,tJ.2.2.2.2.2.2.1⟩
    have KC:gT∉(b :: Tm):=by simp;exact ⟨fun h=>n1 h.symm,tJ.2.2.2.2.2.1⟩
    have eH:=cR.cell cH KB;have eT:=cR.cell cT KC;have Kv:wc.frozen? ⟨gH,iW + x,none⟩=false:=(World.frozen?_of_block (a:=⟨gH,iW + x,none⟩) (cR.block gH EX KB)).trans fH;have Kw:wc.frozen? ⟨gT,fL + n,none⟩=false:=(World.frozen?_of_block (a:=⟨gT,fL + n,none⟩) (cR.block gT zb KC)).trans fT;have Sn:(x:Int) < (s.H.length:Int):=by omega
    have gQ:=Lib.hid cR;have vb:=Lib.hid dP;have oz:=Lib.hid fP;have tI:=Lib.hid fU;have zl:=Lib.hid kZ;clear cR dP fP fU kZ tJ
    go_wp2_with fail
    obtain ⟨tH,jo,hvm⟩:=tI.out.shape;have d2a:(wc.alloc (.cells #[.int .i64 (x:Int)] 3)).drew.cell? ⟨b,2,none⟩=some (.slice (some ⟨gT,fL,none⟩) s.C.length cap):=(World.cell?_alloc_past _ _ _ (block_lt_of_cell d2)).trans d2;have KD:gT∉U:=Kp
    go_region_law (refine Dx rO (oz.out.then ((aq.refl [] wc).drew)) (by omega) ?_;intro kG kF w7 U7 r7 k7 s7;have k8:aq U wc w7:=((aq.refl U wc).drew).trans k7 (fun x hx=>.inl hx);have g7:w7.frozen? ⟨gT,fL + n,none⟩=false:=(World.frozen?_of_block (a:=⟨gT,fL + n,none⟩) (k8.block gT (block_lt_of_cell eT) KD)).trans Kw;have e7:w7.cell? ⟨gT,fL + n,none⟩=some (.slice pF c.length lf):=k8.cell eT KD;have e72:w7.cell? ⟨b,2,none⟩=some (.slice (some ⟨gT,fL,none⟩) s.C.length cap):=k8.cell d2 gi.out.1;have e75:w7.cell? ⟨b,5,none⟩=some (.slice (some ⟨gH,iW,none⟩) s.H.length sk):=k8.cell e5 gi.out.1;have e7H:w7.cell? ⟨gH,iW + x,none⟩=some (.bool t0):=k8.cell eH gi.out.2.2.2.2.2.2.2;have g7H:w7.frozen? ⟨gH,iW + x,none⟩=false:=(World.frozen?_of_block (a:=⟨gH,iW + x,none⟩) (k8.block gH (block_lt_of_cell eH) gi.out.2.2.2.2.2.2.2)).trans Kv;have R7:=Lib.hid r7;have K8:=Lib.hid k8;have S7:=Lib.hid s7;clear r7 k7 s7 k8)
    all_goals
     obtain ⟨S',zf,zg,zh⟩:=Kk (t:=true) (Bz:=wN) (M':=s.M ++ c.reverse.take (Po.eu most c)) (mK:=T6) rfl rfl gi.out.2.2.2.1 HC.out HH.out HM.out HA.out HK.out HU.out
      ((gQ.out.mono (T:=b :: (U ++ Tm)) (fun y hy=>by left;simp at hy ⊢;rcases hy with h | h <;> simp [h])).trans K8.out (fun y hy=>by left;simp [hy])) (vb.out.aY K8.out gi.out.1) R7.out (fun y hy=>by
       rcases S7.out y hy with h | h
       ·exact .inl h
       ·have:=gQ.out.size;have h':wc.heap.size≤y:=h;omega) (tI.out.aY K8.out (fun y hy hu=>by
        rcases zl.out y hy with h | h
        ·exact gi.out.2.2.1 y h hu
        ·have:=gi.out.2.2.2.2.1 y hu;omega)) zl.out (fun y hy tF=>by
       rcases S7.out y hy with h | h
       ·rcases zl.out y tF with h1 | h1
        ·exact gi.out.2.2.1 y h1 h
        ·have:=gi.out.2.2.2.2.1 y h;omega
       ·have:=tI.out.lt y tF;have h':wc.heap.size≤y:=h;omega) ze
     have EY:=Lib.hid zf;have kI:=Lib.hid zg;have EZ:=Lib.hid zh;clear zf zg zh
     go_wp2_with fail
     go_ret
     unfold BB;rw [Sp.out];refine ⟨rfl,S',?_,kI.out,EZ.out⟩
     show Pl _ _ _ _ (s.C.set n (c.take (c.length - Po.eu most c) ++ [(x:Int)])) _ _ (s.H.set ((x:Int)).toNat true) S';rw [uZ.out,Int.toNat_natCast];exact EY.out
namespace Po
def fits (size cL most:Int):Bool:=decide (0≤size∧size≤64∧0≤cL∧cL≤8∧1≤most∧most≤16)
theorem KF {size cL most:Int} (h:fits size cL most=true):0≤size∧size≤64∧0≤cL∧cL≤8∧1≤most∧most≤16:=by simpa [fits] using h
end Po
end Go.Proofs.YtofnbflkhgammaaGreat
