/-
  What the laws need, part Q12.
  Conditions: none.
-/
import Derived.Test.YtdibmkjoaghafaaQ11
import Derived.Laws.StructEq
set_option linter.unusedVariables false
set_option linter.unusedSimpArgs false
set_option linter.unnecessarySimpa false
set_option maxHeartbeats 2000000
namespace Go.Proofs.Ytdibmkjoaghafaa
open Go.RowKit
theorem plan_hasCh (w:World) (k:Int):Calls Try.prog 71 #[.int .i64 k] w fun e w'=>e=.returned (.bool (Pn.hasCh k))∧w=w':=by
 go_enter Try.func71,Try.ntmps71
 go_wp2_with fail
 all_goals
  go_ret
  exact ⟨ret_bool (by simp [Pn.hasCh, *] <;> omega),rfl⟩
theorem plan_hasV (w:World) (k:Int):Calls Try.prog 72 #[.int .i64 k] w fun e w'=>e=.returned (.bool (Pn.hasV k))∧w=w':=by
 go_enter Try.func72,Try.ntmps72
 go_wp2_with fail
 all_goals
  go_ret
  exact ⟨ret_bool (by simp [Pn.hasV, *]),rfl⟩
theorem ref10_hasCh (w:World) (k:Int):Calls Try.prog 73 #[.int .i64 k] w fun e w'=>e=.returned (.bool (Pn.hasCh k))∧w=w':=by
 go_enter Try.func73,Try.ntmps73
 go_wp2_with fail
 all_goals
  go_ret
  exact ⟨ret_bool (by simp [Pn.hasCh, *] <;> omega),rfl⟩
theorem ref10_hasV (w:World) (k:Int):Calls Try.prog 74 #[.int .i64 k] w fun e w'=>e=.returned (.bool (Pn.hasV k))∧w=w':=by
 go_enter Try.func74,Try.ntmps74
 go_wp2_with fail
 all_goals
  go_ret
  exact ⟨ret_bool (by simp [Pn.hasV, *]),rfl⟩
def Pn.within (has:Bool) (n most:Int):Bool:=if has then decide (0≤n) && decide (n≤most) else n == 0
theorem plan_within (w:World) (b:Bool) (n most:Int):Calls Try.prog 70 #[.bool b,.int .i64 n,.int .i64 most] w fun e w'=>e=.returned (.bool (Pn.within b n most))∧w=w':=by
 cases b with
 | true =>
  go_enter Try.func70,Try.ntmps70
  go_wp2_with fail
  all_goals
   go_ret
   exact ⟨ret_bool (by simp [Pn.within, *] <;> omega),rfl⟩
 | false =>
  go_enter Try.func70,Try.ntmps70
  go_wp2_with fail
  all_goals
   go_ret
   exact ⟨ret_bool (by simp [Pn.within, *] <;> omega),rfl⟩
open Go.RowKit
theorem list_same {α:Type} {a b:List α} (h:a.length=b.length) (hj:∀ j,j < a.length→a[j]?=b[j]?):a=b:=by
 apply List.ext_getElem?;intro j
 by_cases hl:j < a.length
 ·exact hj j hl
 ·rw [List.getElem?_eq_none (by omega),List.getElem?_eq_none (by omega)]
theorem case_fields:Try.prog.underlying 87=some (.struct (Try.prog.fieldsOf 87)):=by kernel_rfl
theorem case_held:Try.prog.stoodInHeld 87=false:=by kernel_rfl
theorem case_guard:Try.prog.eqGuardType Try.prog.depth 87=false:=by kernel_rfl
theorem case_flds:∃ f0 f1 f2:Field,(Try.prog.fieldsOf 87).toList=[f0,f1,f2]∧f0.name≠"_"∧f1.name≠"_"∧f2.name≠"_"∧f0.type=4∧f1.type=3∧f2.type=2∧f0.offset=0∧f1.offset=1∧f2.offset=2:=by
 unfold Program.fieldsOf;rw [Try.underlying87];exact ⟨_,_,_,rfl,by decide,by decide,by decide,rfl,rfl,rfl,rfl,rfl,rfl⟩
theorem run_neq_case (w:World) (x y:Pn.Cs):(binOp .neq 87 (.agg #[.bool x.send,.int .i64 x.ch,.int .i64 x.v]) (.agg #[.bool y.send,.int .i64 y.ch,.int .i64 y.v])).run Try.prog w=.ok (.bool (!decide (x=y))) w:=by
 obtain ⟨f0,f1,f2,hf,n0,n1,n2,t0,t1,t2,o0,o1,o2⟩:=case_flds;obtain ⟨x1,x2,x3⟩:=x;obtain ⟨y1,y2,y3⟩:=y;rw [run_neq_struct,run_equalIn_struct _ _ _ _ _ case_fields case_held,hf];have hb:=Try.underlying4;have hi:=Try.underlying3;have h64:=Try.underlying2;simp [Op.eqFields,n0,n1,n2,t0,t1,t2,o0,o1,o2,go_sem,hb,hi,h64]
 by_cases h1:x1=y1 <;> by_cases h2:x2=y2 <;> by_cases h3:x3=y3 <;> simp [h1,h2,h3]
set_option maxHeartbeats 1600000 in
theorem plan_sameOp (w:World) (a b:Pn.Op) (va vb:Value) (SA SB:List Nat) (ha:GV caseE 3 w va a.cases SA) (hb:GV caseE 3 w vb b.cases SB) :
  Calls Try.prog 65 #[.agg #[.int .i64 a.kind,.int .i64 a.ch,.int .i64 a.n,.int .i64 a.v,va,.bool a.els],.agg #[.int .i64 b.kind,.int .i64 b.ch,.int .i64 b.n,.int .i64 b.v,vb,.bool b.els]] w fun e w'=>e=.returned (.bool (decide (a=b)))∧Keeps [] w w':=by
 obtain ⟨k1,c1,n1,v1,s1,e1⟩:=a;obtain ⟨k2,c2,n2,v2,s2,e2⟩:=b;simp only at ha hb ⊢;have hla:=ha.le;have hlb:=hb.le;unfold maxLen at hla hlb;obtain ⟨ao1,cap1,rfl⟩:=ha.shape;obtain ⟨ao2,cap2,rfl⟩:=hb.shape;have HA:=Lib.hid ha;have HB:=Lib.hid hb;have ka:Keeps [] w ((w.alloc (.cells #[.int .i64 k1,.int .i64 c1,.int .i64 n1,.int .i64 v1,.slice ao1 s1.length cap1,.bool e1] 28)).alloc (.cells #[.int .i64 k2,.int .i64 c2,.int .i64 n2,.int .i64 v2,.slice ao2 s2.length cap2,.bool e2] 28)):=((Keeps.refl [] w).alloc _).alloc _;have KA:=Lib.hid ka;clear ha hb ka;obtain ⟨q,hq0⟩:∃ q,decide ((⟨k1,c1,n1,v1,s1,e1⟩:Pn.Op)=⟨k2,c2,n2,v2,s2,e2⟩)=q:=⟨_,rfl⟩
 rw [hq0];have HQ0:=Lib.hid hq0;clear hq0
 by_cases heq:k1=k2∧c1=c2∧n1=n2∧v1=v2
 ·obtain ⟨rfl,rfl,rfl,rfl⟩:=heq
  by_cases hee:e1=e2
  rotate_left
  ·have hne:false=q:=by
    rw [← HQ0.out,eq_comm,decide_eq_false_iff_not];intro e;injection e with _ _ _ _ _ e6;exact hee e6
   have HN:=Lib.hid hne;clear hne
   cases e1 <;> cases e2
   ·exact absurd rfl hee
   ·clear hee
    go_enter Try.func65,Try.ntmps65
    go_wp2_with fail
    go_ret
    exact ⟨ret_bool HN.out,KA.out⟩
   ·clear hee
    go_enter Try.func65,Try.ntmps65
    go_wp2_with fail
    go_ret
    exact ⟨ret_bool HN.out,KA.out⟩
   ·exact absurd rfl hee
  subst hee;have he1:(e1 != e1)=false:=by cases e1 <;> rfl
  by_cases hl:s1.length=s2.length
  ·have HL:=Lib.hid hl;have hq:((s1.length:Int) != (s2.length:Int))=false:=by simp [hl]
   have hb2:=Blk.fresh (w.alloc (.cells #[.int .i64 k1,.int .i64 c1,.int .i64 n1,.int .i64 v1,.slice ao1 s1.length cap1,.bool e1] 28)) [.int .i64 k1,.int .i64 c1,.int .i64 n1,.int .i64 v1,.slice ao2 s2.length cap2,.bool e1] 28 (w.heap.size + 1) (by simp);have HB2:=Lib.hid hb2;clear hl hb2
   go_enter Try.func65,Try.ntmps65
   go_wp2_with fail
   go_loopw [50] (fun u wr=>∃ k:Nat,k≤s1.length∧u=.int .i64 k∧Hid (Keeps [] w wr∧Blk wr (w.heap.size + 1) [.int .i64 k1,.int .i64 c1,.int .i64 n1,.int .i64 v1,.slice ao2 s2.length cap2,.bool e1] 28∧∀ j,j < k→s1[j]?=s2[j]?)) (fun u _=>s1.length - (intOf u).toNat)
   case atStart=>exact ⟨0,Nat.zero_le _,rfl,Lib.hid ⟨KA.out,HB2.out,fun j hj=>by omega⟩⟩
   case round =>
    obtain ⟨k,hk,rfl,HI⟩:=hrel;obtain ⟨wo,rfl⟩:∃ wo:World,wo=wr:=⟨_,rfl⟩
    by_cases hlt:k < s1.length
    ·obtain ⟨x,hx⟩:∃ x,s1[k]?=some x:=⟨_,List.getElem?_eq_getElem hlt⟩
     obtain ⟨y,hy⟩:∃ y,s2[k]?=some y:=⟨_,List.getElem?_eq_getElem (by have:=HL.out;omega)⟩
     have hlt2:k < s2.length:=by have:=HL.out;omega
     obtain ⟨g1,off1,rfl,_,hg1,a0,a1,a2⟩:=(HA.out.then caseE_kept HI.out.1).case hx;have ka:Keeps [] wo (wo.alloc (.cells #[.bool x.send,.int .i64 x.ch,.int .i64 x.v] 87)):=(Keeps.refl [] wo).alloc _;obtain ⟨g2,off2,rfl,_,hg2,b0,b1,b2⟩:=(HB.out.then caseE_kept (HI.out.1.then ka)).case hy;have hbx:(wo.alloc (.cells #[.bool x.send,.int .i64 x.ch,.int .i64 x.v] 87)).cell? ⟨w.heap.size + 1,4,none⟩=some (.slice (some ⟨g2,off2,none⟩) s2.length cap2):=(HI.out.2.1.keep ka (by simp)).cell 4;have HX:=Lib.hid hx;have HY:=Lib.hid hy;have KR:=Lib.hid (HI.out.1.then ka);obtain ⟨x1,x2,x3⟩:=x;obtain ⟨y1,y2,y3⟩:=y;simp only at a0 a1 a2 b0 b1 b2 hbx ka KR;clear hx hy ka;have hgd:=case_guard
     by_cases hxy:(⟨x1,x2,x3⟩:Pn.Cs)=⟨y1,y2,y3⟩
     ·have hrn:∀ w:World,(binOp .neq 87 (.agg #[.bool x1,.int .i64 x2,.int .i64 x3]) (.agg #[.bool y1,.int .i64 y2,.int .i64 y3])).run Try.prog w=.ok (.bool false) w:=fun w=>by
       have:=run_neq_case w ⟨x1,x2,x3⟩ ⟨y1,y2,y3⟩
       rwa [decide_eq_true hxy] at this
      have HXY:=Lib.hid hxy;clear hxy
      go_upto_region 8 with fail
      go_quiet (fail)
      go_wp2_with fail
      go_roundw
      case rel=>exact ⟨k + 1,by omega,by go_num,Lib.hid ⟨KR.out.drewN _,(HI.out.2.1.keep ((Keeps.refl [] wo).alloc _) (by simp)).keep ((Keeps.refl [] _).drewN _) (by simp),fun j hj=>by
       by_cases e:j=k
       ·subst e;rw [HX.out,HY.out,HXY.out]
       ·exact HI.out.2.2 j (by omega)⟩⟩
      case measure=>simp [intOf];omega
     ·have hrn:∀ w:World,(binOp .neq 87 (.agg #[.bool x1,.int .i64 x2,.int .i64 x3]) (.agg #[.bool y1,.int .i64 y2,.int .i64 y3])).run Try.prog w=.ok (.bool true) w:=fun w=>by
       have:=run_neq_case w ⟨x1,x2,x3⟩ ⟨y1,y2,y3⟩
       rwa [decide_eq_false hxy] at this
      have HN:Hid (false=q):=Lib.hid (by
       rw [← HQ0.out,eq_comm,decide_eq_false_iff_not];intro e
       injection e with _ _ _ _ e5;have h1:=HX.out;rw [e5,HY.out] at h1;exact hxy (Option.some.inj h1).symm)
      clear hxy
      go_upto_region 8 with fail
      go_quiet (fail)
      go_wp2_with fail
      go_ret
      exact ⟨ret_bool HN.out,KR.out.drewN _⟩
    ·obtain rfl:k=s1.length:=by omega
     have HN:Hid (true=q):=Lib.hid (by
      rw [← HQ0.out,eq_comm,decide_eq_true_iff,list_same HL.out HI.out.2.2])
     go_wp2_with fail
     go_ret
     exact ⟨ret_bool HN.out,HI.out.1⟩
  ·have hq:((s1.length:Int) != (s2.length:Int))=true:=by simp;omega
   have hne:false=q:=by
    rw [← HQ0.out,eq_comm,decide_eq_false_iff_not];intro e;injection e with _ _ _ _ e5;exact hl (by rw [e5])
   have HN:=Lib.hid hne;clear hne hl
   go_enter Try.func65,Try.ntmps65
   go_wp2_with fail
   go_ret
   exact ⟨ret_bool HN.out,KA.out⟩
 ·have hne:false=q:=by
   rw [← HQ0.out,eq_comm,decide_eq_false_iff_not];intro e;injection e with h1 h2 h3 h4 h5 h6;exact heq ⟨h1,h2,h3,h4⟩
  have HN:=Lib.hid hne;have HQ:=Lib.hid heq;clear hne heq
  go_enter Try.func65,Try.ntmps65
  go_upto_if 39 with fail
  ·exfalso;exact HQ.out ⟨by assumption,by assumption,by assumption,by assumption⟩
  all_goals
   go_wp2_with fail
   go_ret
   exact ⟨ret_bool HN.out,((Keeps.refl [] w).alloc _).alloc _⟩
open Go.RowKit
namespace Md
def agrees (st:St) (g:Int) (a:Pn.Op):Bool:=match st.waits g with | some o=>decide (o=a) | none=>true
def meet (st:St) (g:Int) (a:Pn.Op) (i h:Int) (b:Pn.Op) (k:Int):St × Option Int :=
 match side a i,side b k with
 | some s,some r =>
  if s.send=true∧g≠h∧r.send=false∧r.ch=s.ch then
   match chan st.chans s.ch with
   | some c =>
    if c.cap=0∧c.closed=false∧((st.waits g).isSome=true∨(st.waits h).isSome=true)∧agrees st g a=true∧agrees st h b=true then (⟨st.chans,drops (drops st.waits g) h⟩,some s.v) else (st,none)
   | none=>(st,none)
  else (st,none)
 | _,_=>(st,none)
end Md
def MeetPost (S:List Nat) (w:World) (p:Value) (D:Md.St × Option Int) (N:Nat) (e:Ending) (w':World):Prop:=e=.returned (.tuple #[.int .i64 (D.2.getD 0),.bool D.2.isSome])∧MoTo S w w' p D.1 N
theorem meet_no {S:List Nat} {w W:World} {p:Value} {st:Md.St} {D:Md.St × Option Int} {N:Nat} (h:D=(st,none)) (hm:Mo w p st N S) (k:Keeps [] w W):MeetPost S w p D N (.returned (.tuple #[.int .i64 0,.bool false])) W:=by
 subst h;exact ⟨rfl,MoTo.refl (hm.then k) k⟩
set_option maxRecDepth 100000 in
set_option maxHeartbeats 3200000 in
theorem model_meet (w:World) (p:Value) (st:Md.St) (N:Nat) (S:List Nat) (g:Int) (a:Pn.Op) (va:Value) (UA:List Nat) (i h:Int) (b:Pn.Op) (vb:Value) (UB:List Nat) (k:Int) (hm:Mo w p st N S) (ha:GV caseE 3 w va a.cases UA) (hb:GV caseE 3 w vb b.cases UB) (hgw:wf64L g) (hhw:wf64L h) :
  Calls Try.prog 43 #[p,.int .i64 g,.agg (opV a va),.int .i64 i,.int .i64 h,.agg (opV b vb),.int .i64 k] w (MeetPost S w p (Md.meet st g a i h b k) N):=by
 have HM:=Lib.hid hm;obtain ⟨q,bm,vh,T,Us,SW,f,col,rfl,hma⟩:=hm;obtain ⟨ao,cap,rfl⟩:=hma.chans.shape;have hle:=hma.chans.le;have HMA:=Lib.hid hma;obtain ⟨D,hD⟩:∃ D,Md.meet st g a i h b k=D:=⟨_,rfl⟩
 rw [hD];have HD:=Lib.hid hD;obtain ⟨w0,hw0⟩:∃ w0,(w.alloc (.cells (opV a va) 28)).alloc (.cells (opV b vb) 28)=w0:=⟨_,rfl⟩
 have K0:Hid (Keeps [] w w0):=Lib.hid (hw0 ▸ ((Keeps.refl [] w).alloc _).alloc _);have HOA:Hid (Blk w0 w.heap.size [.int .i64 a.kind,.int .i64 a.ch,.int .i64 a.n,.int .i64 a.v,va,.bool a.els] 28):=Lib.hid (hw0 ▸ (Blk.fresh w [.int .i64 a.kind,.int .i64 a.ch,.int .i64 a.n,.int .i64 a.v,va,.bool a.els] _ _ rfl).alloc _);have HOB:Hid (Blk w0 (w.heap.size + 1) [.int .i64 b.kind,.int .i64 b.ch,.int .i64 b.n,.int .i64 b.v,vb,.bool b.els] 28):=Lib.hid (hw0 ▸ Blk.fresh _ [.int .i64 b.kind,.int .i64 b.ch,.int .i64 b.n,.int .i64 b.v,vb,.bool b.els] _ _ (by simp));have HA:=Lib.hid ha;have HB:=Lib.hid hb;obtain ⟨aa,ca,rfl⟩:=ha.shape;obtain ⟨ab,cb,rfl⟩:=hb.shape;obtain ⟨⟨b0,b1,b2,b3,b4,b5⟩,_⟩:=Blk.six HOA.out;clear ha hb hma hD;unfold opV at hw0;unfold opV
 go_enter Try.func43,Try.ntmps43
 go_wp2_with fail
 refine (model_sideOf _ a _ UA i (HA.out.then caseE_kept K0.out)).mono ?_
 rintro e w1 ⟨rfl,k1⟩
 have K1:=Lib.hid (K0.out.then k1)
 cases hs:Md.side a i with
 | none =>
  have HE:Hid (D=(st,none)):=Lib.hid (by rw [← HD.out];unfold Md.meet;rw [hs]);unfold sdV Md.noSide;simp only [Option.getD_none,Option.isSome_none];clear hs hw0 b0 b1 b2 b3 b4 b5 k1
  go_wp2_with fail
  go_ret2
  exact meet_no HE.out HM.out (K1.out.alloc _)
 | some s =>
  obtain ⟨sc,ss,sv⟩:=s;have HS:=Lib.hid hs;unfold sdV;simp only [Option.getD_some,Option.isSome_some];obtain ⟨w2,hw2⟩:∃ w2,w1.alloc (.cells #[.int .i64 sc,.bool ss,.int .i64 sv] 92)=w2:=⟨_,rfl⟩
  have K2:Hid (Keeps [] w w2):=Lib.hid (hw2 ▸ K1.out.alloc _);have HSD:Hid (Blk w2 w1.heap.size [.int .i64 sc,.bool ss,.int .i64 sv] 92):=Lib.hid (hw2 ▸ Blk.fresh w1 [.int .i64 sc,.bool ss,.int .i64 sv] _ _ rfl);have K02:Hid (Keeps [] w0 w2):=Lib.hid (hw2 ▸ k1.alloc _);obtain ⟨⟨s0,s1,s2⟩,_⟩:=Blk.three HSD.out;clear hs hw0 b0 b1 b2 b3 b4 b5 k1;obtain ⟨⟨b0,b1,b2,b3,b4,b5⟩,_⟩:=Blk.six (HOB.out.keep K02.out (by simp))
  cases ss with
  | false =>
   have HE:Hid (D=(st,none)):=Lib.hid (by rw [← HD.out];unfold Md.meet;rw [HS.out];cases Md.side b k <;> simp)
   go_wp2_with fail
   go_ret2
   exact meet_no HE.out HM.out K2.out
  | true =>
   cases hgh:(g == h) with
   | true =>
    have HE:Hid (D=(st,none)):=Lib.hid (by
     have:g=h:=by simpa using hgh
     rw [← HD.out];unfold Md.meet;rw [HS.out];cases Md.side b k <;> simp [this])
    go_wp2_with fail
    go_ret2
    exact meet_no HE.out HM.out K2.out
   | false =>
    have HGH:Hid (g≠h):=Lib.hid (by simpa using hgh)
    go_wp2_with fail
    refine (model_sideOf _ b _ UB k (HB.out.then caseE_kept K2.out)).mono ?_
    rintro e w3 ⟨rfl,k3⟩
    cases hr:Md.side b k with
    | none =>
     have HE:Hid (D=(st,none)):=Lib.hid (by rw [← HD.out];unfold Md.meet;rw [HS.out,hr]);unfold sdV Md.noSide;simp only [Option.getD_none,Option.isSome_none];clear hr hw2 b0 b1 b2 b3 b4 b5 s0 s1 s2
     go_wp2_with fail
     go_ret2
     exact meet_no HE.out HM.out ((K2.out.then k3).alloc _)
    | some r =>
     obtain ⟨rc,rs,rv⟩:=r;have HR:=Lib.hid hr;unfold sdV;simp only [Option.getD_some,Option.isSome_some];obtain ⟨w4,hw4⟩:∃ w4,w3.alloc (.cells #[.int .i64 rc,.bool rs,.int .i64 rv] 92)=w4:=⟨_,rfl⟩
     have K24:Hid (Keeps [] w2 w4):=Lib.hid (hw4 ▸ k3.alloc _);have K4:Hid (Keeps [] w w4):=Lib.hid (K2.out.then K24.out);have HRD:Hid (Blk w4 w3.heap.size [.int .i64 rc,.bool rs,.int .i64 rv] 92):=Lib.hid (hw4 ▸ Blk.fresh w3 [.int .i64 rc,.bool rs,.int .i64 rv] _ _ rfl);clear hr hw2 b0 b1 b2 b3 b4 b5 s0 s1 s2 k3;obtain ⟨⟨s0,s1,s2⟩,_⟩:=Blk.three (HSD.out.keep K24.out (by simp));obtain ⟨⟨r0,r1,r2⟩,_⟩:=Blk.three HRD.out;have HM4:=Lib.hid (HMA.out.then K4.out)
     cases rs with
     | true =>
      have HE:Hid (D=(st,none)):=Lib.hid (by rw [← HD.out];unfold Md.meet;rw [HS.out,HR.out];simp)
      go_wp2_with fail
      go_ret2
      exact meet_no HE.out HM.out K4.out
     | false =>
      cases hrc:(rc != sc) with
      | true =>
       have HE:Hid (D=(st,none)):=Lib.hid (by have this:¬ rc=sc:=(by simpa using hrc);rw [← HD.out];unfold Md.meet;rw [HS.out,HR.out];simp [this])
       go_wp2_with fail
       go_ret2
       exact meet_no HE.out HM.out K4.out
      | false =>
       have HRC:Hid (rc=sc):=Lib.hid (by simpa using hrc)
       by_cases hin:1≤sc∧sc≤(st.chans.length:Int)
       ·obtain ⟨k0,rfl⟩:∃ k0:Nat,sc=(k0:Int) + 1:=⟨(sc - 1).toNat,by omega⟩
        have hk:k0 < st.chans.length:=by omega
        obtain ⟨c,hc,hc2⟩:=Md.chan_some hin.1 hin.2;rw [show ((k0:Int) + 1 - 1).toNat=k0 by omega] at hc2;obtain ⟨gc,off,bv,V,rfl,_,hg,a0,a1,a2,_,_,_,_⟩:=HM4.out.chans.get hc2;have HC:=Lib.hid hc;clear hc hc2
        go_wp2_with fail
        refine (model_channel _ q _ _ gc off k0 _ HM4.out.blk hle hk).mono ?_
        rintro e w4' ⟨rfl,rfl⟩
        clear hw4
        cases hc0:(c.cap != 0) with
        | true =>
         have HE:Hid (D=(st,none)):=Lib.hid (by have this:¬ c.cap=0:=(by simpa using hc0);rw [← HD.out];unfold Md.meet;rw [HS.out,HR.out];simp [HC.out,this])
         go_wp2_with fail
         go_ret2
         exact meet_no HE.out HM.out K4.out
        | false =>
         have HC0:Hid (c.cap=0):=Lib.hid (by simpa using hc0)
         cases hcl:c.closed with
         | true =>
          rw [hcl] at a2;have HE:Hid (D=(st,none)):=Lib.hid (by rw [← HD.out];unfold Md.meet;rw [HS.out,HR.out];simp [HC.out,hcl])
          go_wp2_with fail
          go_ret2
          exact meet_no HE.out HM.out K4.out
         | false =>
          rw [hcl] at a2;have HCL:=Lib.hid hcl;clear hcl;have HCOND:Hid (D=if ((st.waits g).isSome=true∨(st.waits h).isSome=true)∧Md.agrees st g a=true∧Md.agrees st h b=true then (⟨st.chans,Md.drops (Md.drops st.waits g) h⟩,some sv) else (st,none)):=Lib.hid (by
           rw [← HD.out];unfold Md.meet;rw [HS.out,HR.out];simp [HC.out,HC0.out,HCL.out,HRC.out,HGH.out])
          have m1:=HM4.out.cells.2.1;have M2:∀ x:Obj,(w4.alloc x).cell? ⟨q,1,none⟩=some (.map (some bm)):=fun x=>((Keeps.refl [] w4).alloc x).cell m1 (by simp)
          have HMP:Hid (∀ x:Obj,MapV Try.prog 3 (w4.alloc x) bm N f):=Lib.hid (fun x=>HM4.out.map.then ((Keeps.refl [] w4).alloc x));have HBA:=Lib.hid (HOA.out.keep (K02.out.then K24.out) (by simp));have HBB:=Lib.hid (HOB.out.keep (K02.out.then K24.out) (by simp));obtain ⟨⟨ha0,ha1,ha2,ha3,ha4,ha5⟩,_⟩:=Blk.six HBA.out;obtain ⟨⟨hb0,hb1,hb2,hb3,hb4,hb5⟩,_⟩:=Blk.six HBB.out;have A0:∀ x y:Obj,((w4.alloc x).alloc y).cell? ⟨w.heap.size,0,none⟩=some (.int .i64 a.kind):=fun x y=>(((Keeps.refl [] w4).alloc x).alloc y).cell ha0 (by simp)
          have A1:∀ x y:Obj,((w4.alloc x).alloc y).cell? ⟨w.heap.size,1,none⟩=some (.int .i64 a.ch):=fun x y=>(((Keeps.refl [] w4).alloc x).alloc y).cell ha1 (by simp)
          have A2:∀ x y:Obj,((w4.alloc x).alloc y).cell? ⟨w.heap.size,2,none⟩=some (.int .i64 a.n):=fun x y=>(((Keeps.refl [] w4).alloc x).alloc y).cell ha2 (by simp)
          have A3:∀ x y:Obj,((w4.alloc x).alloc y).cell? ⟨w.heap.size,3,none⟩=some (.int .i64 a.v):=fun x y=>(((Keeps.refl [] w4).alloc x).alloc y).cell ha3 (by simp)
          have A4:∀ x y:Obj,((w4.alloc x).alloc y).cell? ⟨w.heap.size,4,none⟩=some (.slice aa a.cases.length ca):=fun x y=>(((Keeps.refl [] w4).alloc x).alloc y).cell ha4 (by simp)
          have A5:∀ x y:Obj,((w4.alloc x).alloc y).cell? ⟨w.heap.size,5,none⟩=some (.bool a.els):=fun x y=>(((Keeps.refl [] w4).alloc x).alloc y).cell ha5 (by simp)
          have B0:∀ x y:Obj,((w4.alloc x).alloc y).cell? ⟨w.heap.size + 1,0,none⟩=some (.int .i64 b.kind):=fun x y=>(((Keeps.refl [] w4).alloc x).alloc y).cell hb0 (by simp)
          have B1:∀ x y:Obj,((w4.alloc x).alloc y).cell? ⟨w.heap.size + 1,1,none⟩=some (.int .i64 b.ch):=fun x y=>(((Keeps.refl [] w4).alloc x).alloc y).cell hb1 (by simp)
          have B2:∀ x y:Obj,((w4.alloc x).alloc y).cell? ⟨w.heap.size + 1,2,none⟩=some (.int .i64 b.n):=fun x y=>(((Keeps.refl [] w4).alloc x).alloc y).cell hb2 (by simp)
          have B3:∀ x y:Obj,((w4.alloc x).alloc y).cell? ⟨w.heap.size + 1,3,none⟩=some (.int .i64 b.v):=fun x y=>(((Keeps.refl [] w4).alloc x).alloc y).cell hb3 (by simp)
          have B4:∀ x y:Obj,((w4.alloc x).alloc y).cell? ⟨w.heap.size + 1,4,none⟩=some (.slice ab b.cases.length cb):=fun x y=>(((Keeps.refl [] w4).alloc x).alloc y).cell hb4 (by simp)
          have B5:∀ x y:Obj,((w4.alloc x).alloc y).cell? ⟨w.heap.size + 1,5,none⟩=some (.bool b.els):=fun x y=>(((Keeps.refl [] w4).alloc x).alloc y).cell hb5 (by simp)
          clear ha0 ha1 ha2 ha3 ha4 ha5 hb0 hb1 hb2 hb3 hb4 hb5
          cases hg1:st.waits g with
          | none =>
           have hfg:=HM4.out.wm.none hg1
           cases hh1:st.waits h with
           | none =>
            have hfh:=HM4.out.wm.none hh1;have HE:Hid (D=(st,none)):=Lib.hid (by rw [HCOND.out];simp [hg1,hh1])
            go_wp2_with (at_lookup;go_must (first | (refine wp_mapGet (f:=f) Try.underlying3 Try.underlying78 zero_op hgw HM4.out.map ?_) | (refine wp_mapGet (f:=f) Try.underlying3 Try.underlying78 zero_op hhw (HMP.out _) ?_)))
            go_ret2
            exact meet_no HE.out HM.out (K4.out.then (((Keeps.refl [] w4).alloc _).alloc _))
           | some oh =>
            obtain ⟨_,vh,Uh,hfh,hvh,_⟩:=HM4.out.wm.some hh1;obtain ⟨avh,cvh,rfl⟩:=hvh.shape;have HVh:=Lib.hid hvh;unfold opV at hfh;clear hvh
            go_wp2_with (at_lookup;go_must (first | (refine wp_mapGet (f:=f) Try.underlying3 Try.underlying78 zero_op hgw HM4.out.map ?_) | (refine wp_mapGet (f:=f) Try.underlying3 Try.underlying78 zero_op hhw (HMP.out _) ?_)))
            refine (plan_sameOp _ oh b _ _ Uh UB (HVh.out.then caseE_kept (((Keeps.refl [] w4).alloc _).alloc _)) (HB.out.then caseE_kept (K4.out.then ((((Keeps.refl [] w4).alloc _).alloc _))))).mono ?_
            rintro e w6 ⟨rfl,k6⟩
            cases hq:decide (oh=b) with
            | false =>
             have HE:Hid (D=(st,none)):=Lib.hid (by rw [HCOND.out];simp [Md.agrees,hg1,hh1,hq])
             go_wp2_with fail
             go_ret2
             exact meet_no HE.out HM.out (K4.out.then ((((Keeps.refl [] w4).alloc _).alloc _).then k6))
            | true =>
             have HE:Hid (D=(⟨st.chans,Md.drops (Md.drops st.waits g) h⟩,some sv)):=Lib.hid (by rw [HCOND.out];simp [Md.agrees,hg1,hh1,hq]);have K46:Hid (Keeps [] w4 w6):=Lib.hid ((((Keeps.refl [] w4).alloc _).alloc _).then k6);have HM6:=Lib.hid (HM4.out.then K46.out);have m6:=HM6.out.cells.2.1;clear m1 M2 A0 A1 A2 A3 A4 A5 B0 B1 B2 B3 B4 B5 s0 s1 s2 r0 r1 r2 a0 a1 a2
             go_wp2_with (at_delete;go_must (refine wp_mapDel (f:=f) Try.underlying3 Try.underlying78 hgw HM6.out.map ?_))
             intro w7 m7 k7;obtain ⟨hM7,kS7⟩:=HM6.out.drop g m7 k7;have hne:w1.heap.size≠bm:=fun e=>by have h1:=HMA.out.lt bm HMA.out.sm;have h2:=K1.out.size;omega
             have HSD7:=Lib.hid ((HSD.out.keep (K24.out.then K46.out) (by simp)).keep k7 (by simpa using hne));have HM7:=Lib.hid hM7;have HK7:=Lib.hid kS7;have m8:=hM7.cells.2.1;clear m6 m7 k7 hM7 kS7
             go_wp2_with (at_delete;go_must (refine wp_mapDel (f:=fun z=>if z=g then none else f z) Try.underlying3 Try.underlying78 hhw HM7.out.map ?_))
             intro w8 m9 k8;obtain ⟨hM8,kS8⟩:=HM7.out.drop h m9 k8;obtain ⟨⟨s0,s1,s2⟩,_⟩:=Blk.three (HSD7.out.keep k8 (by simpa using hne));have HM8:=Lib.hid hM8;have HK8:Hid (Keeps S w w8):=Lib.hid ((((K4.out.then K46.out).mono (T:=S) (by simp)).trans HK7.out (fun x hx=>.inl hx)).trans kS8 (fun x hx=>.inl hx));clear m8 m9 k8 hM8 kS8
             go_wp2_with fail
             go_ret2
             exact ⟨by rw [HE.out];rfl,S,by rw [HE.out];exact ⟨q,bm,_,_,_,_,_,_,rfl,HM8.out⟩,HK8.out,fun x hx=>.inl hx⟩
          | some og =>
           obtain ⟨_,vg,Ug,hfg,hvg,_⟩:=HM4.out.wm.some hg1;obtain ⟨avg,cvg,rfl⟩:=hvg.shape;have HVg:=Lib.hid hvg;unfold opV at hfg;clear hvg
           cases hh1:st.waits h with
           | none =>
            have hfh:=HM4.out.wm.none hh1
            go_wp2_with (at_lookup;go_must (first | (refine wp_mapGet (f:=f) Try.underlying3 Try.underlying78 zero_op hgw HM4.out.map ?_) | (refine wp_mapGet (f:=f) Try.underlying3 Try.underlying78 zero_op hhw (HMP.out _) ?_)))
            refine (plan_sameOp _ og a _ _ Ug UA (HVg.out.then caseE_kept (((Keeps.refl [] w4).alloc _).alloc _)) (HA.out.then caseE_kept (K4.out.then ((((Keeps.refl [] w4).alloc _).alloc _))))).mono ?_
            rintro e w6 ⟨rfl,k6⟩
            cases hq:decide (og=a) with
            | false =>
             have HE:Hid (D=(st,none)):=Lib.hid (by rw [HCOND.out];simp [Md.agrees,hg1,hh1,hq])
             go_wp2_with fail
             go_ret2
             exact meet_no HE.out HM.out (K4.out.then ((((Keeps.refl [] w4).alloc _).alloc _).then k6))
            | true =>
             have HE:Hid (D=(⟨st.chans,Md.drops (Md.drops st.waits g) h⟩,some sv)):=Lib.hid (by rw [HCOND.out];simp [Md.agrees,hg1,hh1,hq]);have K46:Hid (Keeps [] w4 w6):=Lib.hid ((((Keeps.refl [] w4).alloc _).alloc _).then k6);have HM6:=Lib.hid (HM4.out.then K46.out);have m6:=HM6.out.cells.2.1;clear m1 M2 A0 A1 A2 A3 A4 A5 B0 B1 B2 B3 B4 B5 s0 s1 s2 r0 r1 r2 a0 a1 a2
             go_wp2_with (at_delete;go_must (refine wp_mapDel (f:=f) Try.underlying3 Try.underlying78 hgw HM6.out.map ?_))
             intro w7 m7 k7;obtain ⟨hM7,kS7⟩:=HM6.out.drop g m7 k7;have hne:w1.heap.size≠bm:=fun e=>by have h1:=HMA.out.lt bm HMA.out.sm;have h2:=K1.out.size;omega
             have HSD7:=Lib.hid ((HSD.out.keep (K24.out.then K46.out) (by simp)).keep k7 (by simpa using hne));have HM7:=Lib.hid hM7;have HK7:=Lib.hid kS7;have m8:=hM7.cells.2.1;clear m6 m7 k7 hM7 kS7
             go_wp2_with (at_delete;go_must (refine wp_mapDel (f:=fun z=>if z=g then none else f z) Try.underlying3 Try.underlying78 hhw HM7.out.map ?_))
             intro w8 m9 k8;obtain ⟨hM8,kS8⟩:=HM7.out.drop h m9 k8;obtain ⟨⟨s0,s1,s2⟩,_⟩:=Blk.three (HSD7.out.keep k8 (by simpa using hne));have HM8:=Lib.hid hM8;have HK8:Hid (Keeps S w w8):=Lib.hid ((((K4.out.then K46.out).mono (T:=S) (by simp)).trans HK7.out (fun x hx=>.inl hx)).trans kS8 (fun x hx=>.inl hx));clear m8 m9 k8 hM8 kS8
             go_wp2_with fail
             go_ret2
             exact ⟨by rw [HE.out];rfl,S,by rw [HE.out];exact ⟨q,bm,_,_,_,_,_,_,rfl,HM8.out⟩,HK8.out,fun x hx=>.inl hx⟩
           | some oh =>
            obtain ⟨_,vh,Uh,hfh,hvh,_⟩:=HM4.out.wm.some hh1;obtain ⟨avh,cvh,rfl⟩:=hvh.shape;have HVh:=Lib.hid hvh;unfold opV at hfh;clear hvh
            go_wp2_with (at_lookup;go_must (first | (refine wp_mapGet (f:=f) Try.underlying3 Try.underlying78 zero_op hgw HM4.out.map ?_) | (refine wp_mapGet (f:=f) Try.underlying3 Try.underlying78 zero_op hhw (HMP.out _) ?_)))
            refine (plan_sameOp _ og a _ _ Ug UA (HVg.out.then caseE_kept (((Keeps.refl [] w4).alloc _).alloc _)) (HA.out.then caseE_kept (K4.out.then ((((Keeps.refl [] w4).alloc _).alloc _))))).mono ?_
            rintro e w6 ⟨rfl,k6⟩
            cases hq:decide (og=a) with
            | false =>
             have HE:Hid (D=(st,none)):=Lib.hid (by rw [HCOND.out];simp [Md.agrees,hg1,hh1,hq])
             go_wp2_with fail
             go_ret2
             exact meet_no HE.out HM.out (K4.out.then ((((Keeps.refl [] w4).alloc _).alloc _).then k6))
            | true =>
             have hoh:=(Blk.fresh (w4.alloc (.cells #[.int .i64 og.kind,.int .i64 og.ch,.int .i64 og.n,.int .i64 og.v,.slice avg og.cases.length cvg,.bool og.els] 28)) [.int .i64 oh.kind,.int .i64 oh.ch,.int .i64 oh.n,.int .i64 oh.v,.slice avh oh.cases.length cvh,.bool oh.els] 28 (w4.heap.size + 1) (by simp)).keep k6 (by simp);have K6:=Lib.hid ((((Keeps.refl [] w4).alloc _).alloc _).then k6);obtain ⟨⟨o0,o1,o2,o3,o4,o5⟩,_⟩:=Blk.six hoh;obtain ⟨⟨hb0,hb1,hb2,hb3,hb4,hb5⟩,_⟩:=Blk.six (HBB.out.keep K6.out (by simp));clear hoh k6
             go_wp2_with fail
             refine (plan_sameOp _ oh b _ _ Uh UB (HVh.out.then caseE_kept K6.out) (HB.out.then caseE_kept (K4.out.then K6.out))).mono ?_
             rintro e w9 ⟨rfl,k9⟩
             cases hq2:decide (oh=b) with
             | false =>
              have HE:Hid (D=(st,none)):=Lib.hid (by rw [HCOND.out];simp [Md.agrees,hg1,hh1,hq,hq2])
              go_wp2_with fail
              go_ret2
              exact meet_no HE.out HM.out (K4.out.then (K6.out.then k9))
             | true =>
              have HE:Hid (D=(⟨st.chans,Md.drops (Md.drops st.waits g) h⟩,some sv)):=Lib.hid (by rw [HCOND.out];simp [Md.agrees,hg1,hh1,hq,hq2]);have K46:Hid (Keeps [] w4 w9):=Lib.hid (K6.out.then k9);have HM6:=Lib.hid (HM4.out.then K46.out);have m6:=HM6.out.cells.2.1;clear o0 o1 o2 o3 o4 o5 hb0 hb1 hb2 hb3 hb4 hb5 m1 M2 A0 A1 A2 A3 A4 A5 B0 B1 B2 B3 B4 B5 s0 s1 s2 r0 r1 r2 a0 a1 a2
              go_wp2_with (at_delete;go_must (refine wp_mapDel (f:=f) Try.underlying3 Try.underlying78 hgw HM6.out.map ?_))
              intro w7 m7 k7;obtain ⟨hM7,kS7⟩:=HM6.out.drop g m7 k7;have hne:w1.heap.size≠bm:=fun e=>by have h1:=HMA.out.lt bm HMA.out.sm;have h2:=K1.out.size;omega
              have HSD7:=Lib.hid ((HSD.out.keep (K24.out.then K46.out) (by simp)).keep k7 (by simpa using hne));have HM7:=Lib.hid hM7;have HK7:=Lib.hid kS7;have m8:=hM7.cells.2.1;clear m6 m7 k7 hM7 kS7
              go_wp2_with (at_delete;go_must (refine wp_mapDel (f:=fun z=>if z=g then none else f z) Try.underlying3 Try.underlying78 hhw HM7.out.map ?_))
              intro w8 m9 k8;obtain ⟨hM8,kS8⟩:=HM7.out.drop h m9 k8;obtain ⟨⟨s0,s1,s2⟩,_⟩:=Blk.three (HSD7.out.keep k8 (by simpa using hne));have HM8:=Lib.hid hM8;have HK8:Hid (Keeps S w w8):=Lib.hid ((((K4.out.then K46.out).mono (T:=S) (by simp)).trans HK7.out (fun x hx=>.inl hx)).trans kS8 (fun x hx=>.inl hx));clear m8 m9 k8 hM8 kS8
              go_wp2_with fail
              go_ret2
              exact ⟨by rw [HE.out];rfl,S,by rw [HE.out];exact ⟨q,bm,_,_,_,_,_,_,rfl,HM8.out⟩,HK8.out,fun x hx=>.inl hx⟩
       ·have hout:sc < 1∨(st.chans.length:Int) < sc:=by omega
        have HE:Hid (D=(st,none)):=Lib.hid (by rw [← HD.out];unfold Md.meet;rw [HS.out,HR.out];simp [Md.chan_none hout])
        go_wp2_with fail
        refine (model_channel_no _ q _ _ _ _ _ HM4.out.blk hle hout).mono ?_
        rintro e w4' ⟨rfl,rfl⟩
        clear hw4
        go_wp2_with fail
        go_ret2
        exact meet_no HE.out HM.out K4.out
namespace Jg
theorem sub_len {α:Type} [DecidableEq α]:∀ {a b:List α},a.Nodup→(∀ x∈a,x∈b)→a.length≤b.length
 | [],b,_,_=>Nat.zero_le _
 | x :: a,b,h,k=>by
  have hx:=k x List.mem_cons_self;obtain ⟨h1,h2⟩:=List.nodup_cons.1 h;have:a.length≤(b.erase x).length:=sub_len h2 fun y hy=>by
   have hne:y≠x:=fun e=>h1 (e ▸ hy)
   exact (List.mem_erase_of_ne hne).2 (k y (List.mem_cons_of_mem _ hy))
  rw [List.length_erase_of_mem hx] at this;have:0 < b.length:=List.length_pos_of_mem hx;simp only [List.length_cons];omega
def mk0:Sx.Mk:=⟨0,0,0,0,0,0,0,0,⟨0,0,0,false,0⟩⟩
def before (a b:Sx.Mk):Bool:=decide (a.re≠0∧a.re < b.call)
def steps (m:Sx.Mk):Bool:=decide (1≤m.call∧(m.arrive=0∨m.call≤m.arrive)∧(m.point=0∨m.call≤m.point∧m.arrive≤m.point) ∧
 (m.re=0∨m.call≤m.re∧m.arrive≤m.re∧m.point≤m.re)∧(m.res.code=6→m.point=0∧m.arrive=0)∧(m.res.code≠6→m.re=0∨m.point≠0))
def inP (p:List (List Pn.Op)) (m:Sx.Mk):Bool:=decide (0≤m.g∧m.g < (p.length:Int)∧0≤m.op∧m.op < ((p.getD m.g.toNat []).length:Int))
def ofG (l:List Sx.Mk) (g:Int):List Sx.Mk:=l.filter (fun m=>m.g == g)
def Row (l:List Sx.Mk):Prop:=(∀ m∈l,m.op < (l.length:Int))∧(l.map (fun m=>m.op)).Nodup∧∀ a∈l,∀ b∈l,b.op=a.op + 1→before a b=true
noncomputable def inRow (l:List Sx.Mk):Bool:=by classical exact decide (Row l)
noncomputable def fits (p:List (List Pn.Op)) (l:List Sx.Mk):Bool:=by classical exact decide (Pn.right p=true∧l.length≤128∧(∀ m∈l,inP p m=true∧steps m=true)∧∀ g:Nat,g < p.length→Row (ofG l g))
def isAt (g op:Int) (m:Sx.Mk):Bool:=m.g == g && m.op == op
def lastOf (l:List Sx.Mk) (g op:Int):Sx.Mk:=(l.filter (isAt g op)).getLastD mk0
def cnt (l:List Sx.Mk) (g op:Int):Nat:=(l.filter (isAt g op)).length
def good1 (p:List (List Pn.Op)) (l:List Sx.Mk) (m:Sx.Mk):Bool :=
 inP p m && steps m && decide (cnt l m.g m.op=1) && (decide (m.op≤0) || (decide (cnt l m.g (m.op - 1)=1) && before (lastOf l m.g (m.op - 1)) m))
theorem filter_one {α:Type} {l:List α} {q:α→Bool} (h:(l.filter q).length=1) {x:α} (hx:x∈l) (hq:q x=true):l.filter q=[x]:=by
 obtain ⟨y,hy⟩:=List.length_eq_one_iff.1 h;have:x∈l.filter q:=List.mem_filter.2 ⟨hx,hq⟩;rw [hy] at this ⊢;rw [List.mem_singleton.1 this]
theorem cnt_of (l:List Sx.Mk) (g op:Int):cnt l g op=((ofG l g).filter (fun m=>m.op == op)).length:=by
 unfold cnt ofG;rw [List.filter_filter]
 congr 1
 refine List.filter_congr fun x _=>?_
 unfold isAt;exact Bool.and_comm _ _
theorem mem_of {l:List Sx.Mk} {g:Int} {m:Sx.Mk}:m∈ofG l g↔m∈l∧m.g=g:=by
 unfold ofG;simp
theorem nodup_cnt {l:List Sx.Mk}:(l.map (fun m=>m.op)).Nodup↔∀ m∈l,(l.filter (fun x=>x.op == m.op)).length=1:=by
 induction l with
 | nil=>simp
 | cons a l ih =>
  rw [List.map_cons,List.nodup_cons,ih]
  constructor
  ·rintro ⟨h1,h2⟩ m hm
   rcases List.mem_cons.1 hm with rfl | hm
   ·have:l.filter (fun x=>x.op == m.op)=[]:=by
     rw [List.filter_eq_nil_iff];intro x hx;simp only [beq_iff_eq];exact fun e=>h1 (List.mem_map.2 ⟨x,hx,e⟩)
    simp [this]
   ·have hne:(a.op == m.op)=false:=by
     simp only [beq_eq_false_iff_ne,ne_eq];exact fun e=>h1 (List.mem_map.2 ⟨m,hm,e.symm⟩)
    rw [List.filter_cons,hne];exact h2 m hm
  ·intro h;have h1:a.op∉l.map (fun m=>m.op):=fun hm=>by
    obtain ⟨x,hx,e⟩:=List.mem_map.1 hm;have:=h a List.mem_cons_self;rw [List.filter_cons,if_pos (by simp)] at this;simp only [List.length_cons] at this;have hx':x∈l.filter (fun y=>y.op == a.op):=List.mem_filter.2 ⟨hx,by simpa using e⟩;have:=List.length_pos_of_mem hx';omega
   refine ⟨h1,fun m hm=>?_⟩;have hne:(a.op == m.op)=false:=by
    simp only [beq_eq_false_iff_ne,ne_eq];exact fun e=>h1 (List.mem_map.2 ⟨m,hm,e.symm⟩)
   have:=h m (List.mem_cons_of_mem _ hm);rw [List.filter_cons,hne] at this;exact this
theorem range_int_nodup (n:Nat):((List.range n).map (fun k:Nat=>(k:Int))).Nodup :=
 List.pairwise_map.2 (List.nodup_range.imp fun h e=>h (by omega))
theorem all_there {l:List Int} {n:Nat} (h0:∀ x∈l,0≤x∧x < (n:Int)) (hn:l.Nodup) (hl:l.length=n) {k:Nat} (hk:k < n):(k:Int)∈l:=by
 refine Classical.byContradiction fun hm=>?_
 have:=sub_len (a:=l) (b:=((List.range n).map (fun k:Nat=>(k:Int))).erase k) hn fun x hx=>by
  have h1:=h0 x hx;have hne:x≠(k:Int):=fun e=>hm (e ▸ hx)
  refine (List.mem_erase_of_ne hne).2 (List.mem_map.2 ⟨x.toNat,List.mem_range.2 (by omega),by omega⟩)
 have hkm:(k:Int)∈(List.range n).map (fun k:Nat=>(k:Int)):=List.mem_map.2 ⟨k,List.mem_range.2 hk,rfl⟩;rw [List.length_erase_of_mem hkm,List.length_map,List.length_range] at this;omega
theorem row_iff {l:List Sx.Mk} (h0:∀ m∈l,0≤m.op):Row l↔(∀ m∈l,(l.filter (fun x=>x.op == m.op)).length=1)∧∀ m∈l,0 < m.op→∃ a,l.filter (fun x=>x.op == m.op - 1)=[a]∧before a m=true:=by
 unfold Row;rw [nodup_cnt]
 constructor
 ·rintro ⟨h1,h2,h3⟩
  refine ⟨h2,fun m hm hp=>?_⟩;have ha:=all_there (l:=l.map (fun m=>m.op)) (n:=l.length) (fun x hx=>by
   obtain ⟨y,hy,rfl⟩:=List.mem_map.1 hx;exact ⟨h0 y hy,h1 y hy⟩) (nodup_cnt.2 h2) (by simp) (k:=(m.op - 1).toNat) (by have:=h1 m hm;omega)
  obtain ⟨a,ha1,ha2⟩:=List.mem_map.1 ha;have e:a.op=m.op - 1:=by omega
  refine ⟨a,filter_one (by have:=h2 a ha1;rwa [e] at this) ha1 (by simp [e]),h3 a ha1 m hm (by omega)⟩
 ·rintro ⟨h2,h3⟩
  have hnd:=nodup_cnt.2 h2;have down:∀ k:Nat,∀ m∈l,m.op=(k:Int)→∀ j:Nat,j≤k→(j:Int)∈l.map (fun m=>m.op):=by
   intro k
   induction k with
   | zero =>
    intro m hm e j hj;exact List.mem_map.2 ⟨m,hm,by omega⟩
   | succ k ih =>
    intro m hm e j hj
    by_cases hjk:j=k + 1
    ·exact List.mem_map.2 ⟨m,hm,by omega⟩
    ·obtain ⟨a,e1,_⟩:=h3 m hm (by omega);have:a∈l.filter (fun x=>x.op == m.op - 1):=by rw [e1];exact List.mem_singleton.2 rfl
     obtain ⟨a1,a2⟩:=List.mem_filter.1 this;simp only [beq_iff_eq] at a2;exact ih a a1 (by omega) j (by omega)
  refine ⟨fun m hm=>?_,h2,fun a ha b hb e=>?_⟩
  ·have:=sub_len (a:=(List.range (m.op.toNat + 1)).map (fun k:Nat=>(k:Int))) (b:=l.map (fun m=>m.op)) (range_int_nodup _) fun x hx=>by
    obtain ⟨j,hj,rfl⟩:=List.mem_map.1 hx;have:=h0 m hm;exact down m.op.toNat m hm (by omega) j (by have:=List.mem_range.1 hj;omega)
   simp at this;have:=h0 m hm;omega
  ·obtain ⟨a',e1,e2⟩:=h3 b hb (by have:=h0 a ha;omega);have:a∈l.filter (fun x=>x.op == b.op - 1):=List.mem_filter.2 ⟨ha,by simp;omega⟩;rw [e1] at this;rw [List.mem_singleton.1 this];exact e2
theorem fits_doc (p:List (List Pn.Op)) (l:List Sx.Mk):fits p l=(Pn.right p && decide (l.length≤128) && l.all (good1 p l)):=by
 have key:fits p l=true↔(Pn.right p && decide (l.length≤128) && l.all (good1 p l))=true:=by
  unfold fits;simp only [decide_eq_true_eq,Bool.and_eq_true,List.all_eq_true]
  constructor
  ·rintro ⟨h1,h2,h3,h4⟩
   refine ⟨⟨h1,h2⟩,fun m hm=>?_⟩;obtain ⟨i1,i2⟩:=h3 m hm;have i1':=i1;unfold inP at i1';simp only [decide_eq_true_eq] at i1';have hr:=h4 m.g.toNat (by omega);rw [show ((m.g.toNat:Nat):Int)=m.g by omega] at hr;rw [row_iff (fun x hx=>by
    have:=(h3 x (mem_of.1 hx).1).1;unfold inP at this;simp only [decide_eq_true_eq] at this;omega)] at hr
   have hmo:m∈ofG l m.g:=mem_of.2 ⟨hm,rfl⟩;unfold good1;simp only [Bool.and_eq_true,Bool.or_eq_true,decide_eq_true_eq];refine ⟨⟨⟨i1,i2⟩,by rw [cnt_of];exact hr.1 m hmo⟩,?_⟩
   by_cases hp:m.op≤0
   ·exact .inl hp
   ·obtain ⟨a,a1,a2⟩:=hr.2 m hmo (by omega);refine .inr ⟨by rw [cnt_of,a1];rfl,?_⟩;have:l.filter (isAt m.g (m.op - 1))=[a]:=by
     rw [← a1];unfold ofG;rw [List.filter_filter];refine List.filter_congr fun x _=>?_
     unfold isAt;exact Bool.and_comm _ _
    unfold lastOf;rw [this];exact a2
  ·rintro ⟨⟨h1,h2⟩,h3⟩
   have hg:∀ m∈l,inP p m=true∧steps m=true∧cnt l m.g m.op=1∧(m.op≤0∨cnt l m.g (m.op - 1)=1∧before (lastOf l m.g (m.op - 1)) m=true):=fun m hm=>by
    have:=h3 m hm;unfold good1 at this;simp only [Bool.and_eq_true,Bool.or_eq_true,decide_eq_true_eq] at this;exact ⟨this.1.1.1,this.1.1.2,this.1.2,this.2⟩
   refine ⟨h1,h2,fun m hm=>⟨(hg m hm).1,(hg m hm).2.1⟩,fun g hgp=>?_⟩;rw [row_iff (fun x hx=>by
    have:=(hg x (mem_of.1 hx).1).1;unfold inP at this;simp only [decide_eq_true_eq] at this;omega)]
   refine ⟨fun m hm=>?_,fun m hm hp=>?_⟩
   ·obtain ⟨m1,m2⟩:=mem_of.1 hm;have:=(hg m m1).2.2.1;rw [cnt_of,m2] at this;exact this
   ·obtain ⟨m1,m2⟩:=mem_of.1 hm;rcases (hg m m1).2.2.2 with h | ⟨q1,q2⟩
    ·omega
    ·have e:(ofG l g).filter (fun x=>x.op == m.op - 1)=l.filter (isAt m.g (m.op - 1)):=by
      unfold ofG;rw [List.filter_filter];refine List.filter_congr fun x _=>?_
      unfold isAt;rw [m2];exact Bool.and_comm _ _
     unfold cnt at q1;obtain ⟨a,ha⟩:=List.length_eq_one_iff.1 q1;unfold lastOf at q2;rw [ha] at q2;exact ⟨a,by rw [e,ha],q2⟩
 cases h1:fits p l <;> cases h2:(Pn.right p && decide (l.length≤128) && l.all (good1 p l))
 ·rfl
 ·rw [h2] at key;rw [h1] at key;exact absurd (key.2 rfl) (by simp)
 ·rw [h2] at key;rw [h1] at key;exact absurd (key.1 rfl) (by simp)
 ·rfl
end Jg
namespace Jg
def noO:Pn.Op:=⟨0,0,0,0,[],false⟩
def opAt (p:List (List Pn.Op)) (m:Sx.Mk):Pn.Op:=(p.getD m.g.toNat []).getD m.op.toNat noO
def isMake (p:List (List Pn.Op)) (m:Sx.Mk):Bool:=(opAt p m).kind == 1
def madeB (p:List (List Pn.Op)) (c:Int) (m:Sx.Mk):Bool:=isMake p m && (m.point != 0) && decide (m.point < c)
def madeN (p:List (List Pn.Op)) (l:List Sx.Mk) (c:Int):Nat:=min (l.countP (madeB p c)) 8
def cut (c n:Int):Int:=if n < c then 0 else c
def cutC (n:Int) (c:Pn.Cs):Pn.Cs:={ c with ch:=cut c.ch n }
def cutO (o:Pn.Op) (n:Int):Pn.Op:=if 2≤o.kind∧o.kind≤5 then { o with ch:=cut o.ch n } else if o.kind=9 then { o with cases:=o.cases.map (cutC n) } else o
def cutD (o:Pn.Op) (n:Int):Pn.Op:={ o with ch:=if 2≤o.kind∧o.kind≤5 then cut o.ch n else o.ch,cases:=o.cases.map (cutC n) }
theorem cutD_eq {o:Pn.Op} (h:Pn.rightOp o=true) (n:Int):cutD o n=cutO o n:=by
 unfold Pn.rightOp at h;simp only [decide_eq_true_eq] at h;have hc:=h.2.2.2.2.2.2.2.2.2.2.2.2.1;unfold cutD cutO
 by_cases h1:2≤o.kind∧o.kind≤5
 ·rw [if_pos h1,if_pos h1,(hc (by omega)).1];rfl
 ·rw [if_neg h1,if_neg h1]
  by_cases h9:o.kind=9
  ·rw [if_pos h9]
  ·rw [if_neg h9];have:=(hc h9).1
   cases o;simp only at this;subst this;rfl
def seen (p:List (List Pn.Op)) (l:List Sx.Mk) (m:Sx.Mk):Pn.Op:=cutO (opAt p m) (madeN p l m.call)
theorem cutO_kind (o:Pn.Op) (n:Int):(cutO o n).kind=o.kind:=by unfold cutO;split;rfl;split <;> rfl
def resEq (a b:Md.Res):Bool:=decide (a.code=b.code∧a.cs=b.cs∧a.v=b.v∧a.ok=b.ok∧a.n=b.n)
def agr (m:Sx.Mk) (r:Md.Res):Bool:=(decide (m.re=0) && decide (m.res.code=0)) || resEq m.res r
def fireS (st:Md.St) (m:Sx.Mk) (o:Pn.Op):Md.St:=(Md.fire st m.g o m.fire).1
def fireB (st:Md.St) (m:Sx.Mk) (o:Pn.Op):Bool:=(Md.fire st m.g o m.fire).2.isSome && agr m ((Md.fire st m.g o m.fire).2.getD Md.noRes)
def aloneS (st:Md.St) (m:Sx.Mk) (o:Pn.Op):Md.St:=if m.wi≠-1 then st else if m.res.code=2 then st else fireS st m o
noncomputable def aloneB (st:Md.St) (m:Sx.Mk) (o:Pn.Op):Bool:=if m.wi≠-1 then false else if m.res.code=2 then Md.no st m.g o else fireB st m o
def sent (i:Int):Md.Res:=⟨1,i,0,true,0⟩
def got (i v:Int):Md.Res:=⟨1,i,v,true,0⟩
def meetV (st:Md.St) (s:Sx.Mk) (os:Pn.Op) (r:Sx.Mk) (or:Pn.Op):Md.St × Option Int:=Md.meet st s.g os s.fire r.g or r.fire
def seqS (st:Md.St) (a:Sx.Mk) (oa:Pn.Op) (b:Sx.Mk) (ob:Pn.Op):Md.St:=if fireB st a oa=true then fireS (fireS st a oa) b ob else fireS st a oa
def seqB (st:Md.St) (a:Sx.Mk) (oa:Pn.Op) (b:Sx.Mk) (ob:Pn.Op):Bool:=fireB st a oa && fireB (fireS st a oa) b ob
def coreS (st:Md.St) (c:Md.Ch) (s:Sx.Mk) (os:Pn.Op) (r:Sx.Mk) (or:Pn.Op):Md.St :=
 if c.cap=0 then (meetV st s os r or).1 else if (c.buf.length:Int)=c.cap then seqS st r or s os else seqS st s os r or
def coreB (st:Md.St) (c:Md.Ch) (s:Sx.Mk) (os:Pn.Op) (r:Sx.Mk) (or:Pn.Op):Bool :=
 if c.cap=0 then (meetV st s os r or).2.isSome && agr s (sent s.fire) && agr r (got r.fire ((meetV st s os r or).2.getD 0))
 else if (c.buf.length:Int)=c.cap then seqB st r or s os else seqB st s os r or
def bothG (st:Md.St) (s:Sx.Mk) (os:Pn.Op) (r:Sx.Mk) (or:Pn.Op):Option Md.Ch:=match Md.side os s.fire,Md.side or r.fire with
 | some a,some b=>if a.send=true∧b.send=false∧a.ch=b.ch∧s.wi=r.g∧r.wi=s.g then Md.chan st.chans a.ch else none
 | _,_=>none
def bothS (st:Md.St) (s:Sx.Mk) (os:Pn.Op) (r:Sx.Mk) (or:Pn.Op):Md.St:=match bothG st s os r or with
 | some c=>coreS st c s os r or
 | none=>st
def bothB (st:Md.St) (s:Sx.Mk) (os:Pn.Op) (r:Sx.Mk) (or:Pn.Op):Bool:=match bothG st s os r or with
 | some c=>coreB st c s os r or
 | none=>false
def sends (o:Pn.Op) (i:Int):Bool:=match Md.side o i with
 | some s=>s.send
 | none=>false
def twoS (st:Md.St) (a:Sx.Mk) (oa:Pn.Op) (b:Sx.Mk) (ob:Pn.Op):Md.St:=if sends oa a.fire=true then bothS st a oa b ob else bothS st b ob a oa
def twoB (st:Md.St) (a:Sx.Mk) (oa:Pn.Op) (b:Sx.Mk) (ob:Pn.Op):Bool:=if sends oa a.fire=true then bothB st a oa b ob else bothB st b ob a oa
theorem both_sends {st:Md.St} {s r:Sx.Mk} {os or:Pn.Op} (h:bothB st s os r or=true):sends os s.fire=true∧sends or r.fire=false:=by
 unfold bothB bothG at h;unfold sends
 cases h1:Md.side os s.fire with
 | none=>rw [h1] at h;simp at h
 | some a =>
  cases h2:Md.side or r.fire with
  | none=>rw [h1,h2] at h;simp at h
  | some b =>
   rw [h1,h2] at h;simp only at h ⊢
   split at h
   ·rename_i e
    split at e
    ·rename_i q;exact ⟨q.1,q.2.1⟩
    ·cases e
   ·cases h
theorem two_doc (st:Md.St) (a b:Sx.Mk) (oa ob:Pn.Op):twoB st a oa b ob=(bothB st a oa b ob || bothB st b ob a oa) ∧
  (twoB st a oa b ob=true→twoS st a oa b ob=if bothB st a oa b ob=true then bothS st a oa b ob else bothS st b ob a oa):=by
 unfold twoB twoS
 cases hs:sends oa a.fire with
 | true =>
  have:bothB st b ob a oa=false:=by
   cases h:bothB st b ob a oa with
   | false=>rfl
   | true=>rw [(both_sends h).2] at hs;cases hs
  simp only [if_true,this,Bool.or_false,true_and];intro h;rw [if_pos h]
 | false =>
  have:bothB st a oa b ob=false:=by
   cases h:bothB st a oa b ob with
   | false=>rfl
   | true=>rw [(both_sends h).1] at hs;cases hs
  simp [this]
def mkAt (l:List Sx.Mk) (x:Ta.Pt):Sx.Mk:=l.getD x.at_.toNat mk0
noncomputable def grpB (l:List Sx.Mk) (f:Nat→Pn.Op) (st:Md.St):List Ta.Pt→Bool
 | [x]=>if x.kind=1 then (Md.wait st (mkAt l x).g (f x.at_.toNat)).2 else aloneB st (mkAt l x) (f x.at_.toNat)
 | [x,y]=>(decide (x.kind=2) && decide (y.kind=2)) && twoB st (mkAt l x) (f x.at_.toNat) (mkAt l y) (f y.at_.toNat)
 | _=>false
noncomputable def grpS (l:List Sx.Mk) (f:Nat→Pn.Op) (st:Md.St):List Ta.Pt→Md.St
 | [x]=>if x.kind=1 then (Md.wait st (mkAt l x).g (f x.at_.toNat)).1 else aloneS st (mkAt l x) (f x.at_.toNat)
 | [x,y]=>twoS st (mkAt l x) (f x.at_.toNat) (mkAt l y) (f y.at_.toNat)
 | _=>st
def same (x y:Ta.Pt):Bool:=y.step == x.step
def hd (x:Ta.Pt) (r:List Ta.Pt):List Ta.Pt:=x :: r.takeWhile (same x)
def tl (x:Ta.Pt) (r:List Ta.Pt):List Ta.Pt:=r.dropWhile (same x)
theorem tl_len (x:Ta.Pt) (r:List Ta.Pt):(tl x r).length≤r.length:=(List.dropWhile_suffix _).length_le
theorem hd_tl (x:Ta.Pt) (r:List Ta.Pt):hd x r ++ tl x r=x :: r:=by unfold hd tl;rw [List.cons_append,List.takeWhile_append_dropWhile]
noncomputable def play (l:List Sx.Mk) (f:Nat→Pn.Op):Nat→Md.St→List Ta.Pt→Md.St × Int
 | 0,st,_=>(st,0)
 | n + 1,st,[]=>(st,0)
 | n + 1,st,x :: r=>if grpB l f st (hd x r)=true then play l f n (grpS l f st (hd x r)) (tl x r) else (st,x.step)
theorem play_more (l:List Sx.Mk) (f:Nat→Pn.Op):∀ (n m:Nat) (st:Md.St) (R:List Ta.Pt),R.length≤n→n≤m→play l f m st R=play l f n st R
 | 0,m,st,[],_,_=>by cases m <;> rfl
 | n + 1,m + 1,st,[],_,_=>rfl
 | n + 1,m + 1,st,x :: r,h,k=>by
  have:=tl_len x r;simp only [List.length_cons] at h;unfold play
  split
  ·exact play_more l f n m _ _ (by omega) (by omega)
  ·rfl
 | 0,m,st,x :: r,h,_=>by simp at h
noncomputable def run (l:List Sx.Mk) (f:Nat→Pn.Op) (st:Md.St) (R:List Ta.Pt):Md.St × Int:=play l f R.length st R
theorem run_nil (l:List Sx.Mk) (f:Nat→Pn.Op) (st:Md.St):run l f st []=(st,0):=rfl
theorem run_yes {l:List Sx.Mk} {f:Nat→Pn.Op} {st:Md.St} {x:Ta.Pt} {r:List Ta.Pt} (h:grpB l f st (hd x r)=true):run l f st (x :: r)=run l f (grpS l f st (hd x r)) (tl x r):=by
 unfold run;rw [List.length_cons,play,if_pos h];exact play_more l f _ _ _ _ (Nat.le_refl _) (tl_len x r)
theorem run_no {l:List Sx.Mk} {f:Nat→Pn.Op} {st:Md.St} {x:Ta.Pt} {r:List Ta.Pt} (h:grpB l f st (hd x r)=false):run l f st (x :: r)=(st,x.step):=by
 unfold run;rw [List.length_cons,play,if_neg (by simp [h])]
def look (made:List (Int × Int)) (c:Int):Int:=made.foldl (fun a x=>if x.1 < c then x.2 else a) 0
def opR (p:List (List Pn.Op)) (l:List Sx.Mk) (made:List (Int × Int)) (k:Nat):Pn.Op:=cutD (opAt p (l.getD k mk0)) (look made (l.getD k mk0).call)
def opP (p:List (List Pn.Op)) (l:List Sx.Mk) (k:Nat):Pn.Op:=seen p l (l.getD k mk0)
theorem look_snoc (made:List (Int × Int)) (s n c:Int):look (made ++ [(s,n)]) c=if s < c then n else look made c:=by
 unfold look;rw [List.foldl_append];rfl
noncomputable def playR (p:List (List Pn.Op)) (l:List Sx.Mk):Nat→Md.St→List (Int × Int)→List Ta.Pt→Md.St × List (Int × Int) × Int
 | 0,st,made,_=>(st,made,0)
 | n + 1,st,made,[]=>(st,made,0)
 | n + 1,st,made,x :: r=>if grpB l (opR p l made) st (hd x r)=true then playR p l n (grpS l (opR p l made) st (hd x r)) (made ++ [(x.step,((grpS l (opR p l made) st (hd x r)).chans.length:Int))]) (tl x r) else (st,made,x.step)
theorem putChan_len (l:List Md.Ch) (c:Int) (x:Md.Ch):(Md.putChan l c x).length=l.length:=by unfold Md.putChan;simp
theorem does_len (l:List Md.Ch) (o:Pn.Op) (i:Int):(Md.does l o i).1.length=l.length:=by
 unfold Md.does
 repeat' split
 all_goals first | rfl | exact putChan_len _ _ _
theorem fires_len (l:List Md.Ch) (o:Pn.Op) (i:Int) (h:l.length≤8):(Md.fires l o i).1.length=min (l.length + if o.kind=1 then 1 else 0) 8:=by
 unfold Md.fires
 by_cases h1:o.kind=1
 ·rw [if_pos h1,if_pos h1];unfold Md.makes
  split
  ·simp only;omega
  ·simp;omega
 ·rw [if_neg h1,if_neg h1]
  split
  ·simp only;omega
  ·split
   ·unfold Md.closes
    split
    ·simp only;omega
    ·split
     ·simp only;omega
     ·simp only;rw [putChan_len];omega
   ·rw [does_len];omega
theorem fire_len (st:Md.St) (g:Int) (o:Pn.Op) (i:Int) (h:st.chans.length≤8) (hs:(Md.fire st g o i).2.isSome=true):(Md.fire st g o i).1.chans.length=min (st.chans.length + if o.kind=1 then 1 else 0) 8:=by
 have:=fires_len st.chans o i h;unfold Md.fire at hs ⊢
 split
 ·rename_i l r e;rw [e] at this;exact this
 ·rename_i l e;rw [e] at hs;simp at hs
theorem fire_le (st:Md.St) (g:Int) (o:Pn.Op) (i:Int) (h:st.chans.length≤8):(Md.fire st g o i).1.chans.length≤8:=by
 have:=fires_len st.chans o i h;unfold Md.fire
 split
 ·rename_i l r e;rw [e] at this;simp only at this ⊢;omega
 ·exact h
theorem side_kind {o:Pn.Op} {i:Int} {s:Md.Sd} (h:Md.side o i=some s):o.kind≠1:=by
 unfold Md.side at h;intro e;rw [ngQ,ngQ,ngQ] at h
 cases h
theorem meet_chans (st:Md.St) (g:Int) (a:Pn.Op) (i h:Int) (b:Pn.Op) (k:Int):(Md.meet st g a i h b k).1.chans=st.chans:=by
 unfold Md.meet
 repeat' split
 all_goals rfl
theorem wait_chans (st:Md.St) (g:Int) (o:Pn.Op):(Md.wait st g o).1.chans=st.chans:=by
 unfold Md.wait;split <;> rfl
theorem fireB_some {st:Md.St} {m:Sx.Mk} {o:Pn.Op} (h:fireB st m o=true):(Md.fire st m.g o m.fire).2.isSome=true:=by
 unfold fireB at h;simp only [Bool.and_eq_true] at h;exact h.1
theorem seq_len {st:Md.St} {a b:Sx.Mk} {oa ob:Pn.Op} (h8:st.chans.length≤8) (ha:oa.kind≠1) (hb:ob.kind≠1) (h:seqB st a oa b ob=true):(seqS st a oa b ob).chans.length=st.chans.length:=by
 unfold seqB at h;simp only [Bool.and_eq_true] at h;unfold seqS;rw [if_pos h.1];have h1:=fire_len st a.g oa a.fire h8 (fireB_some h.1);rw [if_neg ha] at h1;have h2:=fire_len (fireS st a oa) b.g ob b.fire (by unfold fireS;omega) (fireB_some h.2);rw [if_neg hb] at h2;unfold fireS at h2 ⊢;omega
theorem both_len {st:Md.St} {s r:Sx.Mk} {os or:Pn.Op} (h8:st.chans.length≤8) (h:bothB st s os r or=true):(bothS st s os r or).chans.length=st.chans.length∧os.kind≠1∧or.kind≠1:=by
 unfold bothB at h;unfold bothS
 cases hg:bothG st s os r or with
 | none=>rw [hg] at h;cases h
 | some c =>
  rw [hg] at h;simp only at h ⊢;unfold bothG at hg
  split at hg
  ·rename_i a b e1 e2;have k1:=side_kind e1;have k2:=side_kind e2;refine ⟨?_,k1,k2⟩;unfold coreB at h;unfold coreS
   split at h
   ·rename_i hc;rw [if_pos hc];unfold meetV;rw [meet_chans]
   ·rename_i hc;rw [if_neg hc]
    split at h
    ·rename_i hq;rw [if_pos hq];exact seq_len h8 k2 k1 h
    ·rename_i hq;rw [if_neg hq];exact seq_len h8 k1 k2 h
  ·cases hg
theorem two_len {st:Md.St} {a b:Sx.Mk} {oa ob:Pn.Op} (h8:st.chans.length≤8) (h:twoB st a oa b ob=true):(twoS st a oa b ob).chans.length=st.chans.length∧oa.kind≠1∧ob.kind≠1:=by
 unfold twoB at h;unfold twoS
 split at h
 ·rename_i hs;rw [if_pos hs];exact both_len h8 h
 ·rename_i hs;rw [if_neg hs];obtain ⟨h1,h2,h3⟩:=both_len h8 h;exact ⟨h1,h3,h2⟩
theorem alone_len {st:Md.St} {m:Sx.Mk} {o:Pn.Op} (h8:st.chans.length≤8) (h:aloneB st m o=true):(aloneS st m o).chans.length=min (st.chans.length + if o.kind=1 then 1 else 0) 8:=by
 unfold aloneB at h;unfold aloneS
 split at h
 ·cases h
 ·rename_i hw;rw [if_neg hw]
  split at h
  ·rename_i hc;rw [if_pos hc];have:o.kind≠1:=by
    unfold Md.no Md.tries at h;simp only [Bool.and_eq_true,decide_eq_true_eq] at h;omega
   rw [if_neg this];omega
  ·rename_i hc;rw [if_neg hc];exact fire_len st m.g o m.fire h8 (fireB_some h)
def mkPt (p:List (List Pn.Op)) (l:List Sx.Mk) (y:Ta.Pt):Bool:=decide (y.kind=2) && isMake p (mkAt l y)
theorem grp_len {p:List (List Pn.Op)} {l:List Sx.Mk} {f:Nat→Pn.Op} {st:Md.St} {G:List Ta.Pt} (h8:st.chans.length≤8) (hf:∀ k,(f k).kind=(opAt p (l.getD k mk0)).kind) (hk:∀ y∈G,y.kind=1∨y.kind=2) (h:grpB l f st G=true) :
  (grpS l f st G).chans.length=min (st.chans.length + G.countP (mkPt p l)) 8:=by
 unfold grpB at h;unfold grpS
 split at h
 ·rename_i x
  split at h
  ·rename_i h1;rw [if_pos h1,wait_chans];simp [mkPt,h1];omega
  ·rename_i h1;rw [if_neg h1,alone_len h8 h,hf];have h2:x.kind=2:=by have:=hk x (by simp);omega
   have:(opAt p (l.getD x.at_.toNat mk0)).kind=(opAt p (mkAt l x)).kind:=rfl;rw [this]
   by_cases e:(opAt p (mkAt l x)).kind=1
   ·simp [mkPt,isMake,h2,e]
   ·simp [mkPt,isMake,h2,e]
 ·rename_i x y;simp only [Bool.and_eq_true,decide_eq_true_eq] at h;obtain ⟨e1,e2,e3⟩:=two_len h8 h.2;rw [e1];rw [hf] at e2 e3;have:[x,y].countP (mkPt p l)=0:=by
   rw [List.countP_eq_zero];intro z hz;simp only [List.mem_cons,List.not_mem_nil,or_false] at hz;unfold mkPt isMake mkAt;rcases hz with rfl | rfl <;> (simp only [Bool.and_eq_true,decide_eq_true_eq,beq_iff_eq,not_and];intro _;assumption)
  rw [this];omega
 ·cases h
end Jg
end Go.Proofs.Ytdibmkjoaghafaa
