/-
  What the laws need, part Q19.
  Conditions: none.
-/
import Derived.Test.YtdibmkjoaghafaaQ18
set_option linter.unusedVariables false
set_option linter.unusedSimpArgs false
set_option linter.unnecessarySimpa false
set_option maxHeartbeats 2000000
namespace Go.Proofs.Ytdibmkjoaghafaa
open Go.RowKit
set_option maxRecDepth 100000 in
set_option maxHeartbeats 6400000 in
theorem ref20_fire_make (w:World) (vc vw va:Value) (st:Md.St) (r:Mr.St) (S:List Nat) (gi:Int) (o:Pn.Op) (UA:List Nat) (i:Int) (h:MR w vc vw r S) (hr:Mr.Rel st r) (ha:GV caseE 3 w va o.cases UA) (hn:r.waits.length≤100000) (hn1:r.chans.length≤100000) (hn2:∀ c∈r.chans,c.buf.length≤100000) (R:Nat→Prop) (hR:∀ x∈S,R x) (hk:o.kind=1) :
  Calls Try.prog 67 #[.agg #[vc,vw],.int .i64 gi,.agg (opV o va),.int .i64 i] w (RFirePost w (Md.fire st gi o i) r.waits.length R):=by
 obtain ⟨D,hD⟩:∃ D,Md.fire st gi o i=D:=⟨_,rfl⟩
 rw [hD];have HD:=Lib.hid hD;have HM:=Lib.hid h;have HR:=Lib.hid hr;have HRR:=Lib.hid hR;have HN:=Lib.hid hn;have HN1:=Lib.hid hn1;have HN2:=Lib.hid hn2;have HA:=Lib.hid ha;have HSL:=Lib.hid h.lt;have hle:=h.1.le;have hal:=ha.le;unfold maxLen at hle hal;obtain ⟨ac,cc,rfl⟩:=h.1.shape;obtain ⟨aw,cw,rfl⟩:=h.2.shape;obtain ⟨aa,ca,rfl⟩:=ha.shape;obtain ⟨w0,hw0⟩:∃ w0,((((w.alloc (.cells #[.slice ac r.chans.length cc,.slice aw r.waits.length cw] 35)).alloc (.cells (opV o (.slice aa o.cases.length ca)) 28)).alloc (.cells #[.slice none 0 0,.slice none 0 0] 35)).alloc (.cells #[.int .i64 0,.int .i64 0,.int .i64 0,.bool false,.int .i64 0] 50)).alloc (.cells #[.int .i64 1,.int .i64 (-1),.int .i64 0,.bool true,.int .i64 0] 50)=w0:=⟨_,rfl⟩
 have HB0:Hid (FiA w (.slice ac r.chans.length cc) (.slice aw r.waits.length cw) (.slice aa o.cases.length ca) o ⟨1,-1,0,true,0⟩ w0):=Lib.hid (by
  subst hw0;exact ⟨(((((Keeps.refl [] w).alloc _).alloc _).alloc _).alloc _).alloc _,((((Blk.fresh w [.slice ac r.chans.length cc,.slice aw r.waits.length cw] _ _ rfl).alloc _).alloc _).alloc _).alloc _,(((Blk.fresh _ (opL o (.slice aa o.cases.length ca)) _ _ (by simp)).alloc _).alloc _).alloc _,((Blk.fresh _ [.slice none 0 0,.slice none 0 0] _ _ (by simp)).alloc _).alloc _,(Blk.fresh _ z5 _ _ (by simp)).alloc _,Blk.fresh _ (resL ⟨1,-1,0,true,0⟩) _ _ (by simp)⟩)
 have t1:(o.kind == 1)=true:=by simp [hk]
 have HK:Hid (o.kind=1):=Lib.hid hk;clear hk;clear h hr ha hn hn1 hn2 hD hR;unfold opV at hw0;have HW0:=Lib.hid hw0;clear hw0;unfold opV
 go_enter Try.func67,Try.ntmps67
 go_upto_region 2 with fail
 rw [HW0.out];clear HW0;have hz:=HB0.out.lt;have HZ:=Lib.hid hz;have hq0:w.heap.size < w0.heap.size:=by omega
 have m0:w0.cell? ⟨w.heap.size,0,none⟩=some (.slice ac r.chans.length cc):=HB0.out.2.1.cell 0;have m1:w0.cell? ⟨w.heap.size,1,none⟩=some (.slice aw r.waits.length cw):=HB0.out.2.1.cell 1;have HWd:Hid (GV wtE 7 w0.drew (.slice aw r.waits.length cw) r.waits S):=Lib.hid ((HM.out.then HB0.out.1).2.then wtE_kept (Keeps.refl [] w0).drew);have HWe:Hid (GV wtE 7 (w0.alloc (.cells #[.slice none 0 0,.slice none 0 0] 35)).drew (.slice aw r.waits.length cw) r.waits S):=Lib.hid ((HM.out.then HB0.out.1).2.then wtE_kept (((Keeps.refl [] w0).alloc _).drew));have HQd:Hid (∀ wA SA vA,Keeps [] w0.drew wA→GV wtE 7 wA vA (keepsG gi r.waits) SA→(∀ x∈SA,x∈S∨w0.drew.heap.size≤x)→FiS w (.slice ac r.chans.length cc) (.slice aw r.waits.length cw) (.slice aa o.cases.length ca) o S (keepsG gi r.waits) (.pointer (some ⟨wA.heap.size,0,none⟩)) (wA.alloc (.cells #[.slice ac r.chans.length cc,vA] 35))):=Lib.hid (by
  intro wA SA vA kA gA sA;have kk:Keeps [] w0 (wA.alloc (.cells #[.slice ac r.chans.length cc,vA] 35)):=(((Keeps.refl [] w0).drew).then kA).alloc _;have hzA:=kA.size;have e:w0.drew.heap.size=w0.heap.size:=rfl;refine ⟨wA.heap.size,vA,SA,rfl,HB0.out.then kk,by have:=HZ.out;omega,Blk.fresh wA [.slice ac r.chans.length cc,vA] _ _ rfl,gA.then wtE_kept ((Keeps.refl [] wA).alloc _),fun x hx=>?_⟩;have hl:=gA.lt x hx;rcases sA x hx with h | h
  ·exact .inl h
  ·exact .inr ⟨by have:=HZ.out;omega,by omega⟩)
 have HQe:Hid (∀ wA SA vA,Keeps [] (w0.alloc (.cells #[.slice none 0 0,.slice none 0 0] 35)).drew wA→GV wtE 7 wA vA (keepsG gi r.waits) SA→(∀ x∈SA,x∈S∨(w0.alloc (.cells #[.slice none 0 0,.slice none 0 0] 35)).drew.heap.size≤x)→FiS w (.slice ac r.chans.length cc) (.slice aw r.waits.length cw) (.slice aa o.cases.length ca) o S (keepsG gi r.waits) (.pointer (some ⟨w0.heap.size,0,none⟩)) ((wA.setCell ⟨w0.heap.size,0,none⟩ (.slice ac r.chans.length cc)).setCell ⟨w0.heap.size,1,none⟩ vA)):=Lib.hid (by
  intro wA SA vA kA gA sA;have hb:Blk wA w0.heap.size [.slice none 0 0,.slice none 0 0] 35:=((Blk.fresh w0 [.slice none 0 0,.slice none 0 0] _ _ rfl).drew).keep kA (by simp);have kf:Keeps [w0.heap.size] wA ((wA.setCell ⟨w0.heap.size,0,none⟩ (.slice ac r.chans.length cc)).setCell ⟨w0.heap.size,1,none⟩ vA):=((Keeps.refl _ wA).setCell (by simp) _).setCell (by simp) _;have kk:Keeps [w0.heap.size] w0 ((wA.setCell ⟨w0.heap.size,0,none⟩ (.slice ac r.chans.length cc)).setCell ⟨w0.heap.size,1,none⟩ vA):=((((Keeps.refl [] w0).alloc _).drew).then kA).trans kf (fun x hx=>.inr (by simp at hx;omega)) |>.mono (by simp);have hS:∀ x∈SA,x∈S∨(w.heap.size + 5≤x∧x≠w0.heap.size):=fun x hx=>by
   rcases sA x hx with h | h
   ·exact .inl h
   ·exact .inr ⟨by have:=HZ.out;simp at h;omega,by simp at h;omega⟩
  refine ⟨w0.heap.size,vA,SA,rfl,HB0.out.keep kk (fun x hx=>by simp at hx;have:=HZ.out;omega),HZ.out,(hb.set 0 (.slice ac r.chans.length cc)).set 1 vA,gA.keep wtE_kept kf (fun x hx hm=>?_),hS⟩;simp only [List.mem_singleton] at hm;subst hm;rcases hS _ hx with h | h
  ·have:=HSL.out _ h;have:=HZ.out;omega
  ·exact h.2 rfl)
 have nb:∀ wA:World,Keeps [] (w0.alloc (.cells #[.slice none 0 0,.slice none 0 0] 35)).drew wA→Blk wA w0.heap.size [.slice none 0 0,.slice none 0 0] 35:=fun wA kA=>((Blk.fresh w0 [.slice none 0 0,.slice none 0 0] _ _ rfl).drew).keep kA (by simp)
 have NB:=Lib.hid nb;have ma:∀ wA:World,Keeps [] w0.drew wA→wA.cell? ⟨w.heap.size,0,none⟩=some (.slice ac r.chans.length cc)∧wA.cell? ⟨w.heap.size,1,none⟩=some (.slice aw r.waits.length cw):=fun wA kA=>⟨(HB0.out.2.1.drew.keep kA (by simp)).cell 0,(HB0.out.2.1.drew.keep kA (by simp)).cell 1⟩
 have MA:=Lib.hid ma;have mb:∀ wA:World,Keeps [] (w0.alloc (.cells #[.slice none 0 0,.slice none 0 0] 35)).drew wA→wA.cell? ⟨w.heap.size,0,none⟩=some (.slice ac r.chans.length cc)∧wA.cell? ⟨w.heap.size,1,none⟩=some (.slice aw r.waits.length cw):=fun wA kA=>⟨(((HB0.out.2.1.alloc _).drew).keep kA (by simp)).cell 0,(((HB0.out.2.1.alloc _).drew).keep kA (by simp)).cell 1⟩
 have MB:=Lib.hid mb;clear hz nb ma mb
 go_cut [12] (FiS w (.slice ac r.chans.length cc) (.slice aw r.waits.length cw) (.slice aa o.cases.length ca) o S (keepsG gi r.waits))
 case first =>
  go_region_held3 (fun w'=>w'.cell? ⟨w.heap.size,0,none⟩=some (.slice ac r.chans.length cc)∧w'.cell? ⟨w.heap.size,1,none⟩=some (.slice aw r.waits.length cw))
   (first | (with_reducible exact ⟨m0,m1⟩) | (with_reducible exact MM.out) | (with_reducible exact HF.out.s2) | go_keep)
   (first
    | (go_at_call 69;(with_reducible refine (ref20_without _ _ r.waits S gi HWd.out HN.out).mono ?_);rintro e wA ⟨vA,SA,rfl,gA,kA,sA⟩;obtain ⟨aA,cA,rfl⟩:=gA.shape;have MM:=Lib.hid (MA.out wA kA);have HF:=Lib.hid (HQd.out wA SA _ kA gA sA);clear gA kA sA)
    | (go_at_call 69;(with_reducible refine (ref20_without _ _ r.waits S gi HWe.out HN.out).mono ?_);rintro e wA ⟨vA,SA,rfl,gA,kA,sA⟩;obtain ⟨aA,cA,rfl⟩:=gA.shape;have MM:=Lib.hid (MB.out wA kA);have HF:=Lib.hid (HQe.out wA SA _ kA gA sA);have n0:=(NB.out wA kA).cell 0;have n1:=(NB.out wA kA).cell 1;have f0:=(NB.out wA kA).free 0;have f1:=(NB.out wA kA).free 1;(simp only [List.getElem?_cons_zero,List.getElem?_cons_succ] at n0 n1);clear gA kA sA)
    | fail)
  all_goals
   go_wp2_with fail
   go_meet
   exact HF.out
 case rest =>
  obtain ⟨b,vs,SW,rfl,hfa,hb5,hbs,hgw,hsw⟩:=hcut;obtain ⟨sv,cv,rfl⟩:=hgw.shape;have HU:Hid (FiU w (.slice ac r.chans.length cc) (.slice aw r.waits.length cw) (.slice aa o.cases.length ca) o ⟨1,-1,0,true,0⟩ b (.slice ac r.chans.length cc) (.slice sv (keepsG gi r.waits).length cv) (keepsG gi r.waits) SW wc):=Lib.hid ⟨hfa,hbs,hgw⟩;have HB5:=Lib.hid hb5;have HSW:=Lib.hid hsw;have e2:¬ b=w.heap.size + 1 + 1:=by omega
  have e3:¬ b=w.heap.size + 1 + 1 + 1:=by omega
  have e4:¬ b=w.heap.size + 1 + 1 + 1 + 1:=by omega
  have e5:¬ w.heap.size + 1 + 1=b:=by omega
  have e6:¬ w.heap.size + 1 + 1 + 1=b:=by omega
  have e7:¬ w.heap.size + 1 + 1 + 1 + 1=b:=by omega
  clear hfa hb5 hbs hgw hsw m0 m1 hq0;have m0:=HU.out.1.2.1.cell 0;have m1:=HU.out.1.2.1.cell 1;obtain ⟨a0,a1,a2,a3,a4,a5⟩:=HU.out.1.2.2.1.op;have n0:=HU.out.1.2.2.2.1.cell 0;have n1:=HU.out.1.2.2.2.1.cell 1;have f0:=HU.out.1.2.2.2.1.free 0;have f1:=HU.out.1.2.2.2.1.free 1;obtain ⟨⟨z0,z1,z2,z3,z4⟩,hzz⟩:=(show Blk _ _ (resL Md.noRes) _ from HU.out.1.2.2.2.2.1).res;obtain ⟨⟨p0,p1,p2,p3,p4⟩,hpp⟩:=HU.out.1.2.2.2.2.2.res;clear hzz hpp;have s0:=HU.out.2.1.cell 0;have s1:=HU.out.2.1.cell 1;have fs:=HU.out.2.1.free 0;have y0:=HU.out.1.2.2.2.2.1.free 0;have y1:=HU.out.1.2.2.2.2.1.free 1;have y2:=HU.out.1.2.2.2.2.1.free 2;have y3:=HU.out.1.2.2.2.2.1.free 3;have y4:=HU.out.1.2.2.2.2.1.free 4;have x1:=HU.out.1.2.2.2.2.2.free 1;have x2:=HU.out.1.2.2.2.2.2.free 2;have x3:=HU.out.1.2.2.2.2.2.free 3;have x4:=HU.out.1.2.2.2.2.2.free 4;simp only [List.getElem?_cons_zero,List.getElem?_cons_succ,Md.noRes] at m0 m1 n0 n1 s0 s1 z0 z1 z2 z3 z4 p0 p1 p2 p3 p4
  go_wp2_with fail
  refine (ref20_made _ _ _ r S o.ch (HM.out.then HU.out.1.1)).mono ?_;obtain ⟨mc,hmc⟩:∃ mc,Md.chan r.chans o.ch=mc:=⟨_,rfl⟩
  rw [hmc];have HMC:=Lib.hid hmc;clear hmc
  rintro e w5 ⟨rfl,k5⟩
  have HV:=Lib.hid (HU.out.then k5);clear k5 m0 m1 a0 a1 a2 a3 a4 a5 n0 n1 f0 f1 z0 z1 z2 z3 z4 p0 p1 p2 p3 p4 s0 s1 fs y0 y1 y2 y3 y4 x1 x2 x3 x4;have m0:=HV.out.1.2.1.cell 0;have m1:=HV.out.1.2.1.cell 1;obtain ⟨a0,a1,a2,a3,a4,a5⟩:=HV.out.1.2.2.1.op;have n0:=HV.out.1.2.2.2.1.cell 0;have n1:=HV.out.1.2.2.2.1.cell 1;have f0:=HV.out.1.2.2.2.1.free 0;have f1:=HV.out.1.2.2.2.1.free 1;obtain ⟨⟨z0,z1,z2,z3,z4⟩,hzz⟩:=(show Blk _ _ (resL Md.noRes) _ from HV.out.1.2.2.2.2.1).res;obtain ⟨⟨p0,p1,p2,p3,p4⟩,hpp⟩:=HV.out.1.2.2.2.2.2.res;clear hzz hpp;have s0:=HV.out.2.1.cell 0;have s1:=HV.out.2.1.cell 1;have fs:=HV.out.2.1.free 0;have y0:=HV.out.1.2.2.2.2.1.free 0;have y1:=HV.out.1.2.2.2.2.1.free 1;have y2:=HV.out.1.2.2.2.2.1.free 2;have y3:=HV.out.1.2.2.2.2.1.free 3;have y4:=HV.out.1.2.2.2.2.1.free 4;have x1:=HV.out.1.2.2.2.2.2.free 1;have x2:=HV.out.1.2.2.2.2.2.free 2;have x3:=HV.out.1.2.2.2.2.2.free 3;have x4:=HV.out.1.2.2.2.2.2.free 4;simp only [List.getElem?_cons_zero,List.getElem?_cons_succ,Md.noRes] at m0 m1 n0 n1 s0 s1 z0 z1 z2 z3 z4 p0 p1 p2 p3 p4
  go_upto_region 5 with fail
  cases t8:decide (8≤(r.chans.length:Int)) with
  | true =>
   have HE:Hid (D=(⟨st.chans,Md.drops st.waits gi⟩,some ⟨7,-1,0,false,0⟩)):=Lib.hid (by have h8:8≤st.chans.length:=(by rw [HR.out.1];have:=of_decide_eq_true t8;omega);rw [← HD.out];unfold Md.fire Md.fires Md.makes;rw [if_pos HK.out,if_pos h8])
   go_wp2_with fail
   refine bodyPost_ret (v:=.tuple #[.agg #[.slice ac r.chans.length cc,.slice sv (keepsG gi r.waits).length cv],.agg #[.int .i64 7,.int .i64 (-1),.int .i64 0,.bool false,.int .i64 0],.bool true]) (by simp [results,Try.results67,go_sem, *]) rfl ?_;exact fire_still (rr:=⟨7,-1,0,false,0⟩) HE.out HM.out HR.out HRR.out HV.out HSW.out (kc7 (by simp) (by simp) (by simp) (by simp) (by simp) (by simp) (by simp))
  | false =>
   have HE:Hid (D=(⟨r.chans ++ [⟨o.n,[],false⟩],Md.drops st.waits gi⟩,some ⟨1,-1,0,true,(r.chans.length:Int) + 1⟩)):=Lib.hid (by have h8:¬ 8≤st.chans.length:=(by rw [HR.out.1];have:=of_decide_eq_false t8;omega);rw [← HD.out];unfold Md.fire Md.fires Md.makes;rw [if_pos HK.out,if_neg h8,HR.out.1]);have LT:=lits w5 45 [.int .i64 o.n,.slice none 0 0,.bool false];have LA:=Lib.hid LT.1;have LB:=Lib.hid LT.2.1;have LC:=Lib.hid LT.2.2;clear LT;have HCH:Hid (GV chE 3 w5 (.slice ac r.chans.length cc) r.chans S):=Lib.hid (HM.out.then HV.out.1.1).1;have HEE:Hid (chE w5 [.int .i64 o.n,.slice none 0 0,.bool false] ⟨o.n,[],false⟩ []):=Lib.hid ⟨_,rfl,GV.nil rawE 1 w5⟩;have HBN:Hid (r.chans.length * 40≤140737488355328):=Lib.hid (by have:=HN1.out;omega);have HBN1:Hid ((r.chans.length + 1) * 40≤140737488355328):=Lib.hid (by have:=HN1.out;omega);have HONE:Hid (∀ y∈([.int .i64 o.n,.slice none 0 0,.bool false]:List Value),y.oneCell'=true):=Lib.hid (by simp [Value.oneCell']);have hqb:b < w5.heap.size:=HV.out.2.1.lt;have hq1:w.heap.size + 1 < w5.heap.size:=HV.out.1.2.2.1.lt;have hq0:w.heap.size < w5.heap.size:=HV.out.1.2.1.lt;have HQB:=Lib.hid hqb;have HFF:Hid (∀ w',Keeps [] w5 w'→w'.cell? ⟨w.heap.size,0,none⟩=some (.slice ac r.chans.length cc)∧w'.cell? ⟨w.heap.size + 1,2,none⟩=some (.int .i64 o.n)):=Lib.hid (fun w' k=>⟨((HV.out.then k).1.2.1).cell 0,((HV.out.then k).1.2.2.1).op.2.2.1⟩);have HFS:Hid (∀ w' v,Keeps [] w5 w'→(w'.setCell ⟨b,0,none⟩ v).cell? ⟨w.heap.size,0,none⟩=some (.slice ac r.chans.length cc)∧(w'.setCell ⟨b,0,none⟩ v).cell? ⟨w.heap.size + 1,2,none⟩=some (.int .i64 o.n)):=Lib.hid (fun w' v k=>by
    have h:=(HV.out.then k).chans v HB5.out HSW.out HSL.out rfl;exact ⟨h.1.2.1.cell 0,h.1.2.2.1.op.2.2.1⟩)
   have HBB:Hid (∀ w',Keeps [] w5 w'→Blk w' b [.slice ac r.chans.length cc,.slice sv (keepsG gi r.waits).length cv] 35):=Lib.hid (fun w' k=>(HV.out.then k).2.1);clear m0 m1 a0 a1 a2 a3 a4 a5 n0 n1 f0 f1 z0 z1 z2 z3 z4 p0 p1 p2 p3 p4 s0 s1 fs y0 y1 y2 y3 y4 x1 x2 x3 x4;have m0:=HV.out.1.2.1.cell 0;obtain ⟨a0,a1,a2,a3,a4,a5⟩:=HV.out.1.2.2.1.op;clear a0 a1 a3 a4 a5;simp only [List.getElem?_cons_zero] at m0
   go_upto_region 8 with fail
   go_cut [] (FiN w (.slice ac r.chans.length cc) (.slice aw r.waits.length cw) (.slice aa o.cases.length ca) o ⟨1,-1,0,true,0⟩ b (.slice sv (keepsG gi r.waits).length cv) (keepsG gi r.waits) SW S (r.chans ++ [⟨o.n,[],false⟩]))
   case first =>
    go_region_held3 (fun w'=>w'.cell? ⟨w.heap.size,0,none⟩=some (.slice ac r.chans.length cc)∧w'.cell? ⟨w.heap.size + 1,2,none⟩=some (.int .i64 o.n))
     (first | (with_reducible exact ⟨m0,a2⟩) | (with_reducible exact F7.out) | (with_reducible exact F9.out) | (with_reducible exact G9.out _) | go_keep)
     (first
     | (refine app_first elemRChan chE_kept LA.out HCH.out HBN.out ?_;intro ao7 cap7 w7 T7 h7;have H7:=Lib.hid h7;have F7:=Lib.hid (HFF.out w7 h7.1);clear h7)
     | (refine app_first2 elemRChan chE_kept LB.out.1 LB.out.2 HCH.out HEE.out rfl HONE.out HBN.out ?_;intro ao7 cap7 w7 T7 h7;have H7:=Lib.hid h7;have F7:=Lib.hid (HFF.out w7 h7.1.1);clear h7)
     | (refine app_first2 elemRChan chE_kept LC.out.1 LC.out.2 HCH.out HEE.out rfl HONE.out HBN.out ?_;intro ao7 cap7 w7 T7 h7;have H7:=Lib.hid h7;have F7:=Lib.hid (HFF.out w7 h7.1.1);clear h7)
     | (refine app_next elemRChan chE_kept H7.out HEE.out rfl HONE.out HBN1.out ?_;intro ao9 cap9 w9 T9 h9;have H9:=Lib.hid h9;have F9:=Lib.hid (HFF.out w9 h9.1);have G9:=Lib.hid (fun v=>HFS.out w9 v h9.1);have s0:=(HBB.out w9 h9.1).cell 0;have fs:=(HBB.out w9 h9.1).free 0;clear h9;simp only [List.getElem?_cons_zero] at s0)
     | (refine app_next2 elemRChan chE_kept H7.out HBN1.out ?_;intro ao9 cap9 w9 T9 h9;have H9:=Lib.hid h9;have F9:=Lib.hid (HFF.out w9 h9.1);have G9:=Lib.hid (fun v=>HFS.out w9 v h9.1);have s0:=(HBB.out w9 h9.1).cell 0;have fs:=(HBB.out w9 h9.1).free 0;clear h9;simp only [List.getElem?_cons_zero] at s0)
     | fail)
    all_goals
     go_wp2_with fail
     go_meet
     exact fin_of HV.out H9.out HB5.out HSW.out HSL.out (fun x hx=>by simp at hx;first | exact .inl hx | (rcases hx with h | h;(exact .inl h);(exact .inr (by omega)))) (HV.out.1.lt) HQB.out
   case rest =>
    obtain ⟨v9,T9,hfu,hg9,ht9⟩:=hcut;obtain ⟨a9,c9,rfl⟩:=hg9.shape;rw [List.length_append,List.length_singleton] at hfu hg9;have HW:=Lib.hid hfu;have HG9:=Lib.hid hg9;have HT9:=Lib.hid ht9;clear hfu hg9 ht9 m0 a2 hq0 hq1 hqb;have m0:=HW.out.1.2.1.cell 0;have m1:=HW.out.1.2.1.cell 1;obtain ⟨a0,a1,a2,a3,a4,a5⟩:=HW.out.1.2.2.1.op;have n0:=HW.out.1.2.2.2.1.cell 0;have n1:=HW.out.1.2.2.2.1.cell 1;have f0:=HW.out.1.2.2.2.1.free 0;have f1:=HW.out.1.2.2.2.1.free 1;obtain ⟨⟨z0,z1,z2,z3,z4⟩,hzz⟩:=(show Blk _ _ (resL Md.noRes) _ from HW.out.1.2.2.2.2.1).res;obtain ⟨⟨p0,p1,p2,p3,p4⟩,hpp⟩:=HW.out.1.2.2.2.2.2.res;clear hzz hpp;have s0:=HW.out.2.1.cell 0;have s1:=HW.out.2.1.cell 1;have fs:=HW.out.2.1.free 0;have y0:=HW.out.1.2.2.2.2.1.free 0;have y1:=HW.out.1.2.2.2.2.1.free 1;have y2:=HW.out.1.2.2.2.2.1.free 2;have y3:=HW.out.1.2.2.2.2.1.free 3;have y4:=HW.out.1.2.2.2.2.1.free 4;have x1:=HW.out.1.2.2.2.2.2.free 1;have x2:=HW.out.1.2.2.2.2.2.free 2;have x3:=HW.out.1.2.2.2.2.2.free 3;have x4:=HW.out.1.2.2.2.2.2.free 4;simp only [List.getElem?_cons_zero,List.getElem?_cons_succ,Md.noRes] at m0 m1 n0 n1 s0 s1 z0 z1 z2 z3 z4 p0 p1 p2 p3 p4;have hn1:=HN1.out
    go_upto_region 10 with fail
    clear hn1;obtain ⟨w10,hw10⟩:∃ w10,wc.setCell ⟨w.heap.size + 1 + 1 + 1 + 1,4,none⟩ (.int .i64 (↑r.chans.length + 1))=w10:=⟨_,rfl⟩
    rw [hw10];have hg10:=HG9.out.keep chE_kept (show Keeps [w.heap.size + 1 + 1 + 1 + 1] wc w10 from hw10 ▸ (Keeps.refl _ wc).setCell (by simp) _) (fun x hx hm=>by
     simp only [List.mem_append,List.mem_singleton] at hx hm;subst hm;rcases hx with h | h
     ·have:=HT9.out _ h;omega
     ·have:=HSL.out _ h;omega)
    have HG10:=Lib.hid hg10;have HG11:Hid (∀ x∈(T9 ++ S) ++ SW,(x < w.heap.size∧R x)∨w.heap.size + 5≤x):=Lib.hid (fun x hx=>by
     rcases List.mem_append.1 hx with h | h
     ·rcases List.mem_append.1 h with h | h
      ·exact .inr (HT9.out x h).1
      ·exact .inl ⟨HSL.out x h,HRR.out x h⟩
     ·rcases HSW.out x h with h | h
      ·exact .inl ⟨HSL.out x h,HRR.out x h⟩
      ·exact .inr h.1)
    clear hg10;have Hw10:=Lib.hid (HW.out.put ⟨1,-1,0,true,(r.chans.length:Int) + 1⟩ 4 _ HB5.out HSW.out HSL.out rfl hw10);clear hw10 m0 m1 a0 a1 a2 a3 a4 a5 n0 n1 f0 f1 z0 z1 z2 z3 z4 p0 p1 p2 p3 p4 s0 s1 fs y0 y1 y2 y3 y4 x1 x2 x3 x4;have m0:=Hw10.out.1.2.1.cell 0;have m1:=Hw10.out.1.2.1.cell 1;obtain ⟨a0,a1,a2,a3,a4,a5⟩:=Hw10.out.1.2.2.1.op;have n0:=Hw10.out.1.2.2.2.1.cell 0;have n1:=Hw10.out.1.2.2.2.1.cell 1;have f0:=Hw10.out.1.2.2.2.1.free 0;have f1:=Hw10.out.1.2.2.2.1.free 1;obtain ⟨⟨z0,z1,z2,z3,z4⟩,hzz⟩:=(show Blk _ _ (resL Md.noRes) _ from Hw10.out.1.2.2.2.2.1).res;obtain ⟨⟨p0,p1,p2,p3,p4⟩,hpp⟩:=Hw10.out.1.2.2.2.2.2.res;clear hzz hpp;have s0:=Hw10.out.2.1.cell 0;have s1:=Hw10.out.2.1.cell 1;have fs:=Hw10.out.2.1.free 0;have y0:=Hw10.out.1.2.2.2.2.1.free 0;have y1:=Hw10.out.1.2.2.2.2.1.free 1;have y2:=Hw10.out.1.2.2.2.2.1.free 2;have y3:=Hw10.out.1.2.2.2.2.1.free 3;have y4:=Hw10.out.1.2.2.2.2.1.free 4;have x1:=Hw10.out.1.2.2.2.2.2.free 1;have x2:=Hw10.out.1.2.2.2.2.2.free 2;have x3:=Hw10.out.1.2.2.2.2.2.free 3;have x4:=Hw10.out.1.2.2.2.2.2.free 4;simp only [List.getElem?_cons_zero,List.getElem?_cons_succ,Md.noRes] at m0 m1 n0 n1 s0 s1 z0 z1 z2 z3 z4 p0 p1 p2 p3 p4
    go_region_held3 (fun w'=>w'.cell? ⟨b,0,none⟩=some (.slice a9 (r.chans.length + 1) c9)∧w'.cell? ⟨b,1,none⟩=some (.slice sv (keepsG gi r.waits).length cv)∧w'.cell? ⟨w.heap.size + 1 + 1 + 1 + 1,0,none⟩=some (.int .i64 1)∧w'.cell? ⟨w.heap.size + 1 + 1 + 1 + 1,1,none⟩=some (.int .i64 (-1))∧w'.cell? ⟨w.heap.size + 1 + 1 + 1 + 1,2,none⟩=some (.int .i64 0)∧w'.cell? ⟨w.heap.size + 1 + 1 + 1 + 1,3,none⟩=some (.bool true)∧w'.cell? ⟨w.heap.size + 1 + 1 + 1 + 1,4,none⟩=some (.int .i64 (↑r.chans.length + 1)))
     (first | (with_reducible exact ⟨s0,s1,p0,p1,p2,p3,p4⟩) | go_keep)
     (first | fail)
    all_goals
     go_wp2_with fail
     refine bodyPost_ret (v:=.tuple #[.agg #[.slice a9 (r.chans.length + 1) c9,.slice sv (keepsG gi r.waits).length cv],.agg #[.int .i64 1,.int .i64 (-1),.int .i64 0,.bool true,.int .i64 (↑r.chans.length + 1)],.bool true]) (by simp [results,Try.results67,go_sem, *]) rfl ?_;exact fire_new (SX:=T9 ++ S) (rr:=⟨1,-1,0,true,(r.chans.length:Int) + 1⟩) HE.out HR.out Hw10.out HG10.out HG11.out ((kc7 (by simp) (by simp) (by simp) (by simp) (by simp) (by simp) (by simp)).drew)
open Go.RowKit
set_option maxRecDepth 100000 in
set_option maxHeartbeats 6400000 in
theorem ref20_fire_len (w:World) (vc vw va:Value) (st:Md.St) (r:Mr.St) (S:List Nat) (gi:Int) (o:Pn.Op) (UA:List Nat) (i:Int) (h:MR w vc vw r S) (hr:Mr.Rel st r) (ha:GV caseE 3 w va o.cases UA) (hn:r.waits.length≤100000) (hn1:r.chans.length≤100000) (hn2:∀ c∈r.chans,c.buf.length≤100000) (R:Nat→Prop) (hR:∀ x∈S,R x) (hk:o.kind=7) :
  Calls Try.prog 67 #[.agg #[vc,vw],.int .i64 gi,.agg (opV o va),.int .i64 i] w (RFirePost w (Md.fire st gi o i) r.waits.length R):=by
 obtain ⟨D,hD⟩:∃ D,Md.fire st gi o i=D:=⟨_,rfl⟩
 rw [hD];have HD:=Lib.hid hD;have HM:=Lib.hid h;have HR:=Lib.hid hr;have HRR:=Lib.hid hR;have HN:=Lib.hid hn;have HN1:=Lib.hid hn1;have HN2:=Lib.hid hn2;have HA:=Lib.hid ha;have HSL:=Lib.hid h.lt;have hle:=h.1.le;have hal:=ha.le;unfold maxLen at hle hal;obtain ⟨ac,cc,rfl⟩:=h.1.shape;obtain ⟨aw,cw,rfl⟩:=h.2.shape;obtain ⟨aa,ca,rfl⟩:=ha.shape;obtain ⟨w0,hw0⟩:∃ w0,((((w.alloc (.cells #[.slice ac r.chans.length cc,.slice aw r.waits.length cw] 35)).alloc (.cells (opV o (.slice aa o.cases.length ca)) 28)).alloc (.cells #[.slice none 0 0,.slice none 0 0] 35)).alloc (.cells #[.int .i64 0,.int .i64 0,.int .i64 0,.bool false,.int .i64 0] 50)).alloc (.cells #[.int .i64 1,.int .i64 (-1),.int .i64 0,.bool true,.int .i64 0] 50)=w0:=⟨_,rfl⟩
 have HB0:Hid (FiA w (.slice ac r.chans.length cc) (.slice aw r.waits.length cw) (.slice aa o.cases.length ca) o ⟨1,-1,0,true,0⟩ w0):=Lib.hid (by
  subst hw0;exact ⟨(((((Keeps.refl [] w).alloc _).alloc _).alloc _).alloc _).alloc _,((((Blk.fresh w [.slice ac r.chans.length cc,.slice aw r.waits.length cw] _ _ rfl).alloc _).alloc _).alloc _).alloc _,(((Blk.fresh _ (opL o (.slice aa o.cases.length ca)) _ _ (by simp)).alloc _).alloc _).alloc _,((Blk.fresh _ [.slice none 0 0,.slice none 0 0] _ _ (by simp)).alloc _).alloc _,(Blk.fresh _ z5 _ _ (by simp)).alloc _,Blk.fresh _ (resL ⟨1,-1,0,true,0⟩) _ _ (by simp)⟩)
 have t1:(o.kind == 1)=false:=by simp [hk]
 have t7:(o.kind == 7)=true:=by simp [hk]
 have HK:Hid (o.kind=7):=Lib.hid hk;clear hk;clear h hr ha hn hn1 hn2 hD hR;unfold opV at hw0;have HW0:=Lib.hid hw0;clear hw0;unfold opV
 go_enter Try.func67,Try.ntmps67
 go_upto_region 2 with fail
 rw [HW0.out];clear HW0;have hz:=HB0.out.lt;have HZ:=Lib.hid hz;have hq0:w.heap.size < w0.heap.size:=by omega
 have m0:w0.cell? ⟨w.heap.size,0,none⟩=some (.slice ac r.chans.length cc):=HB0.out.2.1.cell 0;have m1:w0.cell? ⟨w.heap.size,1,none⟩=some (.slice aw r.waits.length cw):=HB0.out.2.1.cell 1;have HWd:Hid (GV wtE 7 w0.drew (.slice aw r.waits.length cw) r.waits S):=Lib.hid ((HM.out.then HB0.out.1).2.then wtE_kept (Keeps.refl [] w0).drew);have HWe:Hid (GV wtE 7 (w0.alloc (.cells #[.slice none 0 0,.slice none 0 0] 35)).drew (.slice aw r.waits.length cw) r.waits S):=Lib.hid ((HM.out.then HB0.out.1).2.then wtE_kept (((Keeps.refl [] w0).alloc _).drew));have HQd:Hid (∀ wA SA vA,Keeps [] w0.drew wA→GV wtE 7 wA vA (keepsG gi r.waits) SA→(∀ x∈SA,x∈S∨w0.drew.heap.size≤x)→FiS w (.slice ac r.chans.length cc) (.slice aw r.waits.length cw) (.slice aa o.cases.length ca) o S (keepsG gi r.waits) (.pointer (some ⟨wA.heap.size,0,none⟩)) (wA.alloc (.cells #[.slice ac r.chans.length cc,vA] 35))):=Lib.hid (by
  intro wA SA vA kA gA sA;have kk:Keeps [] w0 (wA.alloc (.cells #[.slice ac r.chans.length cc,vA] 35)):=(((Keeps.refl [] w0).drew).then kA).alloc _;have hzA:=kA.size;have e:w0.drew.heap.size=w0.heap.size:=rfl;refine ⟨wA.heap.size,vA,SA,rfl,HB0.out.then kk,by have:=HZ.out;omega,Blk.fresh wA [.slice ac r.chans.length cc,vA] _ _ rfl,gA.then wtE_kept ((Keeps.refl [] wA).alloc _),fun x hx=>?_⟩;have hl:=gA.lt x hx;rcases sA x hx with h | h
  ·exact .inl h
  ·exact .inr ⟨by have:=HZ.out;omega,by omega⟩)
 have HQe:Hid (∀ wA SA vA,Keeps [] (w0.alloc (.cells #[.slice none 0 0,.slice none 0 0] 35)).drew wA→GV wtE 7 wA vA (keepsG gi r.waits) SA→(∀ x∈SA,x∈S∨(w0.alloc (.cells #[.slice none 0 0,.slice none 0 0] 35)).drew.heap.size≤x)→FiS w (.slice ac r.chans.length cc) (.slice aw r.waits.length cw) (.slice aa o.cases.length ca) o S (keepsG gi r.waits) (.pointer (some ⟨w0.heap.size,0,none⟩)) ((wA.setCell ⟨w0.heap.size,0,none⟩ (.slice ac r.chans.length cc)).setCell ⟨w0.heap.size,1,none⟩ vA)):=Lib.hid (by
  intro wA SA vA kA gA sA;have hb:Blk wA w0.heap.size [.slice none 0 0,.slice none 0 0] 35:=((Blk.fresh w0 [.slice none 0 0,.slice none 0 0] _ _ rfl).drew).keep kA (by simp);have kf:Keeps [w0.heap.size] wA ((wA.setCell ⟨w0.heap.size,0,none⟩ (.slice ac r.chans.length cc)).setCell ⟨w0.heap.size,1,none⟩ vA):=((Keeps.refl _ wA).setCell (by simp) _).setCell (by simp) _;have kk:Keeps [w0.heap.size] w0 ((wA.setCell ⟨w0.heap.size,0,none⟩ (.slice ac r.chans.length cc)).setCell ⟨w0.heap.size,1,none⟩ vA):=((((Keeps.refl [] w0).alloc _).drew).then kA).trans kf (fun x hx=>.inr (by simp at hx;omega)) |>.mono (by simp);have hS:∀ x∈SA,x∈S∨(w.heap.size + 5≤x∧x≠w0.heap.size):=fun x hx=>by
   rcases sA x hx with h | h
   ·exact .inl h
   ·exact .inr ⟨by have:=HZ.out;simp at h;omega,by simp at h;omega⟩
  refine ⟨w0.heap.size,vA,SA,rfl,HB0.out.keep kk (fun x hx=>by simp at hx;have:=HZ.out;omega),HZ.out,(hb.set 0 (.slice ac r.chans.length cc)).set 1 vA,gA.keep wtE_kept kf (fun x hx hm=>?_),hS⟩;simp only [List.mem_singleton] at hm;subst hm;rcases hS _ hx with h | h
  ·have:=HSL.out _ h;have:=HZ.out;omega
  ·exact h.2 rfl)
 have nb:∀ wA:World,Keeps [] (w0.alloc (.cells #[.slice none 0 0,.slice none 0 0] 35)).drew wA→Blk wA w0.heap.size [.slice none 0 0,.slice none 0 0] 35:=fun wA kA=>((Blk.fresh w0 [.slice none 0 0,.slice none 0 0] _ _ rfl).drew).keep kA (by simp)
 have NB:=Lib.hid nb;have ma:∀ wA:World,Keeps [] w0.drew wA→wA.cell? ⟨w.heap.size,0,none⟩=some (.slice ac r.chans.length cc)∧wA.cell? ⟨w.heap.size,1,none⟩=some (.slice aw r.waits.length cw):=fun wA kA=>⟨(HB0.out.2.1.drew.keep kA (by simp)).cell 0,(HB0.out.2.1.drew.keep kA (by simp)).cell 1⟩
 have MA:=Lib.hid ma;have mb:∀ wA:World,Keeps [] (w0.alloc (.cells #[.slice none 0 0,.slice none 0 0] 35)).drew wA→wA.cell? ⟨w.heap.size,0,none⟩=some (.slice ac r.chans.length cc)∧wA.cell? ⟨w.heap.size,1,none⟩=some (.slice aw r.waits.length cw):=fun wA kA=>⟨(((HB0.out.2.1.alloc _).drew).keep kA (by simp)).cell 0,(((HB0.out.2.1.alloc _).drew).keep kA (by simp)).cell 1⟩
 have MB:=Lib.hid mb;clear hz nb ma mb
 go_cut [12] (FiS w (.slice ac r.chans.length cc) (.slice aw r.waits.length cw) (.slice aa o.cases.length ca) o S (keepsG gi r.waits))
 case first =>
  go_region_held3 (fun w'=>w'.cell? ⟨w.heap.size,0,none⟩=some (.slice ac r.chans.length cc)∧w'.cell? ⟨w.heap.size,1,none⟩=some (.slice aw r.waits.length cw))
   (first | (with_reducible exact ⟨m0,m1⟩) | (with_reducible exact MM.out) | (with_reducible exact HF.out.s2) | go_keep)
   (first
    | (go_at_call 69;(with_reducible refine (ref20_without _ _ r.waits S gi HWd.out HN.out).mono ?_);rintro e wA ⟨vA,SA,rfl,gA,kA,sA⟩;obtain ⟨aA,cA,rfl⟩:=gA.shape;have MM:=Lib.hid (MA.out wA kA);have HF:=Lib.hid (HQd.out wA SA _ kA gA sA);clear gA kA sA)
    | (go_at_call 69;(with_reducible refine (ref20_without _ _ r.waits S gi HWe.out HN.out).mono ?_);rintro e wA ⟨vA,SA,rfl,gA,kA,sA⟩;obtain ⟨aA,cA,rfl⟩:=gA.shape;have MM:=Lib.hid (MB.out wA kA);have HF:=Lib.hid (HQe.out wA SA _ kA gA sA);have n0:=(NB.out wA kA).cell 0;have n1:=(NB.out wA kA).cell 1;have f0:=(NB.out wA kA).free 0;have f1:=(NB.out wA kA).free 1;(simp only [List.getElem?_cons_zero,List.getElem?_cons_succ] at n0 n1);clear gA kA sA)
    | fail)
  all_goals
   go_wp2_with fail
   go_meet
   exact HF.out
 case rest =>
  obtain ⟨b,vs,SW,rfl,hfa,hb5,hbs,hgw,hsw⟩:=hcut;obtain ⟨sv,cv,rfl⟩:=hgw.shape;have HU:Hid (FiU w (.slice ac r.chans.length cc) (.slice aw r.waits.length cw) (.slice aa o.cases.length ca) o ⟨1,-1,0,true,0⟩ b (.slice ac r.chans.length cc) (.slice sv (keepsG gi r.waits).length cv) (keepsG gi r.waits) SW wc):=Lib.hid ⟨hfa,hbs,hgw⟩;have HB5:=Lib.hid hb5;have HSW:=Lib.hid hsw;have e2:¬ b=w.heap.size + 1 + 1:=by omega
  have e3:¬ b=w.heap.size + 1 + 1 + 1:=by omega
  have e4:¬ b=w.heap.size + 1 + 1 + 1 + 1:=by omega
  have e5:¬ w.heap.size + 1 + 1=b:=by omega
  have e6:¬ w.heap.size + 1 + 1 + 1=b:=by omega
  have e7:¬ w.heap.size + 1 + 1 + 1 + 1=b:=by omega
  clear hfa hb5 hbs hgw hsw m0 m1 hq0;have m0:=HU.out.1.2.1.cell 0;have m1:=HU.out.1.2.1.cell 1;obtain ⟨a0,a1,a2,a3,a4,a5⟩:=HU.out.1.2.2.1.op;have n0:=HU.out.1.2.2.2.1.cell 0;have n1:=HU.out.1.2.2.2.1.cell 1;have f0:=HU.out.1.2.2.2.1.free 0;have f1:=HU.out.1.2.2.2.1.free 1;obtain ⟨⟨z0,z1,z2,z3,z4⟩,hzz⟩:=(show Blk _ _ (resL Md.noRes) _ from HU.out.1.2.2.2.2.1).res;obtain ⟨⟨p0,p1,p2,p3,p4⟩,hpp⟩:=HU.out.1.2.2.2.2.2.res;clear hzz hpp;have s0:=HU.out.2.1.cell 0;have s1:=HU.out.2.1.cell 1;have fs:=HU.out.2.1.free 0;have y0:=HU.out.1.2.2.2.2.1.free 0;have y1:=HU.out.1.2.2.2.2.1.free 1;have y2:=HU.out.1.2.2.2.2.1.free 2;have y3:=HU.out.1.2.2.2.2.1.free 3;have y4:=HU.out.1.2.2.2.2.1.free 4;have x1:=HU.out.1.2.2.2.2.2.free 1;have x2:=HU.out.1.2.2.2.2.2.free 2;have x3:=HU.out.1.2.2.2.2.2.free 3;have x4:=HU.out.1.2.2.2.2.2.free 4;simp only [List.getElem?_cons_zero,List.getElem?_cons_succ,Md.noRes] at m0 m1 n0 n1 s0 s1 z0 z1 z2 z3 z4 p0 p1 p2 p3 p4
  go_wp2_with fail
  refine (ref20_made _ _ _ r S o.ch (HM.out.then HU.out.1.1)).mono ?_;obtain ⟨mc,hmc⟩:∃ mc,Md.chan r.chans o.ch=mc:=⟨_,rfl⟩
  rw [hmc];have HMC:=Lib.hid hmc;clear hmc
  rintro e w5 ⟨rfl,k5⟩
  have HV:=Lib.hid (HU.out.then k5);clear k5 m0 m1 a0 a1 a2 a3 a4 a5 n0 n1 f0 f1 z0 z1 z2 z3 z4 p0 p1 p2 p3 p4 s0 s1 fs y0 y1 y2 y3 y4 x1 x2 x3 x4;have m0:=HV.out.1.2.1.cell 0;have m1:=HV.out.1.2.1.cell 1;obtain ⟨a0,a1,a2,a3,a4,a5⟩:=HV.out.1.2.2.1.op;have n0:=HV.out.1.2.2.2.1.cell 0;have n1:=HV.out.1.2.2.2.1.cell 1;have f0:=HV.out.1.2.2.2.1.free 0;have f1:=HV.out.1.2.2.2.1.free 1;obtain ⟨⟨z0,z1,z2,z3,z4⟩,hzz⟩:=(show Blk _ _ (resL Md.noRes) _ from HV.out.1.2.2.2.2.1).res;obtain ⟨⟨p0,p1,p2,p3,p4⟩,hpp⟩:=HV.out.1.2.2.2.2.2.res;clear hzz hpp;have s0:=HV.out.2.1.cell 0;have s1:=HV.out.2.1.cell 1;have fs:=HV.out.2.1.free 0;have y0:=HV.out.1.2.2.2.2.1.free 0;have y1:=HV.out.1.2.2.2.2.1.free 1;have y2:=HV.out.1.2.2.2.2.1.free 2;have y3:=HV.out.1.2.2.2.2.1.free 3;have y4:=HV.out.1.2.2.2.2.1.free 4;have x1:=HV.out.1.2.2.2.2.2.free 1;have x2:=HV.out.1.2.2.2.2.2.free 2;have x3:=HV.out.1.2.2.2.2.2.free 3;have x4:=HV.out.1.2.2.2.2.2.free 4;simp only [List.getElem?_cons_zero,List.getElem?_cons_succ,Md.noRes] at m0 m1 n0 n1 s0 s1 z0 z1 z2 z3 z4 p0 p1 p2 p3 p4
  go_upto_region 5 with fail
  cases mc with
  | none =>
   have HE:Hid (D=(⟨st.chans,Md.drops st.waits gi⟩,some ⟨1,-1,0,true,0⟩)):=Lib.hid (by have h8:Md.chan st.chans o.ch=none:=(by rw [HR.out.1];exact HMC.out);rw [← HD.out];unfold Md.fire Md.fires Md.looks;rw [if_neg (by rw [HK.out];decide),if_pos (.inl HK.out),h8]);simp only [Option.isSome_none]
   go_upto_region 14 with fail
   go_region_held3 (fun w'=>w'.cell? ⟨b,0,none⟩=some (.slice ac r.chans.length cc)∧w'.cell? ⟨b,1,none⟩=some (.slice sv (keepsG gi r.waits).length cv)∧w'.cell? ⟨w.heap.size + 1 + 1 + 1 + 1,0,none⟩=some (.int .i64 1)∧w'.cell? ⟨w.heap.size + 1 + 1 + 1 + 1,1,none⟩=some (.int .i64 (-1))∧w'.cell? ⟨w.heap.size + 1 + 1 + 1 + 1,2,none⟩=some (.int .i64 0)∧w'.cell? ⟨w.heap.size + 1 + 1 + 1 + 1,3,none⟩=some (.bool true)∧w'.cell? ⟨w.heap.size + 1 + 1 + 1 + 1,4,none⟩=some (.int .i64 0))
    (first | (with_reducible exact ⟨s0,s1,p0,p1,p2,p3,p4⟩) | go_keep)
    (first | fail)
   all_goals
    go_wp2_with fail
    refine bodyPost_ret (v:=.tuple #[.agg #[.slice ac r.chans.length cc,.slice sv (keepsG gi r.waits).length cv],.agg #[.int .i64 1,.int .i64 (-1),.int .i64 0,.bool true,.int .i64 0],.bool true]) (by simp [results,Try.results67,go_sem, *]) rfl ?_;exact fire_still (rr:=⟨1,-1,0,true,0⟩) HE.out HM.out HR.out HRR.out HV.out HSW.out ((kc7 (by simp) (by simp) (by simp) (by simp) (by simp) (by simp) (by simp)).drew)
  | some c =>
   obtain ⟨k,hck,hkl,hx⟩:=Md.chan_at HMC.out;obtain ⟨g,off,ab,cb,U2,hac,hg,⟨c0,c1,c2⟩,hgv,hU2⟩:=GV.ch (HM.out.then HV.out.1.1).1 hx;have hbl:=hgv.le;unfold maxLen at hbl;have i0:(0:Int)≤o.ch - 1:=by omega
   have i1:o.ch - 1 < (r.chans.length:Int):=by omega
   have i2:(o.ch - 1).toNat=k:=by omega
   have mr:=m0;rw [hac] at mr;have HCK:=Lib.hid hck;have HKL:=Lib.hid hkl;have HX:=Lib.hid hx;have HGV:=Lib.hid hgv;have HU2:=Lib.hid hU2;clear hck hkl hx hgv hU2 hac m0;simp only [Option.isSome_some];have HE:Hid (D=(⟨st.chans,Md.drops st.waits gi⟩,some ⟨1,-1,0,true,(c.buf.length:Int)⟩)):=Lib.hid (by have h8:Md.chan st.chans o.ch=some c:=(by rw [HR.out.1];exact HMC.out);rw [← HD.out];unfold Md.fire Md.fires Md.looks;rw [if_neg (by rw [HK.out];decide),if_pos (.inl HK.out),h8];simp only [HK.out,if_true])
   go_upto_region 14 with fail
   clear mr c0 c1 c2;obtain ⟨w10,hw10⟩:∃ w10,w5.setCell ⟨w.heap.size + 1 + 1 + 1 + 1,4,none⟩ (.int .i64 ↑c.buf.length)=w10:=⟨_,rfl⟩
   rw [hw10];have Hw10:=Lib.hid (HV.out.put ⟨1,-1,0,true,(c.buf.length:Int)⟩ 4 _ HB5.out HSW.out HSL.out rfl hw10);clear hw10 m1 a0 a1 a2 a3 a4 a5 n0 n1 f0 f1 z0 z1 z2 z3 z4 p0 p1 p2 p3 p4 s0 s1 fs y0 y1 y2 y3 y4 x1 x2 x3 x4;have m0:=Hw10.out.1.2.1.cell 0;have m1:=Hw10.out.1.2.1.cell 1;obtain ⟨a0,a1,a2,a3,a4,a5⟩:=Hw10.out.1.2.2.1.op;have n0:=Hw10.out.1.2.2.2.1.cell 0;have n1:=Hw10.out.1.2.2.2.1.cell 1;have f0:=Hw10.out.1.2.2.2.1.free 0;have f1:=Hw10.out.1.2.2.2.1.free 1;obtain ⟨⟨z0,z1,z2,z3,z4⟩,hzz⟩:=(show Blk _ _ (resL Md.noRes) _ from Hw10.out.1.2.2.2.2.1).res;obtain ⟨⟨p0,p1,p2,p3,p4⟩,hpp⟩:=Hw10.out.1.2.2.2.2.2.res;clear hzz hpp;have s0:=Hw10.out.2.1.cell 0;have s1:=Hw10.out.2.1.cell 1;have fs:=Hw10.out.2.1.free 0;have y0:=Hw10.out.1.2.2.2.2.1.free 0;have y1:=Hw10.out.1.2.2.2.2.1.free 1;have y2:=Hw10.out.1.2.2.2.2.1.free 2;have y3:=Hw10.out.1.2.2.2.2.1.free 3;have y4:=Hw10.out.1.2.2.2.2.1.free 4;have x1:=Hw10.out.1.2.2.2.2.2.free 1;have x2:=Hw10.out.1.2.2.2.2.2.free 2;have x3:=Hw10.out.1.2.2.2.2.2.free 3;have x4:=Hw10.out.1.2.2.2.2.2.free 4;simp only [List.getElem?_cons_zero,List.getElem?_cons_succ,Md.noRes] at m0 m1 n0 n1 s0 s1 z0 z1 z2 z3 z4 p0 p1 p2 p3 p4
   go_region_held3 (fun w'=>w'.cell? ⟨b,0,none⟩=some (.slice ac r.chans.length cc)∧w'.cell? ⟨b,1,none⟩=some (.slice sv (keepsG gi r.waits).length cv)∧w'.cell? ⟨w.heap.size + 1 + 1 + 1 + 1,0,none⟩=some (.int .i64 1)∧w'.cell? ⟨w.heap.size + 1 + 1 + 1 + 1,1,none⟩=some (.int .i64 (-1))∧w'.cell? ⟨w.heap.size + 1 + 1 + 1 + 1,2,none⟩=some (.int .i64 0)∧w'.cell? ⟨w.heap.size + 1 + 1 + 1 + 1,3,none⟩=some (.bool true)∧w'.cell? ⟨w.heap.size + 1 + 1 + 1 + 1,4,none⟩=some (.int .i64 ↑c.buf.length))
    (first | (with_reducible exact ⟨s0,s1,p0,p1,p2,p3,p4⟩) | go_keep)
    (first | fail)
   all_goals
    go_wp2_with fail
    refine bodyPost_ret (v:=.tuple #[.agg #[.slice ac r.chans.length cc,.slice sv (keepsG gi r.waits).length cv],.agg #[.int .i64 1,.int .i64 (-1),.int .i64 0,.bool true,.int .i64 ↑c.buf.length],.bool true]) (by simp [results,Try.results67,go_sem, *]) rfl ?_;exact fire_still (rr:=⟨1,-1,0,true,(c.buf.length:Int)⟩) HE.out HM.out HR.out HRR.out Hw10.out HSW.out ((kc7 (by simp) (by simp) (by simp) (by simp) (by simp) (by simp) (by simp)).drew)
open Go.RowKit
set_option maxRecDepth 100000 in
set_option maxHeartbeats 6400000 in
theorem ref20_fire_cap (w:World) (vc vw va:Value) (st:Md.St) (r:Mr.St) (S:List Nat) (gi:Int) (o:Pn.Op) (UA:List Nat) (i:Int) (h:MR w vc vw r S) (hr:Mr.Rel st r) (ha:GV caseE 3 w va o.cases UA) (hn:r.waits.length≤100000) (hn1:r.chans.length≤100000) (hn2:∀ c∈r.chans,c.buf.length≤100000) (R:Nat→Prop) (hR:∀ x∈S,R x) (hk:o.kind=8) :
  Calls Try.prog 67 #[.agg #[vc,vw],.int .i64 gi,.agg (opV o va),.int .i64 i] w (RFirePost w (Md.fire st gi o i) r.waits.length R):=by
 obtain ⟨D,hD⟩:∃ D,Md.fire st gi o i=D:=⟨_,rfl⟩
 rw [hD];have HD:=Lib.hid hD;have HM:=Lib.hid h;have HR:=Lib.hid hr;have HRR:=Lib.hid hR;have HN:=Lib.hid hn;have HN1:=Lib.hid hn1;have HN2:=Lib.hid hn2;have HA:=Lib.hid ha;have HSL:=Lib.hid h.lt;have hle:=h.1.le;have hal:=ha.le;unfold maxLen at hle hal;obtain ⟨ac,cc,rfl⟩:=h.1.shape;obtain ⟨aw,cw,rfl⟩:=h.2.shape;obtain ⟨aa,ca,rfl⟩:=ha.shape;obtain ⟨w0,hw0⟩:∃ w0,((((w.alloc (.cells #[.slice ac r.chans.length cc,.slice aw r.waits.length cw] 35)).alloc (.cells (opV o (.slice aa o.cases.length ca)) 28)).alloc (.cells #[.slice none 0 0,.slice none 0 0] 35)).alloc (.cells #[.int .i64 0,.int .i64 0,.int .i64 0,.bool false,.int .i64 0] 50)).alloc (.cells #[.int .i64 1,.int .i64 (-1),.int .i64 0,.bool true,.int .i64 0] 50)=w0:=⟨_,rfl⟩
 have HB0:Hid (FiA w (.slice ac r.chans.length cc) (.slice aw r.waits.length cw) (.slice aa o.cases.length ca) o ⟨1,-1,0,true,0⟩ w0):=Lib.hid (by
  subst hw0;exact ⟨(((((Keeps.refl [] w).alloc _).alloc _).alloc _).alloc _).alloc _,((((Blk.fresh w [.slice ac r.chans.length cc,.slice aw r.waits.length cw] _ _ rfl).alloc _).alloc _).alloc _).alloc _,(((Blk.fresh _ (opL o (.slice aa o.cases.length ca)) _ _ (by simp)).alloc _).alloc _).alloc _,((Blk.fresh _ [.slice none 0 0,.slice none 0 0] _ _ (by simp)).alloc _).alloc _,(Blk.fresh _ z5 _ _ (by simp)).alloc _,Blk.fresh _ (resL ⟨1,-1,0,true,0⟩) _ _ (by simp)⟩)
 have t1:(o.kind == 1)=false:=by simp [hk]
 have t7:(o.kind == 7)=false:=by simp [hk]
 have t8k:(o.kind == 8)=true:=by simp [hk]
 have HK:Hid (o.kind=8):=Lib.hid hk;clear hk;clear h hr ha hn hn1 hn2 hD hR;unfold opV at hw0;have HW0:=Lib.hid hw0;clear hw0;unfold opV
 go_enter Try.func67,Try.ntmps67
 go_upto_region 2 with fail
 rw [HW0.out];clear HW0;have hz:=HB0.out.lt;have HZ:=Lib.hid hz;have hq0:w.heap.size < w0.heap.size:=by omega
 have m0:w0.cell? ⟨w.heap.size,0,none⟩=some (.slice ac r.chans.length cc):=HB0.out.2.1.cell 0;have m1:w0.cell? ⟨w.heap.size,1,none⟩=some (.slice aw r.waits.length cw):=HB0.out.2.1.cell 1;have HWd:Hid (GV wtE 7 w0.drew (.slice aw r.waits.length cw) r.waits S):=Lib.hid ((HM.out.then HB0.out.1).2.then wtE_kept (Keeps.refl [] w0).drew);have HWe:Hid (GV wtE 7 (w0.alloc (.cells #[.slice none 0 0,.slice none 0 0] 35)).drew (.slice aw r.waits.length cw) r.waits S):=Lib.hid ((HM.out.then HB0.out.1).2.then wtE_kept (((Keeps.refl [] w0).alloc _).drew));have HQd:Hid (∀ wA SA vA,Keeps [] w0.drew wA→GV wtE 7 wA vA (keepsG gi r.waits) SA→(∀ x∈SA,x∈S∨w0.drew.heap.size≤x)→FiS w (.slice ac r.chans.length cc) (.slice aw r.waits.length cw) (.slice aa o.cases.length ca) o S (keepsG gi r.waits) (.pointer (some ⟨wA.heap.size,0,none⟩)) (wA.alloc (.cells #[.slice ac r.chans.length cc,vA] 35))):=Lib.hid (by
  intro wA SA vA kA gA sA;have kk:Keeps [] w0 (wA.alloc (.cells #[.slice ac r.chans.length cc,vA] 35)):=(((Keeps.refl [] w0).drew).then kA).alloc _;have hzA:=kA.size;have e:w0.drew.heap.size=w0.heap.size:=rfl;refine ⟨wA.heap.size,vA,SA,rfl,HB0.out.then kk,by have:=HZ.out;omega,Blk.fresh wA [.slice ac r.chans.length cc,vA] _ _ rfl,gA.then wtE_kept ((Keeps.refl [] wA).alloc _),fun x hx=>?_⟩;have hl:=gA.lt x hx;rcases sA x hx with h | h
  ·exact .inl h
  ·exact .inr ⟨by have:=HZ.out;omega,by omega⟩)
 have HQe:Hid (∀ wA SA vA,Keeps [] (w0.alloc (.cells #[.slice none 0 0,.slice none 0 0] 35)).drew wA→GV wtE 7 wA vA (keepsG gi r.waits) SA→(∀ x∈SA,x∈S∨(w0.alloc (.cells #[.slice none 0 0,.slice none 0 0] 35)).drew.heap.size≤x)→FiS w (.slice ac r.chans.length cc) (.slice aw r.waits.length cw) (.slice aa o.cases.length ca) o S (keepsG gi r.waits) (.pointer (some ⟨w0.heap.size,0,none⟩)) ((wA.setCell ⟨w0.heap.size,0,none⟩ (.slice ac r.chans.length cc)).setCell ⟨w0.heap.size,1,none⟩ vA)):=Lib.hid (by
  intro wA SA vA kA gA sA;have hb:Blk wA w0.heap.size [.slice none 0 0,.slice none 0 0] 35:=((Blk.fresh w0 [.slice none 0 0,.slice none 0 0] _ _ rfl).drew).keep kA (by simp);have kf:Keeps [w0.heap.size] wA ((wA.setCell ⟨w0.heap.size,0,none⟩ (.slice ac r.chans.length cc)).setCell ⟨w0.heap.size,1,none⟩ vA):=((Keeps.refl _ wA).setCell (by simp) _).setCell (by simp) _;have kk:Keeps [w0.heap.size] w0 ((wA.setCell ⟨w0.heap.size,0,none⟩ (.slice ac r.chans.length cc)).setCell ⟨w0.heap.size,1,none⟩ vA):=((((Keeps.refl [] w0).alloc _).drew).then kA).trans kf (fun x hx=>.inr (by simp at hx;omega)) |>.mono (by simp);have hS:∀ x∈SA,x∈S∨(w.heap.size + 5≤x∧x≠w0.heap.size):=fun x hx=>by
   rcases sA x hx with h | h
   ·exact .inl h
   ·exact .inr ⟨by have:=HZ.out;simp at h;omega,by simp at h;omega⟩
  refine ⟨w0.heap.size,vA,SA,rfl,HB0.out.keep kk (fun x hx=>by simp at hx;have:=HZ.out;omega),HZ.out,(hb.set 0 (.slice ac r.chans.length cc)).set 1 vA,gA.keep wtE_kept kf (fun x hx hm=>?_),hS⟩;simp only [List.mem_singleton] at hm;subst hm;rcases hS _ hx with h | h
  ·have:=HSL.out _ h;have:=HZ.out;omega
  ·exact h.2 rfl)
 have nb:∀ wA:World,Keeps [] (w0.alloc (.cells #[.slice none 0 0,.slice none 0 0] 35)).drew wA→Blk wA w0.heap.size [.slice none 0 0,.slice none 0 0] 35:=fun wA kA=>((Blk.fresh w0 [.slice none 0 0,.slice none 0 0] _ _ rfl).drew).keep kA (by simp)
 have NB:=Lib.hid nb;have ma:∀ wA:World,Keeps [] w0.drew wA→wA.cell? ⟨w.heap.size,0,none⟩=some (.slice ac r.chans.length cc)∧wA.cell? ⟨w.heap.size,1,none⟩=some (.slice aw r.waits.length cw):=fun wA kA=>⟨(HB0.out.2.1.drew.keep kA (by simp)).cell 0,(HB0.out.2.1.drew.keep kA (by simp)).cell 1⟩
 have MA:=Lib.hid ma;have mb:∀ wA:World,Keeps [] (w0.alloc (.cells #[.slice none 0 0,.slice none 0 0] 35)).drew wA→wA.cell? ⟨w.heap.size,0,none⟩=some (.slice ac r.chans.length cc)∧wA.cell? ⟨w.heap.size,1,none⟩=some (.slice aw r.waits.length cw):=fun wA kA=>⟨(((HB0.out.2.1.alloc _).drew).keep kA (by simp)).cell 0,(((HB0.out.2.1.alloc _).drew).keep kA (by simp)).cell 1⟩
 have MB:=Lib.hid mb;clear hz nb ma mb
 go_cut [12] (FiS w (.slice ac r.chans.length cc) (.slice aw r.waits.length cw) (.slice aa o.cases.length ca) o S (keepsG gi r.waits))
 case first =>
  go_region_held3 (fun w'=>w'.cell? ⟨w.heap.size,0,none⟩=some (.slice ac r.chans.length cc)∧w'.cell? ⟨w.heap.size,1,none⟩=some (.slice aw r.waits.length cw))
   (first | (with_reducible exact ⟨m0,m1⟩) | (with_reducible exact MM.out) | (with_reducible exact HF.out.s2) | go_keep)
   (first
    | (go_at_call 69;(with_reducible refine (ref20_without _ _ r.waits S gi HWd.out HN.out).mono ?_);rintro e wA ⟨vA,SA,rfl,gA,kA,sA⟩;obtain ⟨aA,cA,rfl⟩:=gA.shape;have MM:=Lib.hid (MA.out wA kA);have HF:=Lib.hid (HQd.out wA SA _ kA gA sA);clear gA kA sA)
    | (go_at_call 69;(with_reducible refine (ref20_without _ _ r.waits S gi HWe.out HN.out).mono ?_);rintro e wA ⟨vA,SA,rfl,gA,kA,sA⟩;obtain ⟨aA,cA,rfl⟩:=gA.shape;have MM:=Lib.hid (MB.out wA kA);have HF:=Lib.hid (HQe.out wA SA _ kA gA sA);have n0:=(NB.out wA kA).cell 0;have n1:=(NB.out wA kA).cell 1;have f0:=(NB.out wA kA).free 0;have f1:=(NB.out wA kA).free 1;(simp only [List.getElem?_cons_zero,List.getElem?_cons_succ] at n0 n1);clear gA kA sA)
    | fail)
  all_goals
   go_wp2_with fail
   go_meet
   exact HF.out
 case rest =>
  obtain ⟨b,vs,SW,rfl,hfa,hb5,hbs,hgw,hsw⟩:=hcut;obtain ⟨sv,cv,rfl⟩:=hgw.shape;have HU:Hid (FiU w (.slice ac r.chans.length cc) (.slice aw r.waits.length cw) (.slice aa o.cases.length ca) o ⟨1,-1,0,true,0⟩ b (.slice ac r.chans.length cc) (.slice sv (keepsG gi r.waits).length cv) (keepsG gi r.waits) SW wc):=Lib.hid ⟨hfa,hbs,hgw⟩;have HB5:=Lib.hid hb5;have HSW:=Lib.hid hsw;have e2:¬ b=w.heap.size + 1 + 1:=by omega
  have e3:¬ b=w.heap.size + 1 + 1 + 1:=by omega
  have e4:¬ b=w.heap.size + 1 + 1 + 1 + 1:=by omega
  have e5:¬ w.heap.size + 1 + 1=b:=by omega
  have e6:¬ w.heap.size + 1 + 1 + 1=b:=by omega
  have e7:¬ w.heap.size + 1 + 1 + 1 + 1=b:=by omega
  clear hfa hb5 hbs hgw hsw m0 m1 hq0;have m0:=HU.out.1.2.1.cell 0;have m1:=HU.out.1.2.1.cell 1;obtain ⟨a0,a1,a2,a3,a4,a5⟩:=HU.out.1.2.2.1.op;have n0:=HU.out.1.2.2.2.1.cell 0;have n1:=HU.out.1.2.2.2.1.cell 1;have f0:=HU.out.1.2.2.2.1.free 0;have f1:=HU.out.1.2.2.2.1.free 1;obtain ⟨⟨z0,z1,z2,z3,z4⟩,hzz⟩:=(show Blk _ _ (resL Md.noRes) _ from HU.out.1.2.2.2.2.1).res;obtain ⟨⟨p0,p1,p2,p3,p4⟩,hpp⟩:=HU.out.1.2.2.2.2.2.res;clear hzz hpp;have s0:=HU.out.2.1.cell 0;have s1:=HU.out.2.1.cell 1;have fs:=HU.out.2.1.free 0;have y0:=HU.out.1.2.2.2.2.1.free 0;have y1:=HU.out.1.2.2.2.2.1.free 1;have y2:=HU.out.1.2.2.2.2.1.free 2;have y3:=HU.out.1.2.2.2.2.1.free 3;have y4:=HU.out.1.2.2.2.2.1.free 4;have x1:=HU.out.1.2.2.2.2.2.free 1;have x2:=HU.out.1.2.2.2.2.2.free 2;have x3:=HU.out.1.2.2.2.2.2.free 3;have x4:=HU.out.1.2.2.2.2.2.free 4;simp only [List.getElem?_cons_zero,List.getElem?_cons_succ,Md.noRes] at m0 m1 n0 n1 s0 s1 z0 z1 z2 z3 z4 p0 p1 p2 p3 p4
  go_wp2_with fail
  refine (ref20_made _ _ _ r S o.ch (HM.out.then HU.out.1.1)).mono ?_;obtain ⟨mc,hmc⟩:∃ mc,Md.chan r.chans o.ch=mc:=⟨_,rfl⟩
  rw [hmc];have HMC:=Lib.hid hmc;clear hmc
  rintro e w5 ⟨rfl,k5⟩
  have HV:=Lib.hid (HU.out.then k5);clear k5 m0 m1 a0 a1 a2 a3 a4 a5 n0 n1 f0 f1 z0 z1 z2 z3 z4 p0 p1 p2 p3 p4 s0 s1 fs y0 y1 y2 y3 y4 x1 x2 x3 x4;have m0:=HV.out.1.2.1.cell 0;have m1:=HV.out.1.2.1.cell 1;obtain ⟨a0,a1,a2,a3,a4,a5⟩:=HV.out.1.2.2.1.op;have n0:=HV.out.1.2.2.2.1.cell 0;have n1:=HV.out.1.2.2.2.1.cell 1;have f0:=HV.out.1.2.2.2.1.free 0;have f1:=HV.out.1.2.2.2.1.free 1;obtain ⟨⟨z0,z1,z2,z3,z4⟩,hzz⟩:=(show Blk _ _ (resL Md.noRes) _ from HV.out.1.2.2.2.2.1).res;obtain ⟨⟨p0,p1,p2,p3,p4⟩,hpp⟩:=HV.out.1.2.2.2.2.2.res;clear hzz hpp;have s0:=HV.out.2.1.cell 0;have s1:=HV.out.2.1.cell 1;have fs:=HV.out.2.1.free 0;have y0:=HV.out.1.2.2.2.2.1.free 0;have y1:=HV.out.1.2.2.2.2.1.free 1;have y2:=HV.out.1.2.2.2.2.1.free 2;have y3:=HV.out.1.2.2.2.2.1.free 3;have y4:=HV.out.1.2.2.2.2.1.free 4;have x1:=HV.out.1.2.2.2.2.2.free 1;have x2:=HV.out.1.2.2.2.2.2.free 2;have x3:=HV.out.1.2.2.2.2.2.free 3;have x4:=HV.out.1.2.2.2.2.2.free 4;simp only [List.getElem?_cons_zero,List.getElem?_cons_succ,Md.noRes] at m0 m1 n0 n1 s0 s1 z0 z1 z2 z3 z4 p0 p1 p2 p3 p4
  go_upto_region 5 with fail
  cases mc with
  | none =>
   have HE:Hid (D=(⟨st.chans,Md.drops st.waits gi⟩,some ⟨1,-1,0,true,0⟩)):=Lib.hid (by have h8:Md.chan st.chans o.ch=none:=(by rw [HR.out.1];exact HMC.out);rw [← HD.out];unfold Md.fire Md.fires Md.looks;rw [if_neg (by rw [HK.out];decide),if_pos (.inr HK.out),h8]);simp only [Option.isSome_none]
   go_upto_region 18 with fail
   go_region_held3 (fun w'=>w'.cell? ⟨b,0,none⟩=some (.slice ac r.chans.length cc)∧w'.cell? ⟨b,1,none⟩=some (.slice sv (keepsG gi r.waits).length cv)∧w'.cell? ⟨w.heap.size + 1 + 1 + 1 + 1,0,none⟩=some (.int .i64 1)∧w'.cell? ⟨w.heap.size + 1 + 1 + 1 + 1,1,none⟩=some (.int .i64 (-1))∧w'.cell? ⟨w.heap.size + 1 + 1 + 1 + 1,2,none⟩=some (.int .i64 0)∧w'.cell? ⟨w.heap.size + 1 + 1 + 1 + 1,3,none⟩=some (.bool true)∧w'.cell? ⟨w.heap.size + 1 + 1 + 1 + 1,4,none⟩=some (.int .i64 0))
    (first | (with_reducible exact ⟨s0,s1,p0,p1,p2,p3,p4⟩) | go_keep)
    (first | fail)
   all_goals
    go_wp2_with fail
    refine bodyPost_ret (v:=.tuple #[.agg #[.slice ac r.chans.length cc,.slice sv (keepsG gi r.waits).length cv],.agg #[.int .i64 1,.int .i64 (-1),.int .i64 0,.bool true,.int .i64 0],.bool true]) (by simp [results,Try.results67,go_sem, *]) rfl ?_;exact fire_still (rr:=⟨1,-1,0,true,0⟩) HE.out HM.out HR.out HRR.out HV.out HSW.out ((kc7 (by simp) (by simp) (by simp) (by simp) (by simp) (by simp) (by simp)).drew)
  | some c =>
   obtain ⟨k,hck,hkl,hx⟩:=Md.chan_at HMC.out;obtain ⟨g,off,ab,cb,U2,hac,hg,⟨c0,c1,c2⟩,hgv,hU2⟩:=GV.ch (HM.out.then HV.out.1.1).1 hx;have hbl:=hgv.le;unfold maxLen at hbl;have i0:(0:Int)≤o.ch - 1:=by omega
   have i1:o.ch - 1 < (r.chans.length:Int):=by omega
   have i2:(o.ch - 1).toNat=k:=by omega
   have mr:=m0;rw [hac] at mr;have HCK:=Lib.hid hck;have HKL:=Lib.hid hkl;have HX:=Lib.hid hx;have HGV:=Lib.hid hgv;have HU2:=Lib.hid hU2;clear hck hkl hx hgv hU2 hac m0;simp only [Option.isSome_some];have HE:Hid (D=(⟨st.chans,Md.drops st.waits gi⟩,some ⟨1,-1,0,true,c.cap⟩)):=Lib.hid (by have h8:Md.chan st.chans o.ch=some c:=(by rw [HR.out.1];exact HMC.out);rw [← HD.out];unfold Md.fire Md.fires Md.looks;rw [if_neg (by rw [HK.out];decide),if_pos (.inr HK.out),h8];simp only [HK.out];rw [if_neg (by decide)])
   go_upto_region 18 with fail
   clear mr c0 c1 c2;obtain ⟨w10,hw10⟩:∃ w10,w5.setCell ⟨w.heap.size + 1 + 1 + 1 + 1,4,none⟩ (.int .i64 c.cap)=w10:=⟨_,rfl⟩
   rw [hw10];have Hw10:=Lib.hid (HV.out.put ⟨1,-1,0,true,c.cap⟩ 4 _ HB5.out HSW.out HSL.out rfl hw10);clear hw10 m1 a0 a1 a2 a3 a4 a5 n0 n1 f0 f1 z0 z1 z2 z3 z4 p0 p1 p2 p3 p4 s0 s1 fs y0 y1 y2 y3 y4 x1 x2 x3 x4;have m0:=Hw10.out.1.2.1.cell 0;have m1:=Hw10.out.1.2.1.cell 1;obtain ⟨a0,a1,a2,a3,a4,a5⟩:=Hw10.out.1.2.2.1.op;have n0:=Hw10.out.1.2.2.2.1.cell 0;have n1:=Hw10.out.1.2.2.2.1.cell 1;have f0:=Hw10.out.1.2.2.2.1.free 0;have f1:=Hw10.out.1.2.2.2.1.free 1;obtain ⟨⟨z0,z1,z2,z3,z4⟩,hzz⟩:=(show Blk _ _ (resL Md.noRes) _ from Hw10.out.1.2.2.2.2.1).res;obtain ⟨⟨p0,p1,p2,p3,p4⟩,hpp⟩:=Hw10.out.1.2.2.2.2.2.res;clear hzz hpp;have s0:=Hw10.out.2.1.cell 0;have s1:=Hw10.out.2.1.cell 1;have fs:=Hw10.out.2.1.free 0;have y0:=Hw10.out.1.2.2.2.2.1.free 0;have y1:=Hw10.out.1.2.2.2.2.1.free 1;have y2:=Hw10.out.1.2.2.2.2.1.free 2;have y3:=Hw10.out.1.2.2.2.2.1.free 3;have y4:=Hw10.out.1.2.2.2.2.1.free 4;have x1:=Hw10.out.1.2.2.2.2.2.free 1;have x2:=Hw10.out.1.2.2.2.2.2.free 2;have x3:=Hw10.out.1.2.2.2.2.2.free 3;have x4:=Hw10.out.1.2.2.2.2.2.free 4;simp only [List.getElem?_cons_zero,List.getElem?_cons_succ,Md.noRes] at m0 m1 n0 n1 s0 s1 z0 z1 z2 z3 z4 p0 p1 p2 p3 p4
   go_region_held3 (fun w'=>w'.cell? ⟨b,0,none⟩=some (.slice ac r.chans.length cc)∧w'.cell? ⟨b,1,none⟩=some (.slice sv (keepsG gi r.waits).length cv)∧w'.cell? ⟨w.heap.size + 1 + 1 + 1 + 1,0,none⟩=some (.int .i64 1)∧w'.cell? ⟨w.heap.size + 1 + 1 + 1 + 1,1,none⟩=some (.int .i64 (-1))∧w'.cell? ⟨w.heap.size + 1 + 1 + 1 + 1,2,none⟩=some (.int .i64 0)∧w'.cell? ⟨w.heap.size + 1 + 1 + 1 + 1,3,none⟩=some (.bool true)∧w'.cell? ⟨w.heap.size + 1 + 1 + 1 + 1,4,none⟩=some (.int .i64 c.cap))
    (first | (with_reducible exact ⟨s0,s1,p0,p1,p2,p3,p4⟩) | go_keep)
    (first | fail)
   all_goals
    go_wp2_with fail
    refine bodyPost_ret (v:=.tuple #[.agg #[.slice ac r.chans.length cc,.slice sv (keepsG gi r.waits).length cv],.agg #[.int .i64 1,.int .i64 (-1),.int .i64 0,.bool true,.int .i64 c.cap],.bool true]) (by simp [results,Try.results67,go_sem, *]) rfl ?_;exact fire_still (rr:=⟨1,-1,0,true,c.cap⟩) HE.out HM.out HR.out HRR.out Hw10.out HSW.out ((kc7 (by simp) (by simp) (by simp) (by simp) (by simp) (by simp) (by simp)).drew)
end Go.Proofs.Ytdibmkjoaghafaa
