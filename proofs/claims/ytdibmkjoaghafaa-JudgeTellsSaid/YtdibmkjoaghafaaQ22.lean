/-
  What the laws need, part Q22.
  Conditions: none.
-/
import Derived.Test.YtdibmkjoaghafaaQ19
import Derived.Test.YtdibmkjoaghafaaQ20
import Derived.Test.YtdibmkjoaghafaaQ21
set_option linter.unusedVariables false
set_option linter.unusedSimpArgs false
set_option linter.unnecessarySimpa false
set_option maxHeartbeats 2000000
namespace Go.Proofs.Ytdibmkjoaghafaa
open Go.RowKit
set_option maxRecDepth 100000 in
set_option maxHeartbeats 6400000 in
theorem ref20_fire_put (w:World) (vc vw va:Value) (st:Md.St) (r:Mr.St) (S:List Nat) (gi:Int) (o:Pn.Op) (UA:List Nat) (i:Int) (h:MR w vc vw r S) (hr:Mr.Rel st r) (ha:GV caseE 3 w va o.cases UA) (hn:r.waits.length≤100000) (hn1:r.chans.length≤100000) (hn2:∀ c∈r.chans,c.buf.length≤100000) (R:Nat→Prop) (hR:∀ x∈S,R x) (hk:¬ o.kind=1∧¬ (o.kind=7∨o.kind=8)∧¬ o.kind=6) (sch sv':Int) (c:Md.Ch) (hs:Md.side o i=some ⟨sch,true,sv'⟩) (hc:Md.chan r.chans sch=some c) (hb0:c.closed=false) (hb1:decide ((c.buf.length:Int) < c.cap)=true) :
  Calls Try.prog 67 #[.agg #[vc,vw],.int .i64 gi,.agg (opV o va),.int .i64 i] w (RFirePost w (Md.fire st gi o i) r.waits.length R):=by
 obtain ⟨D,hD⟩:∃ D,Md.fire st gi o i=D:=⟨_,rfl⟩
 rw [hD];have HD:=Lib.hid hD;have HM:=Lib.hid h;have HR:=Lib.hid hr;have HRR:=Lib.hid hR;have HN:=Lib.hid hn;have HN1:=Lib.hid hn1;have HN2:=Lib.hid hn2;have HA:=Lib.hid ha;have HSL:=Lib.hid h.lt;have hle:=h.1.le;have hal:=ha.le;unfold maxLen at hle hal;obtain ⟨ac,cc,rfl⟩:=h.1.shape;obtain ⟨aw,cw,rfl⟩:=h.2.shape;obtain ⟨aa,ca,rfl⟩:=ha.shape;obtain ⟨w0,hw0⟩:∃ w0,((((w.alloc (.cells #[.slice ac r.chans.length cc,.slice aw r.waits.length cw] 35)).alloc (.cells (opV o (.slice aa o.cases.length ca)) 28)).alloc (.cells #[.slice none 0 0,.slice none 0 0] 35)).alloc (.cells #[.int .i64 0,.int .i64 0,.int .i64 0,.bool false,.int .i64 0] 50)).alloc (.cells #[.int .i64 1,.int .i64 (-1),.int .i64 0,.bool true,.int .i64 0] 50)=w0:=⟨_,rfl⟩
 have HB0:Hid (FiA w (.slice ac r.chans.length cc) (.slice aw r.waits.length cw) (.slice aa o.cases.length ca) o ⟨1,-1,0,true,0⟩ w0):=Lib.hid (by
  subst hw0;exact ⟨(((((Keeps.refl [] w).alloc _).alloc _).alloc _).alloc _).alloc _,((((Blk.fresh w [.slice ac r.chans.length cc,.slice aw r.waits.length cw] _ _ rfl).alloc _).alloc _).alloc _).alloc _,(((Blk.fresh _ (opL o (.slice aa o.cases.length ca)) _ _ (by simp)).alloc _).alloc _).alloc _,((Blk.fresh _ [.slice none 0 0,.slice none 0 0] _ _ (by simp)).alloc _).alloc _,(Blk.fresh _ z5 _ _ (by simp)).alloc _,Blk.fresh _ (resL ⟨1,-1,0,true,0⟩) _ _ (by simp)⟩)
 have t1:(o.kind == 1)=false:=by simp [hk.1]
 have t7:(o.kind == 7)=false:=by have:=hk.2.1;simp;omega
 have t8k:(o.kind == 8)=false:=by have:=hk.2.1;simp;omega
 have t6:(o.kind == 6)=false:=by simp [hk.2.2]
 have HK:Hid (¬ o.kind=1∧¬ (o.kind=7∨o.kind=8)∧¬ o.kind=6):=Lib.hid hk;clear hk;have HSI:=Lib.hid hs;have HMC2:=Lib.hid hc;clear hs hc;have HQ0:=Lib.hid hb0;have HQ1:=Lib.hid hb1;clear hb0 hb1;clear h hr ha hn hn1 hn2 hD hR;unfold opV at hw0;have HW0:=Lib.hid hw0;clear hw0;unfold opV
 go_enter Try.func67,Try.ntmps67
 go_upto_region 2 with fail
 rw [HW0.out];clear HW0;have hz:=HB0.out.lt;have HZ:=Lib.hid hz;have hq0:w.heap.size < w0.heap.size:=by omega
 have m0:w0.cell? ⟨w.heap.size,0,none⟩=some (.slice ac r.chans.length cc):=HB0.out.2.1.cell 0;have m1:w0.cell? ⟨w.heap.size,1,none⟩=some (.slice aw r.waits.length cw):=HB0.out.2.1.cell 1;have HWd:Hid (GV wtE 7 w0.drew (.slice aw r.waits.length cw) r.waits S):=Lib.hid ((HM.out.then HB0.out.1).2.then wtE_kept (Keeps.refl [] w0).drew);have HWe:Hid (GV wtE 7 (w0.alloc (.cells #[.slice none 0 0,.slice none 0 0] 35)).drew (.slice aw r.waits.length cw) r.waits S):=Lib.hid ((HM.out.then HB0.out.1).2.then wtE_kept (((Keeps.refl [] w0).alloc _).drew));have HQd:Hid (∀ wA SA vA,Keeps [] w0.drew wA→GV wtE 7 wA vA (keepsG gi r.waits) SA→(∀ x∈SA,x∈S∨w0.drew.heap.size≤x)→FiS w (.slice ac r.chans.length cc) (.slice aw r.waits.length cw) (.slice aa o.cases.length ca) o S (keepsG gi r.waits) (.pointer (some ⟨wA.heap.size,0,none⟩)) (wA.alloc (.cells #[.slice ac r.chans.length cc,vA] 35))):=Lib.hid (by
  intro wA SA vA kA gA sA;have kk:Keeps [] w0 (wA.alloc (.cells #[.slice ac r.chans.length cc,vA] 35)):=(((Keeps.refl [] w0).drew).then kA).alloc _;have hzA:=kA.size;have e:w0.drew.heap.size=w0.heap.size:=rfl;refine ⟨wA.heap.size,vA,SA,rfl,HB0.out.then kk,by have:=HZ.out;omega,Blk.fresh wA [.slice ac r.chans.length cc,vA] _ _ rfl,gA.then wtE_kept ((Keeps.refl [] wA).alloc _),fun x hx=>?_⟩;have hl:=gA.lt x hx;rcases sA x hx with h | h
  ·exact .inl h
  ·exact .inr ⟨by have:=HZ.out;omega,by omega⟩)
 have HQe:Hid (∀ wA SA vA,Keeps [] (w0.alloc (.cells #[.slice none 0 0,.slice none 0 0] 35)).drew wA→GV wtE 7 wA vA (keepsG gi r.waits) SA→(∀ x∈SA,x∈S∨(w0.alloc (.cells #[.slice none 0 0,.slice none 0 0] 35)).drew.heap.size≤x)→FiS w (.slice ac r.chans.length cc) (.slice aw r.waits.length cw) (.slice aa o.cases.length ca) o S (keepsG gi r.waits) (.pointer (some ⟨w0.heap.size,0,none⟩)) ((wA.setCell ⟨w0.heap.size,0,none⟩ (.slice ac r.chans.length cc)).setCell ⟨w0.heap.size,1,none⟩ vA)):=Lib.hid (by
  intro wA SA vA kA gA sA;have hb:Blk wA w0.heap.size [.slice none 0 0,.slice none 0 0] 35:=((Blk.fresh w0 [.slice none 0 0,.slice none 0 0] _ _ rfl).drew).keep kA (by simp);have kf:Keeps [w0.heap.size] wA ((wA.setCell ⟨w0.heap.size,0,none⟩ (.slice ac r.chans.length cc)).setCell ⟨w0.heap.size,1,none⟩ vA):=((Keeps.refl _ wA).setCell (by simp) _).setCell (by simp) _;have kk:Keeps [w0.heap.size] w0 ((wA.setCell ⟨w0.heap.size,0,none⟩ (.slice ac r.chans.length cc)).setCell ⟨w0.heap.size,1,none⟩ vA):=((((Keeps.refl [] w0).alloc _).drew).then kA).trans kf (fun x hx=>.inr (by simp at hx;omega)) |>.mono (by simp);have hS:∀ x∈SA,x∈S∨(w.heap.size + 5≤x∧x≠w0.heap.size):=fun x hx=>by
   rcases sA x hx with h | h
   ·exact .inl h
   ·exact .inr ⟨by have:=HZ.out;simp at h;omega,by simp at h;omega⟩
  refine ⟨w0.heap.size,vA,SA,rfl,HB0.out.keep kk (fun x hx=>by simp at hx;have:=HZ.out;omega),HZ.out,(hb.set 0 (.slice ac r.chans.length cc)).set 1 vA,gA.keep wtE_kept kf (fun x hx hm=>?_),hS⟩;simp only [List.mem_singleton] at hm;subst hm;rcases hS _ hx with h | h
  ·have:=HSL.out _ h;have:=HZ.out;omega
  ·exact h.2 rfl)
 have nb:∀ wA:World,Keeps [] (w0.alloc (.cells #[.slice none 0 0,.slice none 0 0] 35)).drew wA→Blk wA w0.heap.size [.slice none 0 0,.slice none 0 0] 35:=fun wA kA=>((Blk.fresh w0 [.slice none 0 0,.slice none 0 0] _ _ rfl).drew).keep kA (by simp)
 have NB:=Lib.hid nb;have ma:∀ wA:World,Keeps [] w0.drew wA→wA.cell? ⟨w.heap.size,0,none⟩=some (.slice ac r.chans.length cc)∧wA.cell? ⟨w.heap.size,1,none⟩=some (.slice aw r.waits.length cw):=fun wA kA=>⟨(HB0.out.2.1.drew.keep kA (by simp)).cell 0,(HB0.out.2.1.drew.keep kA (by simp)).cell 1⟩
 have MA:=Lib.hid ma;have mb:∀ wA:World,Keeps [] (w0.alloc (.cells #[.slice none 0 0,.slice none 0 0] 35)).drew wA→wA.cell? ⟨w.heap.size,0,none⟩=some (.slice ac r.chans.length cc)∧wA.cell? ⟨w.heap.size,1,none⟩=some (.slice aw r.waits.length cw):=fun wA kA=>⟨(((HB0.out.2.1.alloc _).drew).keep kA (by simp)).cell 0,(((HB0.out.2.1.alloc _).drew).keep kA (by simp)).cell 1⟩
 have MB:=Lib.hid mb;clear hz nb ma mb
 go_cut [12] (FiS w (.slice ac r.chans.length cc) (.slice aw r.waits.length cw) (.slice aa o.cases.length ca) o S (keepsG gi r.waits))
 case first =>
  go_region_held3 (fun w'=>w'.cell? ⟨w.heap.size,0,none⟩=some (.slice ac r.chans.length cc)∧w'.cell? ⟨w.heap.size,1,none⟩=some (.slice aw r.waits.length cw))
   (first | (with_reducible exact ⟨m0,m1⟩) | (with_reducible exact MM.out) | (with_reducible exact HF.out.s2) | go_keep)
   (first
    | (go_at_call 69;(with_reducible refine (ref20_without _ _ r.waits S gi HWd.out HN.out).mono ?_);rintro e wA ⟨vA,SA,rfl,gA,kA,sA⟩;obtain ⟨aA,cA,rfl⟩:=gA.shape;have MM:=Lib.hid (MA.out wA kA);have HF:=Lib.hid (HQd.out wA SA _ kA gA sA);clear gA kA sA)
    | (go_at_call 69;(with_reducible refine (ref20_without _ _ r.waits S gi HWe.out HN.out).mono ?_);rintro e wA ⟨vA,SA,rfl,gA,kA,sA⟩;obtain ⟨aA,cA,rfl⟩:=gA.shape;have MM:=Lib.hid (MB.out wA kA);have HF:=Lib.hid (HQe.out wA SA _ kA gA sA);have n0:=(NB.out wA kA).cell 0;have n1:=(NB.out wA kA).cell 1;have f0:=(NB.out wA kA).free 0;have f1:=(NB.out wA kA).free 1;(simp only [List.getElem?_cons_zero,List.getElem?_cons_succ] at n0 n1);clear gA kA sA)
    | fail)
  all_goals
   go_wp2_with fail
   go_meet
   exact HF.out
 case rest =>
  obtain ⟨b,vs,SW,rfl,hfa,hb5,hbs,hgw,hsw⟩:=hcut;obtain ⟨sv,cv,rfl⟩:=hgw.shape;have HU:Hid (FiU w (.slice ac r.chans.length cc) (.slice aw r.waits.length cw) (.slice aa o.cases.length ca) o ⟨1,-1,0,true,0⟩ b (.slice ac r.chans.length cc) (.slice sv (keepsG gi r.waits).length cv) (keepsG gi r.waits) SW wc):=Lib.hid ⟨hfa,hbs,hgw⟩;have HB5:=Lib.hid hb5;have HSW:=Lib.hid hsw;have e2:¬ b=w.heap.size + 1 + 1:=by omega
  have e3:¬ b=w.heap.size + 1 + 1 + 1:=by omega
  have e4:¬ b=w.heap.size + 1 + 1 + 1 + 1:=by omega
  have e5:¬ w.heap.size + 1 + 1=b:=by omega
  have e6:¬ w.heap.size + 1 + 1 + 1=b:=by omega
  have e7:¬ w.heap.size + 1 + 1 + 1 + 1=b:=by omega
  clear hfa hb5 hbs hgw hsw m0 m1 hq0;have m0:=HU.out.1.2.1.cell 0;have m1:=HU.out.1.2.1.cell 1;obtain ⟨a0,a1,a2,a3,a4,a5⟩:=HU.out.1.2.2.1.op;have n0:=HU.out.1.2.2.2.1.cell 0;have n1:=HU.out.1.2.2.2.1.cell 1;have f0:=HU.out.1.2.2.2.1.free 0;have f1:=HU.out.1.2.2.2.1.free 1;obtain ⟨⟨z0,z1,z2,z3,z4⟩,hzz⟩:=(show Blk _ _ (resL Md.noRes) _ from HU.out.1.2.2.2.2.1).res;obtain ⟨⟨p0,p1,p2,p3,p4⟩,hpp⟩:=HU.out.1.2.2.2.2.2.res;clear hzz hpp;have s0:=HU.out.2.1.cell 0;have s1:=HU.out.2.1.cell 1;have fs:=HU.out.2.1.free 0;have y0:=HU.out.1.2.2.2.2.1.free 0;have y1:=HU.out.1.2.2.2.2.1.free 1;have y2:=HU.out.1.2.2.2.2.1.free 2;have y3:=HU.out.1.2.2.2.2.1.free 3;have y4:=HU.out.1.2.2.2.2.1.free 4;have x1:=HU.out.1.2.2.2.2.2.free 1;have x2:=HU.out.1.2.2.2.2.2.free 2;have x3:=HU.out.1.2.2.2.2.2.free 3;have x4:=HU.out.1.2.2.2.2.2.free 4;simp only [List.getElem?_cons_zero,List.getElem?_cons_succ,Md.noRes] at m0 m1 n0 n1 s0 s1 z0 z1 z2 z3 z4 p0 p1 p2 p3 p4
  go_wp2_with fail
  refine (ref20_made _ _ _ r S o.ch (HM.out.then HU.out.1.1)).mono ?_;obtain ⟨mc,hmc⟩:∃ mc,Md.chan r.chans o.ch=mc:=⟨_,rfl⟩
  rw [hmc];have HMC:=Lib.hid hmc;clear hmc
  rintro e w5 ⟨rfl,k5⟩
  have HV:=Lib.hid (HU.out.then k5);clear k5 m0 m1 a0 a1 a2 a3 a4 a5 n0 n1 f0 f1 z0 z1 z2 z3 z4 p0 p1 p2 p3 p4 s0 s1 fs y0 y1 y2 y3 y4 x1 x2 x3 x4;have m0:=HV.out.1.2.1.cell 0;have m1:=HV.out.1.2.1.cell 1;obtain ⟨a0,a1,a2,a3,a4,a5⟩:=HV.out.1.2.2.1.op;have n0:=HV.out.1.2.2.2.1.cell 0;have n1:=HV.out.1.2.2.2.1.cell 1;have f0:=HV.out.1.2.2.2.1.free 0;have f1:=HV.out.1.2.2.2.1.free 1;obtain ⟨⟨z0,z1,z2,z3,z4⟩,hzz⟩:=(show Blk _ _ (resL Md.noRes) _ from HV.out.1.2.2.2.2.1).res;obtain ⟨⟨p0,p1,p2,p3,p4⟩,hpp⟩:=HV.out.1.2.2.2.2.2.res;clear hzz hpp;have s0:=HV.out.2.1.cell 0;have s1:=HV.out.2.1.cell 1;have fs:=HV.out.2.1.free 0;have y0:=HV.out.1.2.2.2.2.1.free 0;have y1:=HV.out.1.2.2.2.2.1.free 1;have y2:=HV.out.1.2.2.2.2.1.free 2;have y3:=HV.out.1.2.2.2.2.1.free 3;have y4:=HV.out.1.2.2.2.2.1.free 4;have x1:=HV.out.1.2.2.2.2.2.free 1;have x2:=HV.out.1.2.2.2.2.2.free 2;have x3:=HV.out.1.2.2.2.2.2.free 3;have x4:=HV.out.1.2.2.2.2.2.free 4;simp only [List.getElem?_cons_zero,List.getElem?_cons_succ,Md.noRes] at m0 m1 n0 n1 s0 s1 z0 z1 z2 z3 z4 p0 p1 p2 p3 p4
  go_upto_region 5 with fail
  go_wp2_with fail
  refine (ref20_side _ o _ UA i (HA.out.then caseE_kept HV.out.1.1)).mono ?_
  rintro e w6 ⟨rfl,k6⟩
  have HV6:=Lib.hid (HV.out.then k6);clear k6 m0 m1 a0 a1 a2 a3 a4 a5 n0 n1 f0 f1 z0 z1 z2 z3 z4 p0 p1 p2 p3 p4 s0 s1 fs y0 y1 y2 y3 y4 x1 x2 x3 x4;rw [HSI.out];simp only [Option.getD_some,Option.getD_none,Option.isSome_some,Option.isSome_none,Md.noSide];unfold csV;obtain ⟨w7,hw7⟩:∃ w7,w6.alloc (.cells #[.bool true,.int .i64 sch,.int .i64 sv'] 87)=w7:=⟨_,rfl⟩
  have HV7:=Lib.hid (HV6.out.then (hw7 ▸ (Keeps.refl [] w6).alloc _:Keeps [] w6 w7));have HSB7:Hid (Blk w7 w6.heap.size [.bool true,.int .i64 sch,.int .i64 sv'] 87):=Lib.hid (hw7 ▸ Blk.fresh w6 [.bool true,.int .i64 sch,.int .i64 sv'] _ _ rfl);have HZ6:Hid (w.heap.size + 5≤w6.heap.size):=Lib.hid HV6.out.1.lt;clear HV6
  go_upto_region 28 with fail
  clear hw7;have m0:=HV7.out.1.2.1.cell 0;have m1:=HV7.out.1.2.1.cell 1;obtain ⟨a0,a1,a2,a3,a4,a5⟩:=HV7.out.1.2.2.1.op;have n0:=HV7.out.1.2.2.2.1.cell 0;have n1:=HV7.out.1.2.2.2.1.cell 1;have f0:=HV7.out.1.2.2.2.1.free 0;have f1:=HV7.out.1.2.2.2.1.free 1;obtain ⟨⟨z0,z1,z2,z3,z4⟩,hzz⟩:=(show Blk _ _ (resL Md.noRes) _ from HV7.out.1.2.2.2.2.1).res;obtain ⟨⟨p0,p1,p2,p3,p4⟩,hpp⟩:=HV7.out.1.2.2.2.2.2.res;clear hzz hpp;have s0:=HV7.out.2.1.cell 0;have s1:=HV7.out.2.1.cell 1;have fs:=HV7.out.2.1.free 0;have y0:=HV7.out.1.2.2.2.2.1.free 0;have y1:=HV7.out.1.2.2.2.2.1.free 1;have y2:=HV7.out.1.2.2.2.2.1.free 2;have y3:=HV7.out.1.2.2.2.2.1.free 3;have y4:=HV7.out.1.2.2.2.2.1.free 4;have x1:=HV7.out.1.2.2.2.2.2.free 1;have x2:=HV7.out.1.2.2.2.2.2.free 2;have x3:=HV7.out.1.2.2.2.2.2.free 3;have x4:=HV7.out.1.2.2.2.2.2.free 4;simp only [List.getElem?_cons_zero,List.getElem?_cons_succ,Md.noRes] at m0 m1 n0 n1 s0 s1 z0 z1 z2 z3 z4 p0 p1 p2 p3 p4;obtain ⟨⟨q0,q1,q2⟩,hqq⟩:=Blk.three HSB7.out;clear hqq
  go_wp2_with fail
  refine (ref20_made _ _ _ r S sch (HM.out.then HV7.out.1.1)).mono ?_;rw [HMC2.out];simp only [Option.isSome_some,Option.isSome_none]
  rintro e w8 ⟨rfl,k8⟩
  have HV8:=Lib.hid (HV7.out.then k8);have HSB8:=Lib.hid (HSB7.out.keep k8 (by simp));clear k8 q0 q1 q2 m0 m1 a0 a1 a2 a3 a4 a5 n0 n1 f0 f1 z0 z1 z2 z3 z4 p0 p1 p2 p3 p4 s0 s1 fs y0 y1 y2 y3 y4 x1 x2 x3 x4;have m0:=HV8.out.1.2.1.cell 0;have m1:=HV8.out.1.2.1.cell 1;obtain ⟨a0,a1,a2,a3,a4,a5⟩:=HV8.out.1.2.2.1.op;have n0:=HV8.out.1.2.2.2.1.cell 0;have n1:=HV8.out.1.2.2.2.1.cell 1;have f0:=HV8.out.1.2.2.2.1.free 0;have f1:=HV8.out.1.2.2.2.1.free 1;obtain ⟨⟨z0,z1,z2,z3,z4⟩,hzz⟩:=(show Blk _ _ (resL Md.noRes) _ from HV8.out.1.2.2.2.2.1).res;obtain ⟨⟨p0,p1,p2,p3,p4⟩,hpp⟩:=HV8.out.1.2.2.2.2.2.res;clear hzz hpp;have s0:=HV8.out.2.1.cell 0;have s1:=HV8.out.2.1.cell 1;have fs:=HV8.out.2.1.free 0;have y0:=HV8.out.1.2.2.2.2.1.free 0;have y1:=HV8.out.1.2.2.2.2.1.free 1;have y2:=HV8.out.1.2.2.2.2.1.free 2;have y3:=HV8.out.1.2.2.2.2.1.free 3;have y4:=HV8.out.1.2.2.2.2.1.free 4;have x1:=HV8.out.1.2.2.2.2.2.free 1;have x2:=HV8.out.1.2.2.2.2.2.free 2;have x3:=HV8.out.1.2.2.2.2.2.free 3;have x4:=HV8.out.1.2.2.2.2.2.free 4;simp only [List.getElem?_cons_zero,List.getElem?_cons_succ,Md.noRes] at m0 m1 n0 n1 s0 s1 z0 z1 z2 z3 z4 p0 p1 p2 p3 p4;obtain ⟨⟨q0,q1,q2⟩,hqq⟩:=Blk.three HSB8.out;clear hqq;obtain ⟨k,hck,hkl,hx⟩:=Md.chan_at HMC2.out;obtain ⟨g,off,ab,cb,U2,hac,hg,⟨c0,c1,c2⟩,hgv,hU2⟩:=GV.ch (HM.out.then HV8.out.1.1).1 hx;have hbl:=hgv.le;unfold maxLen at hbl;have i0:(0:Int)≤sch - 1:=by omega
  have i1:sch - 1 < (r.chans.length:Int):=by omega
  have i2:(sch - 1).toNat=k:=by omega
  have mr:=m0;rw [hac] at mr;have HCK:=Lib.hid hck;have HKL:=Lib.hid hkl;have HX:=Lib.hid hx;have HGV:=Lib.hid hgv;have HU2:=Lib.hid hU2;clear hck hkl hx hgv hU2 hac m0;obtain ⟨w9,hw9⟩:∃ w9,w8.alloc (.cells #[.int .i64 c.cap,.slice ab c.buf.length cb,.bool c.closed] 45)=w9:=⟨_,rfl⟩
  have Hw9:=Lib.hid (HV8.out.then (hw9 ▸ (Keeps.refl [] w8).alloc _:Keeps [] w8 w9));have HCw9:Hid (Blk w9 w8.heap.size [.int .i64 c.cap,.slice ab c.buf.length cb,.bool c.closed] 45):=Lib.hid (hw9 ▸ Blk.fresh w8 [.int .i64 c.cap,.slice ab c.buf.length cb,.bool c.closed] _ _ rfl);have HSB9:=Lib.hid (HSB8.out.keep (hw9 ▸ (Keeps.refl [] w8).alloc _:Keeps [] w8 w9) (by simp));have HG9:=Lib.hid (HGV.out.then rawE_kept (hw9 ▸ (Keeps.refl [] w8).alloc _:Keeps [] w8 w9))
  go_upto_region 31 with fail
  clear hw9 mr c0 c1 c2 q0 q1 q2 m1 a0 a1 a2 a3 a4 a5 n0 n1 f0 f1 z0 z1 z2 z3 z4 p0 p1 p2 p3 p4 s0 s1 fs y0 y1 y2 y3 y4 x1 x2 x3 x4;have m0:=Hw9.out.1.2.1.cell 0;have m1:=Hw9.out.1.2.1.cell 1;obtain ⟨a0,a1,a2,a3,a4,a5⟩:=Hw9.out.1.2.2.1.op;have n0:=Hw9.out.1.2.2.2.1.cell 0;have n1:=Hw9.out.1.2.2.2.1.cell 1;have f0:=Hw9.out.1.2.2.2.1.free 0;have f1:=Hw9.out.1.2.2.2.1.free 1;obtain ⟨⟨z0,z1,z2,z3,z4⟩,hzz⟩:=(show Blk _ _ (resL Md.noRes) _ from Hw9.out.1.2.2.2.2.1).res;obtain ⟨⟨p0,p1,p2,p3,p4⟩,hpp⟩:=Hw9.out.1.2.2.2.2.2.res;clear hzz hpp;have s0:=Hw9.out.2.1.cell 0;have s1:=Hw9.out.2.1.cell 1;have fs:=Hw9.out.2.1.free 0;have y0:=Hw9.out.1.2.2.2.2.1.free 0;have y1:=Hw9.out.1.2.2.2.2.1.free 1;have y2:=Hw9.out.1.2.2.2.2.1.free 2;have y3:=Hw9.out.1.2.2.2.2.1.free 3;have y4:=Hw9.out.1.2.2.2.2.1.free 4;have x1:=Hw9.out.1.2.2.2.2.2.free 1;have x2:=Hw9.out.1.2.2.2.2.2.free 2;have x3:=Hw9.out.1.2.2.2.2.2.free 3;have x4:=Hw9.out.1.2.2.2.2.2.free 4;simp only [List.getElem?_cons_zero,List.getElem?_cons_succ,Md.noRes] at m0 m1 n0 n1 s0 s1 z0 z1 z2 z3 z4 p0 p1 p2 p3 p4
  go_upto_region 32 with fail
  have HZ8:=Lib.hid HV8.out.1.lt;obtain ⟨w10,hw10⟩:∃ w10,w9.setCell ⟨w.heap.size + 1 + 1 + 1 + 1,1,none⟩ (.int .i64 i)=w10:=⟨_,rfl⟩
  rw [hw10];have Hw10:=Lib.hid (Hw9.out.put ⟨1,i,0,true,0⟩ 1 _ HB5.out HSW.out HSL.out rfl hw10);have K10:Hid (Keeps [w.heap.size + 1 + 1 + 1 + 1] w9 w10):=Lib.hid (hw10 ▸ (Keeps.refl _ w9).setCell (by simp) _);have HSB10:=Lib.hid (HSB9.out.keep K10.out (by have:=HZ6.out;simp;omega));have HC10:=Lib.hid (HCw9.out.keep K10.out (by have:=HZ8.out;simp;omega));have HG10:=Lib.hid (HG9.out.keep rawE_kept K10.out (fun x hx hm=>by simp at hm;subst hm;have:=HSL.out _ (HU2.out _ hx);omega));clear hw10 m0 m1 a0 a1 a2 a3 a4 a5 n0 n1 f0 f1 z0 z1 z2 z3 z4 p0 p1 p2 p3 p4 s0 s1 fs y0 y1 y2 y3 y4 x1 x2 x3 x4;have m0:=Hw10.out.1.2.1.cell 0;have m1:=Hw10.out.1.2.1.cell 1;obtain ⟨a0,a1,a2,a3,a4,a5⟩:=Hw10.out.1.2.2.1.op;have n0:=Hw10.out.1.2.2.2.1.cell 0;have n1:=Hw10.out.1.2.2.2.1.cell 1;have f0:=Hw10.out.1.2.2.2.1.free 0;have f1:=Hw10.out.1.2.2.2.1.free 1;obtain ⟨⟨z0,z1,z2,z3,z4⟩,hzz⟩:=(show Blk _ _ (resL Md.noRes) _ from Hw10.out.1.2.2.2.2.1).res;obtain ⟨⟨p0,p1,p2,p3,p4⟩,hpp⟩:=Hw10.out.1.2.2.2.2.2.res;clear hzz hpp;have s0:=Hw10.out.2.1.cell 0;have s1:=Hw10.out.2.1.cell 1;have fs:=Hw10.out.2.1.free 0;have y0:=Hw10.out.1.2.2.2.2.1.free 0;have y1:=Hw10.out.1.2.2.2.2.1.free 1;have y2:=Hw10.out.1.2.2.2.2.1.free 2;have y3:=Hw10.out.1.2.2.2.2.1.free 3;have y4:=Hw10.out.1.2.2.2.2.1.free 4;have x1:=Hw10.out.1.2.2.2.2.2.free 1;have x2:=Hw10.out.1.2.2.2.2.2.free 2;have x3:=Hw10.out.1.2.2.2.2.2.free 3;have x4:=Hw10.out.1.2.2.2.2.2.free 4;simp only [List.getElem?_cons_zero,List.getElem?_cons_succ,Md.noRes] at m0 m1 n0 n1 s0 s1 z0 z1 z2 z3 z4 p0 p1 p2 p3 p4;obtain ⟨⟨q0,q1,q2⟩,hqq⟩:=Blk.three HSB10.out;clear hqq;obtain ⟨⟨d0,d1,d2⟩,hdd⟩:=Blk.three HC10.out;clear hdd;have b0:=HQ0.out;have b1:=HQ1.out;rw [b0] at d2 HC10;have HCB:=Lib.hid (HN2.out c (List.mem_of_getElem? HX.out));have HE:Hid (D=(⟨r.chans.set k ⟨c.cap,c.buf ++ [sv'],false⟩,Md.drops st.waits gi⟩,some ⟨1,i,0,true,0⟩)):=Lib.hid (by rw [← HD.out];unfold Md.fire Md.fires Md.does;rw [if_neg HK.out.1,if_neg HK.out.2.1,if_neg HK.out.2.2,HSI.out];simp only [HR.out.1];rw [HMC2.out];simp only [if_true];rw [if_neg (by rw [b0];decide),if_pos (by simpa using b1),put_at HCK.out,b0])
  have LT:=lits w10 2 [.int .i64 sv'];have LA:=Lib.hid LT.1;have LB:=Lib.hid LT.2.1;have LC:=Lib.hid LT.2.2;clear LT;have HEE:Hid (rawE w10 [.int .i64 sv'] sv' []):=Lib.hid ⟨rfl,rfl⟩;have HBN:Hid (c.buf.length * 8≤140737488355328):=Lib.hid (by have:=HCB.out;omega);have HBN1:Hid ((c.buf.length + 1) * 8≤140737488355328):=Lib.hid (by have:=HCB.out;omega);have HONE:Hid (∀ y∈([.int .i64 sv']:List Value),y.oneCell'=true):=Lib.hid (by simp [Value.oneCell']);have HFR:Hid (∀ w',Keeps [] w10 w'→w'.cell? ⟨w8.heap.size,1,none⟩=some (.slice ab c.buf.length cb)∧w'.cell? ⟨w6.heap.size,2,none⟩=some (.int .i64 sv')∧w'.frozen? ⟨w8.heap.size,1,none⟩=false):=Lib.hid (fun w' k=>by
   have hc:=HC10.out.keep k (by simp);exact ⟨hc.cell 1,(HSB10.out.keep k (by simp)).cell 2,hc.free 1⟩)
  have HFF:Hid (∀ w',Keeps [] w10 w'→w'.cell? ⟨w8.heap.size,1,none⟩=some (.slice ab c.buf.length cb)∧w'.cell? ⟨w6.heap.size,2,none⟩=some (.int .i64 sv')):=Lib.hid (fun w' k=>⟨(HFR.out w' k).1,(HFR.out w' k).2.1⟩);have HFd:=Lib.hid (HFF.out w10.drew (Keeps.refl [] w10).drew);clear m0 m1 a0 a1 a2 a3 a4 a5 n0 n1 f0 f1 z0 z1 z2 z3 z4 p0 p1 p2 p3 p4 s0 s1 fs y0 y1 y2 y3 y4 x1 x2 x3 x4;have HB10:Hid (¬ b=w8.heap.size):=Lib.hid (fun h=>by have:=HV8.out.2.1.lt;omega);have HSC:Hid (w6.heap.size≠w8.heap.size):=Lib.hid (fun h=>by have:=HSB8.out.lt;omega);have HCW8:Hid (w8.heap.size∉SW):=Lib.hid (fun h=>by have:=HV8.out.2.2.lt _ h;omega)
  go_upto_region 35 with fail
  clear q0 q1 q2 d0 d1 d2
  go_cut [] (FiB w (.slice ac r.chans.length cc) (.slice aw r.waits.length cw) (.slice aa o.cases.length ca) o ⟨1,i,0,true,0⟩ b (.slice ac r.chans.length cc) (.slice sv (keepsG gi r.waits).length cv) (keepsG gi r.waits) SW w6.heap.size w8.heap.size [.bool true,.int .i64 sch,.int .i64 sv'] c.cap false (c.buf ++ [sv']) S)
  case first =>
   refine Goes.begin (fun w'=>w'.cell? ⟨w8.heap.size,1,none⟩=some (.slice ab c.buf.length cb)∧w'.cell? ⟨w6.heap.size,2,none⟩=some (.int .i64 sv')) 9 (by kernel_rfl) ?_;refine Goes.take 1 (v:=?_) rfl (by kernel_rfl) (by kernel_rfl) (by kernel_rfl) (by kernel_rfl) (fun _ _ _ h=>h) HFd.out (Or.inl ⟨by rfl,?_⟩) ?_
   rotate_left
   ·intro wx hSw;(try dsimp only at hSw);go_simp
    all_goals with_reducible rfl
   try simp only [Act.put,List.setIfInBounds_toArray,List.set_cons_zero,List.set_cons_succ]
   refine Goes.take 2 (v:=?_) rfl (by kernel_rfl) (by kernel_rfl) (by kernel_rfl) (by kernel_rfl) (fun _ _ _ h=>h) HFd.out (Or.inl ⟨by rfl,?_⟩) ?_
   rotate_left
   ·intro wx hSw;(try dsimp only at hSw);go_simp
    all_goals with_reducible rfl
   try simp only [Act.put,List.setIfInBounds_toArray,List.set_cons_zero,List.set_cons_succ]
   refine Goes.take 4 (v:=?_) rfl (by kernel_rfl) (by kernel_rfl) (by kernel_rfl) (by kernel_rfl) (fun _ _ _ h=>h) HFd.out (Or.inl ⟨by rfl,?_⟩) ?_
   rotate_left
   ·intro wx hSw;(try dsimp only at hSw);go_simp
    all_goals with_reducible rfl
   try simp only [Act.put,List.setIfInBounds_toArray,List.set_cons_zero,List.set_cons_succ]
   refine Goes.take 5 (v:=?_) rfl (by kernel_rfl) (by kernel_rfl) (by kernel_rfl) (by kernel_rfl) (fun _ _ _ h=>h) HFd.out (Or.inl ⟨by rfl,?_⟩) ?_
   rotate_left
   ·intro wx hSw;(try dsimp only at hSw);go_simp
    all_goals with_reducible rfl
   try simp only [Act.put,List.setIfInBounds_toArray,List.set_cons_zero,List.set_cons_succ]
   refine Goes.two 0 6 (by kernel_rfl) rfl rfl (fun K hK=>?_) (fun K hK=>?_)
   ·go_simp
    refine hK.out _ _ (HFF.out _ ((Keeps.refl [] w10).alloc _).drew) (fun hHeld=>?_);clear hK K
    try simp only [Act.put,List.setIfInBounds_toArray,List.set_cons_zero,List.set_cons_succ]
    refine Goes.two 3 6 (by kernel_rfl) rfl rfl (fun K hK=>?_) (fun K hK=>?_)
    ·refine app_first elemI64s rawE_kept LA.out HG10.out HBN.out ?_;intro ao7 cap7 w7' T7 h7;have H7:=Lib.hid h7;clear h7;refine hK.out _ _ (HFF.out _ H7.out.1) (fun hHeld=>?_);clear hK K
     try simp only [Act.put,List.setIfInBounds_toArray,List.set_cons_zero,List.set_cons_succ]
     refine Goes.one 6 (by kernel_rfl) rfl (fun K hK=>?_)
     go_simp
     refine hK.out _ _ (HFF.out _ (H7.out.1.alloc _)) (fun hHeld=>?_);clear hK K
     try simp only [Act.put,List.setIfInBounds_toArray,List.set_cons_zero,List.set_cons_succ]
     refine Goes.one 7 (by kernel_rfl) rfl (fun K hK=>?_);refine app_next elemI64s rawE_kept H7.out HEE.out rfl HONE.out HBN1.out ?_;intro ao9 cap9 w9' T9 h9;have H9:=Lib.hid h9;obtain ⟨j1,j2,j3⟩:=HFR.out w9' h9.1;clear h9;refine hK.out _ _ (HFF.out _ H9.out.1) (fun hHeld=>?_);clear hK K
     try simp only [Act.put,List.setIfInBounds_toArray,List.set_cons_zero,List.set_cons_succ]
     refine Goes.one 8 (by kernel_rfl) rfl (fun K hK=>?_)
     go_simp
     refine hK.out _ _ (HFF.out _ H9.out.1) (fun hHeld=>?_);clear hK K
     try simp only [Act.put,List.setIfInBounds_toArray,List.set_cons_zero,List.set_cons_succ]
     refine Goes.last (by kernel_rfl) (by kernel_rfl) rfl (fun K hK=>?_)
     go_simp
     refine hK.out _ _ ?_;clear hK K
     try simp only [Act.put,List.setIfInBounds_toArray,List.set_cons_zero,List.set_cons_succ]
     go_wp2_with fail
     go_meet
     exact fib_of Hw10.out H9.out HSB10.out HC10.out HZ6.out HZ8.out (fun x hx=>by have:=HU2.out;have:=HZ8.out;simp at hx;first | exact .inl (HU2.out x hx) | (rcases hx with h | h;(exact .inl (HU2.out x h));(exact .inr (by omega)))) HSL.out HSW.out HB10.out HSC.out HCW8.out
    ·go_simp
     refine hK.out _ _ (HFF.out _ (((Keeps.refl [] w10).alloc _).alloc _).drew) (fun hHeld=>?_);clear hK K
     try simp only [Act.put,List.setIfInBounds_toArray,List.set_cons_zero,List.set_cons_succ]
     refine Goes.one 3 (by kernel_rfl) rfl (fun K hK=>?_);refine app_first2 elemI64s rawE_kept LB.out.1 LB.out.2 HG10.out HEE.out rfl HONE.out HBN.out ?_;intro ao7 cap7 w7' T7 h7;have H7:=Lib.hid h7;clear h7;refine hK.out _ _ (HFF.out _ H7.out.1.1) (fun hHeld=>?_);clear hK K
     try simp only [Act.put,List.setIfInBounds_toArray,List.set_cons_zero,List.set_cons_succ]
     refine Goes.one 7 (by kernel_rfl) rfl (fun K hK=>?_);refine app_next2 elemI64s rawE_kept H7.out HBN1.out ?_;intro ao9 cap9 w9' T9 h9;have H9:=Lib.hid h9;obtain ⟨j1,j2,j3⟩:=HFR.out w9' h9.1;clear h9;refine hK.out _ _ (HFF.out _ H9.out.1) (fun hHeld=>?_);clear hK K
     try simp only [Act.put,List.setIfInBounds_toArray,List.set_cons_zero,List.set_cons_succ]
     refine Goes.one 8 (by kernel_rfl) rfl (fun K hK=>?_)
     go_simp
     refine hK.out _ _ (HFF.out _ H9.out.1) (fun hHeld=>?_);clear hK K
     try simp only [Act.put,List.setIfInBounds_toArray,List.set_cons_zero,List.set_cons_succ]
     refine Goes.last (by kernel_rfl) (by kernel_rfl) rfl (fun K hK=>?_)
     go_simp
     refine hK.out _ _ ?_;clear hK K
     try simp only [Act.put,List.setIfInBounds_toArray,List.set_cons_zero,List.set_cons_succ]
     go_wp2_with fail
     go_meet
     exact fib_of Hw10.out H9.out HSB10.out HC10.out HZ6.out HZ8.out (fun x hx=>by have:=HU2.out;have:=HZ8.out;simp at hx;first | exact .inl (HU2.out x hx) | (rcases hx with h | h;(exact .inl (HU2.out x h));(exact .inr (by omega)))) HSL.out HSW.out HB10.out HSC.out HCW8.out
   ·go_simp
    refine hK.out _ _ (HFF.out _ ((Keeps.refl [] w10).alloc _).drew) (fun hHeld=>?_);clear hK K
    try simp only [Act.put,List.setIfInBounds_toArray,List.set_cons_zero,List.set_cons_succ]
    refine Goes.one 0 (by kernel_rfl) rfl (fun K hK=>?_)
    go_simp
    refine hK.out _ _ (HFF.out _ (((Keeps.refl [] w10).alloc _).alloc _).drew) (fun hHeld=>?_);clear hK K
    try simp only [Act.put,List.setIfInBounds_toArray,List.set_cons_zero,List.set_cons_succ]
    refine Goes.one 3 (by kernel_rfl) rfl (fun K hK=>?_);refine app_first2 elemI64s rawE_kept LC.out.1 LC.out.2 HG10.out HEE.out rfl HONE.out HBN.out ?_;intro ao7 cap7 w7' T7 h7;have H7:=Lib.hid h7;clear h7;refine hK.out _ _ (HFF.out _ H7.out.1.1) (fun hHeld=>?_);clear hK K
    try simp only [Act.put,List.setIfInBounds_toArray,List.set_cons_zero,List.set_cons_succ]
    refine Goes.one 7 (by kernel_rfl) rfl (fun K hK=>?_);refine app_next2 elemI64s rawE_kept H7.out HBN1.out ?_;intro ao9 cap9 w9' T9 h9;have H9:=Lib.hid h9;obtain ⟨j1,j2,j3⟩:=HFR.out w9' h9.1;clear h9;refine hK.out _ _ (HFF.out _ H9.out.1) (fun hHeld=>?_);clear hK K
    try simp only [Act.put,List.setIfInBounds_toArray,List.set_cons_zero,List.set_cons_succ]
    refine Goes.one 8 (by kernel_rfl) rfl (fun K hK=>?_)
    go_simp
    refine hK.out _ _ (HFF.out _ H9.out.1) (fun hHeld=>?_);clear hK K
    try simp only [Act.put,List.setIfInBounds_toArray,List.set_cons_zero,List.set_cons_succ]
    refine Goes.last (by kernel_rfl) (by kernel_rfl) rfl (fun K hK=>?_)
    go_simp
    refine hK.out _ _ ?_;clear hK K
    try simp only [Act.put,List.setIfInBounds_toArray,List.set_cons_zero,List.set_cons_succ]
    go_wp2_with fail
    go_meet
    exact fib_of Hw10.out H9.out HSB10.out HC10.out HZ6.out HZ8.out (fun x hx=>by have:=HU2.out;have:=HZ8.out;simp at hx;first | exact .inl (HU2.out x hx) | (rcases hx with h | h;(exact .inl (HU2.out x h));(exact .inr (by omega)))) HSL.out HSW.out HB10.out HSC.out HCW8.out
  case rest =>
   obtain ⟨v9,T9,hfu,hs9,hc9,hg9,ht9⟩:=hcut;obtain ⟨a9,c9,rfl⟩:=hg9.shape;rw [List.length_append,List.length_singleton] at hc9 hg9;have HW:=Lib.hid hfu;have HSW9:=Lib.hid hs9;have HCW:=Lib.hid hc9;have HGW:=Lib.hid hg9;have HT9:=Lib.hid ht9;clear hfu hs9 hc9 hg9 ht9;have hq0:w.heap.size < wc.heap.size:=HW.out.1.2.1.lt;have hq4:w.heap.size + 1 + 1 + 1 + 1 < wc.heap.size:=HW.out.1.2.2.2.2.2.lt;have HFF:Hid (∀ w',Keeps [] wc w'→w'.cell? ⟨w.heap.size,0,none⟩=some (.slice ac r.chans.length cc)∧w'.cell? ⟨w.heap.size,1,none⟩=some (.slice aw r.waits.length cw)∧w'.cell? ⟨w6.heap.size,1,none⟩=some (.int .i64 sch)∧w'.cell? ⟨w8.heap.size,0,none⟩=some (.int .i64 c.cap)∧w'.cell? ⟨w8.heap.size,1,none⟩=some (.slice a9 (c.buf.length + 1) c9)∧w'.cell? ⟨w8.heap.size,2,none⟩=some (.bool false)∧w'.cell? ⟨w.heap.size + 1 + 1 + 1 + 1,0,none⟩=some (.int .i64 1)∧w'.cell? ⟨w.heap.size + 1 + 1 + 1 + 1,1,none⟩=some (.int .i64 i)∧w'.cell? ⟨w.heap.size + 1 + 1 + 1 + 1,2,none⟩=some (.int .i64 0)∧w'.cell? ⟨w.heap.size + 1 + 1 + 1 + 1,3,none⟩=some (.bool true)∧w'.cell? ⟨w.heap.size + 1 + 1 + 1 + 1,4,none⟩=some (.int .i64 0)):=Lib.hid (fun w' k=>by
    have h:=HW.out.then k;have hc:=HCW.out.keep k (by simp);obtain ⟨q0,q1,q2,q3,q4⟩:=h.1.2.2.2.2.2.res.1;exact ⟨h.1.2.1.cell 0,h.1.2.1.cell 1,(HSW9.out.keep k (by simp)).cell 1,hc.cell 0,hc.cell 1,hc.cell 2,q0,q1,q2,q3,q4⟩)
   have HFT:Hid (∀ w',Keeps [w.heap.size + 1 + 1,w.heap.size + 1 + 1 + 1] wc w'→w'.cell? ⟨w.heap.size,0,none⟩=some (.slice ac r.chans.length cc)∧w'.cell? ⟨w.heap.size,1,none⟩=some (.slice aw r.waits.length cw)∧w'.cell? ⟨w6.heap.size,1,none⟩=some (.int .i64 sch)∧w'.cell? ⟨w8.heap.size,0,none⟩=some (.int .i64 c.cap)∧w'.cell? ⟨w8.heap.size,1,none⟩=some (.slice a9 (c.buf.length + 1) c9)∧w'.cell? ⟨w8.heap.size,2,none⟩=some (.bool false)∧w'.cell? ⟨w.heap.size + 1 + 1 + 1 + 1,0,none⟩=some (.int .i64 1)∧w'.cell? ⟨w.heap.size + 1 + 1 + 1 + 1,1,none⟩=some (.int .i64 i)∧w'.cell? ⟨w.heap.size + 1 + 1 + 1 + 1,2,none⟩=some (.int .i64 0)∧w'.cell? ⟨w.heap.size + 1 + 1 + 1 + 1,3,none⟩=some (.bool true)∧w'.cell? ⟨w.heap.size + 1 + 1 + 1 + 1,4,none⟩=some (.int .i64 0)):=Lib.hid (fun w' k=>by
    have hc:=HCW.out.keep k (by have:=HW.out.1.lt;have:=HZ8.out;exact mem2 (by omega) (by omega));obtain ⟨q0,q1,q2,q3,q4⟩:=(HW.out.1.2.2.2.2.2.keep k (mem2 (by omega) (by omega))).res.1;have hm:=HW.out.1.2.1.keep k (mem2 (by omega) (by omega));have h:=HW.out.1.2.2.1.keep k (mem2 (by omega) (by omega));exact ⟨hm.cell 0,hm.cell 1,(HSW9.out.keep k (by have:=HZ6.out;exact mem2 (by omega) (by omega))).cell 1,hc.cell 0,hc.cell 1,hc.cell 2,q0,q1,q2,q3,q4⟩)
   have HF0:=Lib.hid (HFF.out wc (Keeps.refl [] _));have KD:=Lib.hid ((Keeps.refl [] wc).drew);have HMd:=Lib.hid (HM.out.then (HW.out.1.1.then KD.out));have HGd:=Lib.hid (GV.then rawE_kept HGW.out KD.out);obtain ⟨l0,l1,l2,l3,l4,l5,l6,l7,l8,l9,l10⟩:=HF0.out
   go_upto_region 36 with fail
   go_region_held3 (fun w'=>w'.cell? ⟨w.heap.size,0,none⟩=some (.slice ac r.chans.length cc)∧w'.cell? ⟨w.heap.size,1,none⟩=some (.slice aw r.waits.length cw)∧w'.cell? ⟨w6.heap.size,1,none⟩=some (.int .i64 sch)∧w'.cell? ⟨w8.heap.size,0,none⟩=some (.int .i64 c.cap)∧w'.cell? ⟨w8.heap.size,1,none⟩=some (.slice a9 (c.buf.length + 1) c9)∧w'.cell? ⟨w8.heap.size,2,none⟩=some (.bool false)∧w'.cell? ⟨w.heap.size + 1 + 1 + 1 + 1,0,none⟩=some (.int .i64 1)∧w'.cell? ⟨w.heap.size + 1 + 1 + 1 + 1,1,none⟩=some (.int .i64 i)∧w'.cell? ⟨w.heap.size + 1 + 1 + 1 + 1,2,none⟩=some (.int .i64 0)∧w'.cell? ⟨w.heap.size + 1 + 1 + 1 + 1,3,none⟩=some (.bool true)∧w'.cell? ⟨w.heap.size + 1 + 1 + 1 + 1,4,none⟩=some (.int .i64 0))
    (first | (with_reducible exact HF0.out) | (with_reducible exact F8.out) | (with_reducible exact F8a.out _ _) | (with_reducible exact F8b.out _ _ _ _ _ _ _) | go_keep)
    (first
     | (go_at_call 79;(with_reducible refine (ref20_with_at _ _ _ _ r S k _ _ _ _ T9 gi HMd.out HKL.out HCK.out HGd.out HN1.out HN.out).mono ?_);rintro e w8 ⟨v8,rfl,hm8⟩;have HM8:=Lib.hid hm8;obtain ⟨vc8,vw8,S8,rfl,hm8,k8,hcl8⟩:=hm8;clear hcl8;obtain ⟨ac8,cc8,rfl⟩:=hm8.1.shape;obtain ⟨aw8,cw8,rfl⟩:=hm8.2.shape;have K8:=Lib.hid (KD.out.then k8);have H8:=Lib.hid (HW.out.then K8.out);have F8:=Lib.hid (HFF.out w8 K8.out);have F8a:=Lib.hid (fun u0 u1=>HFT.out _ (kcA (x0:=0) (x1:=1) (u0:=u0) (u1:=u1) K8.out));have F8b:=Lib.hid (fun u0 u1 v0 v1 v2 v3 v4=>HFT.out _ (kcB (x0:=0) (x1:=1) (y0:=0) (y1:=1) (y2:=2) (y3:=3) (y4:=4) (u0:=u0) (u1:=u1) (v0:=v0) (v1:=v1) (v2:=v2) (v3:=v3) (v4:=v4) K8.out));clear hm8 k8;have N8:=Lib.hid (show Blk w8 _ [.slice none 0 0,.slice none 0 0] _ from H8.out.1.2.2.2.1);have Z8:=Lib.hid (show Blk w8 _ z5 _ from H8.out.1.2.2.2.2.1);have n0:=N8.out.cell 0;have n1:=N8.out.cell 1;have f0:=N8.out.free 0;have f1:=N8.out.free 1;obtain ⟨⟨z0,z1,z2,z3,z4⟩,hzz⟩:=(show Blk _ _ (resL Md.noRes) _ from Z8.out).res;clear hzz;have y0:=Z8.out.free 0;have y1:=Z8.out.free 1;have y2:=Z8.out.free 2;have y3:=Z8.out.free 3;have y4:=Z8.out.free 4;simp only [List.getElem?_cons_zero,List.getElem?_cons_succ,Md.noRes] at n0 n1 z0 z1 z2 z3 z4)
     | fail)
   all_goals
    have HX8:=Lib.hid (H8.out)
    go_wp2_with fail
    refine bodyPost_ret (v:=.tuple #[.agg #[.slice ac8 (r.chans.set k ⟨c.cap,c.buf ++ [sv'],false⟩).length cc8,.slice aw8 (keepsG gi r.waits).length cw8],.agg #[.int .i64 1,.int .i64 i,.int .i64 0,.bool true,.int .i64 0],.bool true]) (by simp [results,Try.results67,go_sem, *]) rfl ?_;exact fire_with (rr:=⟨1,i,0,true,0⟩) HE.out HR.out (HW.out.then KD.out) HM8.out (fun x hx=>by rcases hx with hx | hx;(exact .inl ⟨HSL.out x hx,HRR.out x hx⟩);(rcases HT9.out x hx with hx | hx;(exact .inl ⟨HSL.out x hx,HRR.out x hx⟩);(exact .inr hx))) ((kc7 (by simp) (by simp) (by simp) (by simp) (by simp) (by simp) (by simp)))
open Go.RowKit
theorem ref20_fire (w:World) (vc vw va:Value) (st:Md.St) (r:Mr.St) (S:List Nat) (gi:Int) (o:Pn.Op) (UA:List Nat) (i:Int) (h:MR w vc vw r S) (hr:Mr.Rel st r) (ha:GV caseE 3 w va o.cases UA) (hn:r.waits.length≤100000) (hn1:r.chans.length≤100000) (hn2:∀ c∈r.chans,c.buf.length≤100000) (R:Nat→Prop) (hR:∀ x∈S,R x) :
  Calls Try.prog 67 #[.agg #[vc,vw],.int .i64 gi,.agg (opV o va),.int .i64 i] w (RFirePost w (Md.fire st gi o i) r.waits.length R):=by
 by_cases h1:o.kind=1
 ·exact ref20_fire_make w vc vw va st r S gi o UA i h hr ha hn hn1 hn2 R hR h1
 by_cases h7:o.kind=7
 ·exact ref20_fire_len w vc vw va st r S gi o UA i h hr ha hn hn1 hn2 R hR h7
 by_cases h8:o.kind=8
 ·exact ref20_fire_cap w vc vw va st r S gi o UA i h hr ha hn hn1 hn2 R hR h8
 by_cases h6:o.kind=6
 ·exact ref20_fire_close w vc vw va st r S gi o UA i h hr ha hn hn1 hn2 R hR h6
 have hk:¬ o.kind=1∧¬ (o.kind=7∨o.kind=8)∧¬ o.kind=6:=⟨h1,by omega,h6⟩
 cases hs:Md.side o i with
 | none=>exact ref20_fire_noside w vc vw va st r S gi o UA i h hr ha hn hn1 hn2 R hR hk hs
 | some s =>
  obtain ⟨sch,sb,sv⟩:=s
  cases hc:Md.chan r.chans sch with
  | none=>exact ref20_fire_nochan w vc vw va st r S gi o UA i h hr ha hn hn1 hn2 R hR hk sb sch sv hs hc
  | some c =>
   cases sb with
   | false=>exact ref20_fire_recv w vc vw va st r S gi o UA i h hr ha hn hn1 hn2 R hR hk sch sv c hs hc
   | true =>
    by_cases hp:c.closed=false∧decide ((c.buf.length:Int) < c.cap)=true
    ·exact ref20_fire_put w vc vw va st r S gi o UA i h hr ha hn hn1 hn2 R hR hk sch sv c hs hc hp.1 hp.2
    ·refine ref20_fire_sendno w vc vw va st r S gi o UA i h hr ha hn hn1 hn2 R hR hk sch sv c hs hc (fun h0=>?_)
     cases hb:decide ((c.buf.length:Int) < c.cap) with
     | true=>exact absurd ⟨h0,hb⟩ hp
     | false=>rfl
end Go.Proofs.Ytdibmkjoaghafaa
