/-
  What the laws need, part Q20.
  Conditions: none.
-/
import Derived.Test.YtdibmkjoaghafaaQ18
set_option linter.unusedVariables false
set_option linter.unusedSimpArgs false
set_option linter.unnecessarySimpa false
set_option maxHeartbeats 2000000
namespace Go.Proofs.Ytdibmkjoaghafaa
open Go.RowKit
set_option maxRecDepth 100000 in
set_option maxHeartbeats 6400000 in
theorem ref20_fire_close (w:World) (vc vw va:Value) (st:Md.St) (r:Mr.St) (S:List Nat) (gi:Int) (o:Pn.Op) (UA:List Nat) (i:Int) (h:MR w vc vw r S) (hr:Mr.Rel st r) (ha:GV caseE 3 w va o.cases UA) (hn:r.waits.length≤100000) (hn1:r.chans.length≤100000) (hn2:∀ c∈r.chans,c.buf.length≤100000) (R:Nat→Prop) (hR:∀ x∈S,R x) (hk:o.kind=6) :
  Calls Try.prog 67 #[.agg #[vc,vw],.int .i64 gi,.agg (opV o va),.int .i64 i] w (RFirePost w (Md.fire st gi o i) r.waits.length R):=by
 obtain ⟨D,hD⟩:∃ D,Md.fire st gi o i=D:=⟨_,rfl⟩
 rw [hD];have HD:=Lib.hid hD;have HM:=Lib.hid h;have HR:=Lib.hid hr;have HRR:=Lib.hid hR;have HN:=Lib.hid hn;have HN1:=Lib.hid hn1;have HN2:=Lib.hid hn2;have HA:=Lib.hid ha;have HSL:=Lib.hid h.lt;have hle:=h.1.le;have hal:=ha.le;unfold maxLen at hle hal;obtain ⟨ac,cc,rfl⟩:=h.1.shape;obtain ⟨aw,cw,rfl⟩:=h.2.shape;obtain ⟨aa,ca,rfl⟩:=ha.shape;obtain ⟨w0,hw0⟩:∃ w0,((((w.alloc (.cells #[.slice ac r.chans.length cc,.slice aw r.waits.length cw] 35)).alloc (.cells (opV o (.slice aa o.cases.length ca)) 28)).alloc (.cells #[.slice none 0 0,.slice none 0 0] 35)).alloc (.cells #[.int .i64 0,.int .i64 0,.int .i64 0,.bool false,.int .i64 0] 50)).alloc (.cells #[.int .i64 1,.int .i64 (-1),.int .i64 0,.bool true,.int .i64 0] 50)=w0:=⟨_,rfl⟩
 have HB0:Hid (FiA w (.slice ac r.chans.length cc) (.slice aw r.waits.length cw) (.slice aa o.cases.length ca) o ⟨1,-1,0,true,0⟩ w0):=Lib.hid (by
  subst hw0;exact ⟨(((((Keeps.refl [] w).alloc _).alloc _).alloc _).alloc _).alloc _,((((Blk.fresh w [.slice ac r.chans.length cc,.slice aw r.waits.length cw] _ _ rfl).alloc _).alloc _).alloc _).alloc _,(((Blk.fresh _ (opL o (.slice aa o.cases.length ca)) _ _ (by simp)).alloc _).alloc _).alloc _,((Blk.fresh _ [.slice none 0 0,.slice none 0 0] _ _ (by simp)).alloc _).alloc _,(Blk.fresh _ z5 _ _ (by simp)).alloc _,Blk.fresh _ (resL ⟨1,-1,0,true,0⟩) _ _ (by simp)⟩)
 have t1:(o.kind == 1)=false:=by simp [hk]
 have t7:(o.kind == 7)=false:=by simp [hk]
 have t8k:(o.kind == 8)=false:=by simp [hk]
 have t6:(o.kind == 6)=true:=by simp [hk]
 have HK:Hid (o.kind=6):=Lib.hid hk;clear hk;clear h hr ha hn hn1 hn2 hD hR;unfold opV at hw0;have HW0:=Lib.hid hw0;clear hw0;unfold opV
 go_enter Try.func67,Try.ntmps67
 go_upto_region 2 with fail
 rw [HW0.out];clear HW0;have hz:=HB0.out.lt;have HZ:=Lib.hid hz;have hq0:w.heap.size < w0.heap.size:=by omega
 have m0:w0.cell? ⟨w.heap.size,0,none⟩=some (.slice ac r.chans.length cc):=HB0.out.2.1.cell 0;have m1:w0.cell? ⟨w.heap.size,1,none⟩=some (.slice aw r.waits.length cw):=HB0.out.2.1.cell 1;have HWd:Hid (GV wtE 7 w0.drew (.slice aw r.waits.length cw) r.waits S):=Lib.hid ((HM.out.then HB0.out.1).2.then wtE_kept (Keeps.refl [] w0).drew);have HWe:Hid (GV wtE 7 (w0.alloc (.cells #[.slice none 0 0,.slice none 0 0] 35)).drew (.slice aw r.waits.length cw) r.waits S):=Lib.hid ((HM.out.then HB0.out.1).2.then wtE_kept (((Keeps.refl [] w0).alloc _).drew));have HQd:Hid (∀ wA SA vA,Keeps [] w0.drew wA→GV wtE 7 wA vA (keepsG gi r.waits) SA→(∀ x∈SA,x∈S∨w0.drew.heap.size≤x)→FiS w (.slice ac r.chans.length cc) (.slice aw r.waits.length cw) (.slice aa o.cases.length ca) o S (keepsG gi r.waits) (.pointer (some ⟨wA.heap.size,0,none⟩)) (wA.alloc (.cells #[.slice ac r.chans.length cc,vA] 35))):=Lib.hid (by
  intro wA SA vA kA gA sA;have kk:Keeps [] w0 (wA.alloc (.cells #[.slice ac r.chans.length cc,vA] 35)):=(((Keeps.refl [] w0).drew).then kA).alloc _;have hzA:=kA.size;have e:w0.drew.heap.size=w0.heap.size:=rfl;refine ⟨wA.heap.size,vA,SA,rfl,HB0.out.then kk,by have:=HZ.out;omega,Blk.fresh wA [.slice ac r.chans.length cc,vA] _ _ rfl,gA.then wtE_kept ((Keeps.refl [] wA).alloc _),fun x hx=>?_⟩;have hl:=gA.lt x hx;rcases sA x hx with h | h
  ·exact .inl h
  ·exact .inr ⟨by have:=HZ.out;omega,by omega⟩)
 have HQe:Hid (∀ wA SA vA,Keeps [] (w0.alloc (.cells #[.slice none 0 0,.slice none 0 0] 35)).drew wA→GV wtE 7 wA vA (keepsG gi r.waits) SA→(∀ x∈SA,x∈S∨(w0.alloc (.cells #[.slice none 0 0,.slice none 0 0] 35)).drew.heap.size≤x)→FiS w (.slice ac r.chans.length cc) (.slice aw r.waits.length cw) (.slice aa o.cases.length ca) o S (keepsG gi r.waits) (.pointer (some ⟨w0.heap.size,0,none⟩)) ((wA.setCell ⟨w0.heap.size,0,none⟩ (.slice ac r.chans.length cc)).setCell ⟨w0.heap.size,1,none⟩ vA)):=Lib.hid (by
  intro wA SA vA kA gA sA;have hb:Blk wA w0.heap.size [.slice none 0 0,.slice none 0 0] 35:=((Blk.fresh w0 [.slice none 0 0,.slice none 0 0] _ _ rfl).drew).keep kA (by simp);have kf:Keeps [w0.heap.size] wA ((wA.setCell ⟨w0.heap.size,0,none⟩ (.slice ac r.chans.length cc)).setCell ⟨w0.heap.size,1,none⟩ vA):=((Keeps.refl _ wA).setCell (by simp) _).setCell (by simp) _;have kk:Keeps [w0.heap.size] w0 ((wA.setCell ⟨w0.heap.size,0,none⟩ (.slice ac r.chans.length cc)).setCell ⟨w0.heap.size,1,none⟩ vA):=((((Keeps.refl [] w0).alloc _).drew).then kA).trans kf (fun x hx=>.inr (by simp at hx;omega)) |>.mono (by simp);have hS:∀ x∈SA,x∈S∨(w.heap.size + 5≤x∧x≠w0.heap.size):=fun x hx=>by
   rcases sA x hx with h | h
   ·exact .inl h
   ·exact .inr ⟨by have:=HZ.out;simp at h;omega,by simp at h;omega⟩
  refine ⟨w0.heap.size,vA,SA,rfl,HB0.out.keep kk (fun x hx=>by simp at hx;have:=HZ.out;omega),HZ.out,(hb.set 0 (.slice ac r.chans.length cc)).set 1 vA,gA.keep wtE_kept kf (fun x hx hm=>?_),hS⟩;simp only [List.mem_singleton] at hm;subst hm;rcases hS _ hx with h | h
  ·have:=HSL.out _ h;have:=HZ.out;omega
  ·exact h.2 rfl)
 have nb:∀ wA:World,Keeps [] (w0.alloc (.cells #[.slice none 0 0,.slice none 0 0] 35)).drew wA→Blk wA w0.heap.size [.slice none 0 0,.slice none 0 0] 35:=fun wA kA=>((Blk.fresh w0 [.slice none 0 0,.slice none 0 0] _ _ rfl).drew).keep kA (by simp)
 have NB:=Lib.hid nb;have ma:∀ wA:World,Keeps [] w0.drew wA→wA.cell? ⟨w.heap.size,0,none⟩=some (.slice ac r.chans.length cc)∧wA.cell? ⟨w.heap.size,1,none⟩=some (.slice aw r.waits.length cw):=fun wA kA=>⟨(HB0.out.2.1.drew.keep kA (by simp)).cell 0,(HB0.out.2.1.drew.keep kA (by simp)).cell 1⟩
 have MA:=Lib.hid ma;have mb:∀ wA:World,Keeps [] (w0.alloc (.cells #[.slice none 0 0,.slice none 0 0] 35)).drew wA→wA.cell? ⟨w.heap.size,0,none⟩=some (.slice ac r.chans.length cc)∧wA.cell? ⟨w.heap.size,1,none⟩=some (.slice aw r.waits.length cw):=fun wA kA=>⟨(((HB0.out.2.1.alloc _).drew).keep kA (by simp)).cell 0,(((HB0.out.2.1.alloc _).drew).keep kA (by simp)).cell 1⟩
 have MB:=Lib.hid mb;clear hz nb ma mb
 go_cut [12] (FiS w (.slice ac r.chans.length cc) (.slice aw r.waits.length cw) (.slice aa o.cases.length ca) o S (keepsG gi r.waits))
 case first =>
  go_region_held3 (fun w'=>w'.cell? ⟨w.heap.size,0,none⟩=some (.slice ac r.chans.length cc)∧w'.cell? ⟨w.heap.size,1,none⟩=some (.slice aw r.waits.length cw))
   (first | (with_reducible exact ⟨m0,m1⟩) | (with_reducible exact MM.out) | (with_reducible exact HF.out.s2) | go_keep)
   (first
    | (go_at_call 69;(with_reducible refine (ref20_without _ _ r.waits S gi HWd.out HN.out).mono ?_);rintro e wA ⟨vA,SA,rfl,gA,kA,sA⟩;obtain ⟨aA,cA,rfl⟩:=gA.shape;have MM:=Lib.hid (MA.out wA kA);have HF:=Lib.hid (HQd.out wA SA _ kA gA sA);clear gA kA sA)
    | (go_at_call 69;(with_reducible refine (ref20_without _ _ r.waits S gi HWe.out HN.out).mono ?_);rintro e wA ⟨vA,SA,rfl,gA,kA,sA⟩;obtain ⟨aA,cA,rfl⟩:=gA.shape;have MM:=Lib.hid (MB.out wA kA);have HF:=Lib.hid (HQe.out wA SA _ kA gA sA);have n0:=(NB.out wA kA).cell 0;have n1:=(NB.out wA kA).cell 1;have f0:=(NB.out wA kA).free 0;have f1:=(NB.out wA kA).free 1;(simp only [List.getElem?_cons_zero,List.getElem?_cons_succ] at n0 n1);clear gA kA sA)
    | fail)
  all_goals
   go_wp2_with fail
   go_meet
   exact HF.out
 case rest =>
  obtain ⟨b,vs,SW,rfl,hfa,hb5,hbs,hgw,hsw⟩:=hcut;obtain ⟨sv,cv,rfl⟩:=hgw.shape;have HU:Hid (FiU w (.slice ac r.chans.length cc) (.slice aw r.waits.length cw) (.slice aa o.cases.length ca) o ⟨1,-1,0,true,0⟩ b (.slice ac r.chans.length cc) (.slice sv (keepsG gi r.waits).length cv) (keepsG gi r.waits) SW wc):=Lib.hid ⟨hfa,hbs,hgw⟩;have HB5:=Lib.hid hb5;have HSW:=Lib.hid hsw;have e2:¬ b=w.heap.size + 1 + 1:=by omega
  have e3:¬ b=w.heap.size + 1 + 1 + 1:=by omega
  have e4:¬ b=w.heap.size + 1 + 1 + 1 + 1:=by omega
  have e5:¬ w.heap.size + 1 + 1=b:=by omega
  have e6:¬ w.heap.size + 1 + 1 + 1=b:=by omega
  have e7:¬ w.heap.size + 1 + 1 + 1 + 1=b:=by omega
  clear hfa hb5 hbs hgw hsw m0 m1 hq0;have m0:=HU.out.1.2.1.cell 0;have m1:=HU.out.1.2.1.cell 1;obtain ⟨a0,a1,a2,a3,a4,a5⟩:=HU.out.1.2.2.1.op;have n0:=HU.out.1.2.2.2.1.cell 0;have n1:=HU.out.1.2.2.2.1.cell 1;have f0:=HU.out.1.2.2.2.1.free 0;have f1:=HU.out.1.2.2.2.1.free 1;obtain ⟨⟨z0,z1,z2,z3,z4⟩,hzz⟩:=(show Blk _ _ (resL Md.noRes) _ from HU.out.1.2.2.2.2.1).res;obtain ⟨⟨p0,p1,p2,p3,p4⟩,hpp⟩:=HU.out.1.2.2.2.2.2.res;clear hzz hpp;have s0:=HU.out.2.1.cell 0;have s1:=HU.out.2.1.cell 1;have fs:=HU.out.2.1.free 0;have y0:=HU.out.1.2.2.2.2.1.free 0;have y1:=HU.out.1.2.2.2.2.1.free 1;have y2:=HU.out.1.2.2.2.2.1.free 2;have y3:=HU.out.1.2.2.2.2.1.free 3;have y4:=HU.out.1.2.2.2.2.1.free 4;have x1:=HU.out.1.2.2.2.2.2.free 1;have x2:=HU.out.1.2.2.2.2.2.free 2;have x3:=HU.out.1.2.2.2.2.2.free 3;have x4:=HU.out.1.2.2.2.2.2.free 4;simp only [List.getElem?_cons_zero,List.getElem?_cons_succ,Md.noRes] at m0 m1 n0 n1 s0 s1 z0 z1 z2 z3 z4 p0 p1 p2 p3 p4
  go_wp2_with fail
  refine (ref20_made _ _ _ r S o.ch (HM.out.then HU.out.1.1)).mono ?_;obtain ⟨mc,hmc⟩:∃ mc,Md.chan r.chans o.ch=mc:=⟨_,rfl⟩
  rw [hmc];have HMC:=Lib.hid hmc;clear hmc
  rintro e w5 ⟨rfl,k5⟩
  have HV:=Lib.hid (HU.out.then k5);clear k5 m0 m1 a0 a1 a2 a3 a4 a5 n0 n1 f0 f1 z0 z1 z2 z3 z4 p0 p1 p2 p3 p4 s0 s1 fs y0 y1 y2 y3 y4 x1 x2 x3 x4;have m0:=HV.out.1.2.1.cell 0;have m1:=HV.out.1.2.1.cell 1;obtain ⟨a0,a1,a2,a3,a4,a5⟩:=HV.out.1.2.2.1.op;have n0:=HV.out.1.2.2.2.1.cell 0;have n1:=HV.out.1.2.2.2.1.cell 1;have f0:=HV.out.1.2.2.2.1.free 0;have f1:=HV.out.1.2.2.2.1.free 1;obtain ⟨⟨z0,z1,z2,z3,z4⟩,hzz⟩:=(show Blk _ _ (resL Md.noRes) _ from HV.out.1.2.2.2.2.1).res;obtain ⟨⟨p0,p1,p2,p3,p4⟩,hpp⟩:=HV.out.1.2.2.2.2.2.res;clear hzz hpp;have s0:=HV.out.2.1.cell 0;have s1:=HV.out.2.1.cell 1;have fs:=HV.out.2.1.free 0;have y0:=HV.out.1.2.2.2.2.1.free 0;have y1:=HV.out.1.2.2.2.2.1.free 1;have y2:=HV.out.1.2.2.2.2.1.free 2;have y3:=HV.out.1.2.2.2.2.1.free 3;have y4:=HV.out.1.2.2.2.2.1.free 4;have x1:=HV.out.1.2.2.2.2.2.free 1;have x2:=HV.out.1.2.2.2.2.2.free 2;have x3:=HV.out.1.2.2.2.2.2.free 3;have x4:=HV.out.1.2.2.2.2.2.free 4;simp only [List.getElem?_cons_zero,List.getElem?_cons_succ,Md.noRes] at m0 m1 n0 n1 s0 s1 z0 z1 z2 z3 z4 p0 p1 p2 p3 p4
  go_upto_region 5 with fail
  cases mc with
  | none =>
   have HE:Hid (D=(⟨st.chans,Md.drops st.waits gi⟩,some ⟨5,-1,0,false,0⟩)):=Lib.hid (by have h8:Md.chan st.chans o.ch=none:=(by rw [HR.out.1];exact HMC.out);rw [← HD.out];unfold Md.fire Md.fires Md.closes;rw [if_neg (by rw [HK.out];decide),if_neg (by rw [HK.out];decide),if_pos HK.out,h8]);simp only [Option.isSome_none]
   go_wp2_with fail
   refine bodyPost_ret (v:=.tuple #[.agg #[.slice ac r.chans.length cc,.slice sv (keepsG gi r.waits).length cv],.agg #[.int .i64 5,.int .i64 (-1),.int .i64 0,.bool false,.int .i64 0],.bool true]) (by simp [results,Try.results67,go_sem, *]) rfl ?_;exact fire_still (rr:=⟨5,-1,0,false,0⟩) HE.out HM.out HR.out HRR.out HV.out HSW.out (kc7 (by simp) (by simp) (by simp) (by simp) (by simp) (by simp) (by simp))
  | some c =>
   obtain ⟨k,hck,hkl,hx⟩:=Md.chan_at HMC.out;obtain ⟨g,off,ab,cb,U2,hac,hg,⟨c0,c1,c2⟩,hgv,hU2⟩:=GV.ch (HM.out.then HV.out.1.1).1 hx;have hbl:=hgv.le;unfold maxLen at hbl;have i0:(0:Int)≤o.ch - 1:=by omega
   have i1:o.ch - 1 < (r.chans.length:Int):=by omega
   have i2:(o.ch - 1).toNat=k:=by omega
   have mr:=m0;rw [hac] at mr;have HCK:=Lib.hid hck;have HKL:=Lib.hid hkl;have HX:=Lib.hid hx;have HGV:=Lib.hid hgv;have HU2:=Lib.hid hU2;clear hck hkl hx hgv hU2 hac m0;simp only [Option.isSome_some];obtain ⟨w6,hw6⟩:∃ w6,w5.alloc (.cells #[.int .i64 c.cap,.slice ab c.buf.length cb,.bool c.closed] 45)=w6:=⟨_,rfl⟩
   have Hw6:=Lib.hid (HV.out.then (hw6 ▸ (Keeps.refl [] w5).alloc _:Keeps [] w5 w6));have HCw6:Hid (Blk w6 w5.heap.size [.int .i64 c.cap,.slice ab c.buf.length cb,.bool c.closed] 45):=Lib.hid (hw6 ▸ Blk.fresh w5 [.int .i64 c.cap,.slice ab c.buf.length cb,.bool c.closed] _ _ rfl)
   go_upto_region 23 with fail
   have HW6:=Lib.hid hw6;clear hw6 mr c0 c1 c2 m1 a0 a1 a2 a3 a4 a5 n0 n1 f0 f1 z0 z1 z2 z3 z4 p0 p1 p2 p3 p4 s0 s1 fs y0 y1 y2 y3 y4 x1 x2 x3 x4
   cases b0:c.closed with
   | true =>
    have HE:Hid (D=(⟨st.chans,Md.drops st.waits gi⟩,some ⟨4,-1,0,false,0⟩)):=Lib.hid (by have h8:Md.chan st.chans o.ch=some c:=(by rw [HR.out.1];exact HMC.out);rw [← HD.out];unfold Md.fire Md.fires Md.closes;rw [if_neg (by rw [HK.out];decide),if_neg (by rw [HK.out];decide),if_pos HK.out,h8];simp only [b0,if_true]);rw [b0] at HW6 HCw6;clear b0;have m0:=Hw6.out.1.2.1.cell 0;have m1:=Hw6.out.1.2.1.cell 1;obtain ⟨a0,a1,a2,a3,a4,a5⟩:=Hw6.out.1.2.2.1.op;have n0:=Hw6.out.1.2.2.2.1.cell 0;have n1:=Hw6.out.1.2.2.2.1.cell 1;have f0:=Hw6.out.1.2.2.2.1.free 0;have f1:=Hw6.out.1.2.2.2.1.free 1;obtain ⟨⟨z0,z1,z2,z3,z4⟩,hzz⟩:=(show Blk _ _ (resL Md.noRes) _ from Hw6.out.1.2.2.2.2.1).res;obtain ⟨⟨p0,p1,p2,p3,p4⟩,hpp⟩:=Hw6.out.1.2.2.2.2.2.res;clear hzz hpp;have s0:=Hw6.out.2.1.cell 0;have s1:=Hw6.out.2.1.cell 1;have fs:=Hw6.out.2.1.free 0;have y0:=Hw6.out.1.2.2.2.2.1.free 0;have y1:=Hw6.out.1.2.2.2.2.1.free 1;have y2:=Hw6.out.1.2.2.2.2.1.free 2;have y3:=Hw6.out.1.2.2.2.2.1.free 3;have y4:=Hw6.out.1.2.2.2.2.1.free 4;have x1:=Hw6.out.1.2.2.2.2.2.free 1;have x2:=Hw6.out.1.2.2.2.2.2.free 2;have x3:=Hw6.out.1.2.2.2.2.2.free 3;have x4:=Hw6.out.1.2.2.2.2.2.free 4;simp only [List.getElem?_cons_zero,List.getElem?_cons_succ,Md.noRes] at m0 m1 n0 n1 s0 s1 z0 z1 z2 z3 z4 p0 p1 p2 p3 p4;have d2:=HCw6.out.cell 2;simp only [List.getElem?_cons_zero,List.getElem?_cons_succ] at d2
    go_wp2_with fail
    refine bodyPost_ret (v:=.tuple #[.agg #[.slice ac r.chans.length cc,.slice sv (keepsG gi r.waits).length cv],.agg #[.int .i64 4,.int .i64 (-1),.int .i64 0,.bool false,.int .i64 0],.bool true]) (by simp [results,Try.results67,go_sem, *]) rfl ?_;exact fire_still (rr:=⟨4,-1,0,false,0⟩) HE.out HM.out HR.out HRR.out Hw6.out HSW.out (kc7 (by simp) (by simp) (by simp) (by simp) (by simp) (by simp) (by simp))
   | false =>
    have HE:Hid (D=(⟨r.chans.set k ⟨c.cap,c.buf,true⟩,Md.drops st.waits gi⟩,some ⟨1,-1,0,true,0⟩)):=Lib.hid (by have h8:Md.chan st.chans o.ch=some c:=(by rw [HR.out.1];exact HMC.out);rw [← HD.out];unfold Md.fire Md.fires Md.closes;rw [if_neg (by rw [HK.out];decide),if_neg (by rw [HK.out];decide),if_pos HK.out,h8];simp only [b0];rw [if_neg (by decide),put_at HCK.out,HR.out.1]);rw [b0] at HW6 HCw6;clear b0;obtain ⟨⟨d0,d1,d2⟩,⟨_,_,df2⟩⟩:=Blk.three HCw6.out
    go_upto_region 26 with fail
    obtain ⟨w7,hw7⟩:∃ w7,w6.setCell ⟨w5.heap.size,2,none⟩ (.bool true)=w7:=⟨_,rfl⟩
    rw [hw7];have K7:Hid (Keeps [w5.heap.size] w6 w7):=Lib.hid (hw7 ▸ (Keeps.refl _ w6).setCell (by simp) _);have HZ5:=Lib.hid HV.out.1.lt;have H7:=Lib.hid (Hw6.out.keep K7.out (fun x hx=>by simp at hx;subst hx;exact HZ5.out) (by have:=HV.out.2.1.lt;simp;omega) (fun x hx hm=>by simp at hm;subst hm;exact Nat.lt_irrefl _ (HV.out.2.2.lt _ hx)));have HC7:Hid (Blk w7 w5.heap.size [.int .i64 c.cap,.slice ab c.buf.length cb,.bool true] 45):=Lib.hid (hw7 ▸ HCw6.out.set 2 (.bool true));have HG7:=Lib.hid (HGV.out.keep rawE_kept (((Keeps.refl [w5.heap.size] w5).alloc (.cells #[.int .i64 c.cap,.slice ab c.buf.length cb,.bool false] 45)).trans (by rw [HW6.out];exact K7.out) (fun x hx=>.inl hx)) (fun x hx hm=>by simp at hm;subst hm;exact Nat.lt_irrefl _ (HGV.out.lt _ hx)));clear hw7 d0 d1 d2 df2;have hq0:w.heap.size < w7.heap.size:=H7.out.1.2.1.lt;have hq4:w.heap.size + 1 + 1 + 1 + 1 < w7.heap.size:=H7.out.1.2.2.2.2.2.lt;have HFF:Hid (∀ w',Keeps [] w7 w'→w'.cell? ⟨w.heap.size,0,none⟩=some (.slice ac r.chans.length cc)∧w'.cell? ⟨w.heap.size,1,none⟩=some (.slice aw r.waits.length cw)∧w'.cell? ⟨w.heap.size + 1,1,none⟩=some (.int .i64 o.ch)∧w'.cell? ⟨w5.heap.size,0,none⟩=some (.int .i64 c.cap)∧w'.cell? ⟨w5.heap.size,1,none⟩=some (.slice ab c.buf.length cb)∧w'.cell? ⟨w5.heap.size,2,none⟩=some (.bool true)∧w'.cell? ⟨w.heap.size + 1 + 1 + 1 + 1,0,none⟩=some (.int .i64 1)∧w'.cell? ⟨w.heap.size + 1 + 1 + 1 + 1,1,none⟩=some (.int .i64 (-1))∧w'.cell? ⟨w.heap.size + 1 + 1 + 1 + 1,2,none⟩=some (.int .i64 0)∧w'.cell? ⟨w.heap.size + 1 + 1 + 1 + 1,3,none⟩=some (.bool true)∧w'.cell? ⟨w.heap.size + 1 + 1 + 1 + 1,4,none⟩=some (.int .i64 0)):=Lib.hid (fun w' k=>by
     have h:=H7.out.then k;have hc:=HC7.out.keep k (by simp);obtain ⟨q0,q1,q2,q3,q4⟩:=h.1.2.2.2.2.2.res.1;exact ⟨h.1.2.1.cell 0,h.1.2.1.cell 1,h.1.2.2.1.op.2.1,hc.cell 0,hc.cell 1,hc.cell 2,q0,q1,q2,q3,q4⟩)
    have HFT:Hid (∀ w',Keeps [w.heap.size + 1 + 1,w.heap.size + 1 + 1 + 1] w7 w'→w'.cell? ⟨w.heap.size,0,none⟩=some (.slice ac r.chans.length cc)∧w'.cell? ⟨w.heap.size,1,none⟩=some (.slice aw r.waits.length cw)∧w'.cell? ⟨w.heap.size + 1,1,none⟩=some (.int .i64 o.ch)∧w'.cell? ⟨w5.heap.size,0,none⟩=some (.int .i64 c.cap)∧w'.cell? ⟨w5.heap.size,1,none⟩=some (.slice ab c.buf.length cb)∧w'.cell? ⟨w5.heap.size,2,none⟩=some (.bool true)∧w'.cell? ⟨w.heap.size + 1 + 1 + 1 + 1,0,none⟩=some (.int .i64 1)∧w'.cell? ⟨w.heap.size + 1 + 1 + 1 + 1,1,none⟩=some (.int .i64 (-1))∧w'.cell? ⟨w.heap.size + 1 + 1 + 1 + 1,2,none⟩=some (.int .i64 0)∧w'.cell? ⟨w.heap.size + 1 + 1 + 1 + 1,3,none⟩=some (.bool true)∧w'.cell? ⟨w.heap.size + 1 + 1 + 1 + 1,4,none⟩=some (.int .i64 0)):=Lib.hid (fun w' k=>by
     have hc:=HC7.out.keep k (by have:=H7.out.1.lt;have:=HZ5.out;exact mem2 (by omega) (by omega));obtain ⟨q0,q1,q2,q3,q4⟩:=(H7.out.1.2.2.2.2.2.keep k (mem2 (by omega) (by omega))).res.1;have hm:=H7.out.1.2.1.keep k (mem2 (by omega) (by omega));have h:=H7.out.1.2.2.1.keep k (mem2 (by omega) (by omega));exact ⟨hm.cell 0,hm.cell 1,h.op.2.1,hc.cell 0,hc.cell 1,hc.cell 2,q0,q1,q2,q3,q4⟩)
    have HF0:=Lib.hid (HFF.out w7 (Keeps.refl [] _));have KD:=Lib.hid ((Keeps.refl [] w7).drew);have HMd:=Lib.hid (HM.out.then (H7.out.1.1.then KD.out));have HGd:=Lib.hid (GV.then rawE_kept HG7.out KD.out);obtain ⟨l0,l1,l2,l3,l4,l5,l6,l7,l8,l9,l10⟩:=HF0.out
    go_upto_region 26 with fail
    go_region_held3 (fun w'=>w'.cell? ⟨w.heap.size,0,none⟩=some (.slice ac r.chans.length cc)∧w'.cell? ⟨w.heap.size,1,none⟩=some (.slice aw r.waits.length cw)∧w'.cell? ⟨w.heap.size + 1,1,none⟩=some (.int .i64 o.ch)∧w'.cell? ⟨w5.heap.size,0,none⟩=some (.int .i64 c.cap)∧w'.cell? ⟨w5.heap.size,1,none⟩=some (.slice ab c.buf.length cb)∧w'.cell? ⟨w5.heap.size,2,none⟩=some (.bool true)∧w'.cell? ⟨w.heap.size + 1 + 1 + 1 + 1,0,none⟩=some (.int .i64 1)∧w'.cell? ⟨w.heap.size + 1 + 1 + 1 + 1,1,none⟩=some (.int .i64 (-1))∧w'.cell? ⟨w.heap.size + 1 + 1 + 1 + 1,2,none⟩=some (.int .i64 0)∧w'.cell? ⟨w.heap.size + 1 + 1 + 1 + 1,3,none⟩=some (.bool true)∧w'.cell? ⟨w.heap.size + 1 + 1 + 1 + 1,4,none⟩=some (.int .i64 0))
     (first | (with_reducible exact HF0.out) | (with_reducible exact F8.out) | (with_reducible exact F8a.out _ _) | (with_reducible exact F8b.out _ _ _ _ _ _ _) | go_keep)
     (first
      | (go_at_call 79;(with_reducible refine (ref20_with_at _ _ _ _ r S k _ _ _ _ U2 gi HMd.out HKL.out HCK.out HGd.out HN1.out HN.out).mono ?_);rintro e w8 ⟨v8,rfl,hm8⟩;have HM8:=Lib.hid hm8;obtain ⟨vc8,vw8,S8,rfl,hm8,k8,hcl8⟩:=hm8;clear hcl8;obtain ⟨ac8,cc8,rfl⟩:=hm8.1.shape;obtain ⟨aw8,cw8,rfl⟩:=hm8.2.shape;have K8:=Lib.hid (KD.out.then k8);have H8:=Lib.hid (H7.out.then K8.out);have F8:=Lib.hid (HFF.out w8 K8.out);have F8a:=Lib.hid (fun u0 u1=>HFT.out _ (kcA (x0:=0) (x1:=1) (u0:=u0) (u1:=u1) K8.out));have F8b:=Lib.hid (fun u0 u1 v0 v1 v2 v3 v4=>HFT.out _ (kcB (x0:=0) (x1:=1) (y0:=0) (y1:=1) (y2:=2) (y3:=3) (y4:=4) (u0:=u0) (u1:=u1) (v0:=v0) (v1:=v1) (v2:=v2) (v3:=v3) (v4:=v4) K8.out));clear hm8 k8;have N8:=Lib.hid (show Blk w8 _ [.slice none 0 0,.slice none 0 0] _ from H8.out.1.2.2.2.1);have Z8:=Lib.hid (show Blk w8 _ z5 _ from H8.out.1.2.2.2.2.1);have n0:=N8.out.cell 0;have n1:=N8.out.cell 1;have f0:=N8.out.free 0;have f1:=N8.out.free 1;obtain ⟨⟨z0,z1,z2,z3,z4⟩,hzz⟩:=(show Blk _ _ (resL Md.noRes) _ from Z8.out).res;clear hzz;have y0:=Z8.out.free 0;have y1:=Z8.out.free 1;have y2:=Z8.out.free 2;have y3:=Z8.out.free 3;have y4:=Z8.out.free 4;simp only [List.getElem?_cons_zero,List.getElem?_cons_succ,Md.noRes] at n0 n1 z0 z1 z2 z3 z4)
      | fail)
    all_goals
     have HX8:=Lib.hid (H8.out)
     go_wp2_with fail
     refine bodyPost_ret (v:=.tuple #[.agg #[.slice ac8 (r.chans.set k ⟨c.cap,c.buf,true⟩).length cc8,.slice aw8 (keepsG gi r.waits).length cw8],.agg #[.int .i64 1,.int .i64 (-1),.int .i64 0,.bool true,.int .i64 0],.bool true]) (by simp [results,Try.results67,go_sem, *]) rfl ?_;exact fire_with (rr:=⟨1,-1,0,true,0⟩) HE.out HR.out (H7.out.then KD.out) HM8.out (fun x hx=>by rcases hx with hx | hx;(exact .inl ⟨HSL.out x hx,HRR.out x hx⟩);(exact .inl ⟨HSL.out x (HU2.out x hx),HRR.out x (HU2.out x hx)⟩)) ((kc7 (by simp) (by simp) (by simp) (by simp) (by simp) (by simp) (by simp)))
open Go.RowKit
set_option maxRecDepth 100000 in
set_option maxHeartbeats 6400000 in
theorem ref20_fire_noside (w:World) (vc vw va:Value) (st:Md.St) (r:Mr.St) (S:List Nat) (gi:Int) (o:Pn.Op) (UA:List Nat) (i:Int) (h:MR w vc vw r S) (hr:Mr.Rel st r) (ha:GV caseE 3 w va o.cases UA) (hn:r.waits.length≤100000) (hn1:r.chans.length≤100000) (hn2:∀ c∈r.chans,c.buf.length≤100000) (R:Nat→Prop) (hR:∀ x∈S,R x) (hk:¬ o.kind=1∧¬ (o.kind=7∨o.kind=8)∧¬ o.kind=6) (hs:Md.side o i=none) :
  Calls Try.prog 67 #[.agg #[vc,vw],.int .i64 gi,.agg (opV o va),.int .i64 i] w (RFirePost w (Md.fire st gi o i) r.waits.length R):=by
 obtain ⟨D,hD⟩:∃ D,Md.fire st gi o i=D:=⟨_,rfl⟩
 rw [hD];have HD:=Lib.hid hD;have HM:=Lib.hid h;have HR:=Lib.hid hr;have HRR:=Lib.hid hR;have HN:=Lib.hid hn;have HN1:=Lib.hid hn1;have HN2:=Lib.hid hn2;have HA:=Lib.hid ha;have HSL:=Lib.hid h.lt;have hle:=h.1.le;have hal:=ha.le;unfold maxLen at hle hal;obtain ⟨ac,cc,rfl⟩:=h.1.shape;obtain ⟨aw,cw,rfl⟩:=h.2.shape;obtain ⟨aa,ca,rfl⟩:=ha.shape;obtain ⟨w0,hw0⟩:∃ w0,((((w.alloc (.cells #[.slice ac r.chans.length cc,.slice aw r.waits.length cw] 35)).alloc (.cells (opV o (.slice aa o.cases.length ca)) 28)).alloc (.cells #[.slice none 0 0,.slice none 0 0] 35)).alloc (.cells #[.int .i64 0,.int .i64 0,.int .i64 0,.bool false,.int .i64 0] 50)).alloc (.cells #[.int .i64 1,.int .i64 (-1),.int .i64 0,.bool true,.int .i64 0] 50)=w0:=⟨_,rfl⟩
 have HB0:Hid (FiA w (.slice ac r.chans.length cc) (.slice aw r.waits.length cw) (.slice aa o.cases.length ca) o ⟨1,-1,0,true,0⟩ w0):=Lib.hid (by
  subst hw0;exact ⟨(((((Keeps.refl [] w).alloc _).alloc _).alloc _).alloc _).alloc _,((((Blk.fresh w [.slice ac r.chans.length cc,.slice aw r.waits.length cw] _ _ rfl).alloc _).alloc _).alloc _).alloc _,(((Blk.fresh _ (opL o (.slice aa o.cases.length ca)) _ _ (by simp)).alloc _).alloc _).alloc _,((Blk.fresh _ [.slice none 0 0,.slice none 0 0] _ _ (by simp)).alloc _).alloc _,(Blk.fresh _ z5 _ _ (by simp)).alloc _,Blk.fresh _ (resL ⟨1,-1,0,true,0⟩) _ _ (by simp)⟩)
 have t1:(o.kind == 1)=false:=by simp [hk.1]
 have t7:(o.kind == 7)=false:=by have:=hk.2.1;simp;omega
 have t8k:(o.kind == 8)=false:=by have:=hk.2.1;simp;omega
 have t6:(o.kind == 6)=false:=by simp [hk.2.2]
 have HK:Hid (¬ o.kind=1∧¬ (o.kind=7∨o.kind=8)∧¬ o.kind=6):=Lib.hid hk;clear hk;have HSI:=Lib.hid hs;clear hs;clear h hr ha hn hn1 hn2 hD hR;unfold opV at hw0;have HW0:=Lib.hid hw0;clear hw0;unfold opV
 go_enter Try.func67,Try.ntmps67
 go_upto_region 2 with fail
 rw [HW0.out];clear HW0;have hz:=HB0.out.lt;have HZ:=Lib.hid hz;have hq0:w.heap.size < w0.heap.size:=by omega
 have m0:w0.cell? ⟨w.heap.size,0,none⟩=some (.slice ac r.chans.length cc):=HB0.out.2.1.cell 0;have m1:w0.cell? ⟨w.heap.size,1,none⟩=some (.slice aw r.waits.length cw):=HB0.out.2.1.cell 1;have HWd:Hid (GV wtE 7 w0.drew (.slice aw r.waits.length cw) r.waits S):=Lib.hid ((HM.out.then HB0.out.1).2.then wtE_kept (Keeps.refl [] w0).drew);have HWe:Hid (GV wtE 7 (w0.alloc (.cells #[.slice none 0 0,.slice none 0 0] 35)).drew (.slice aw r.waits.length cw) r.waits S):=Lib.hid ((HM.out.then HB0.out.1).2.then wtE_kept (((Keeps.refl [] w0).alloc _).drew));have HQd:Hid (∀ wA SA vA,Keeps [] w0.drew wA→GV wtE 7 wA vA (keepsG gi r.waits) SA→(∀ x∈SA,x∈S∨w0.drew.heap.size≤x)→FiS w (.slice ac r.chans.length cc) (.slice aw r.waits.length cw) (.slice aa o.cases.length ca) o S (keepsG gi r.waits) (.pointer (some ⟨wA.heap.size,0,none⟩)) (wA.alloc (.cells #[.slice ac r.chans.length cc,vA] 35))):=Lib.hid (by
  intro wA SA vA kA gA sA;have kk:Keeps [] w0 (wA.alloc (.cells #[.slice ac r.chans.length cc,vA] 35)):=(((Keeps.refl [] w0).drew).then kA).alloc _;have hzA:=kA.size;have e:w0.drew.heap.size=w0.heap.size:=rfl;refine ⟨wA.heap.size,vA,SA,rfl,HB0.out.then kk,by have:=HZ.out;omega,Blk.fresh wA [.slice ac r.chans.length cc,vA] _ _ rfl,gA.then wtE_kept ((Keeps.refl [] wA).alloc _),fun x hx=>?_⟩;have hl:=gA.lt x hx;rcases sA x hx with h | h
  ·exact .inl h
  ·exact .inr ⟨by have:=HZ.out;omega,by omega⟩)
 have HQe:Hid (∀ wA SA vA,Keeps [] (w0.alloc (.cells #[.slice none 0 0,.slice none 0 0] 35)).drew wA→GV wtE 7 wA vA (keepsG gi r.waits) SA→(∀ x∈SA,x∈S∨(w0.alloc (.cells #[.slice none 0 0,.slice none 0 0] 35)).drew.heap.size≤x)→FiS w (.slice ac r.chans.length cc) (.slice aw r.waits.length cw) (.slice aa o.cases.length ca) o S (keepsG gi r.waits) (.pointer (some ⟨w0.heap.size,0,none⟩)) ((wA.setCell ⟨w0.heap.size,0,none⟩ (.slice ac r.chans.length cc)).setCell ⟨w0.heap.size,1,none⟩ vA)):=Lib.hid (by
  intro wA SA vA kA gA sA;have hb:Blk wA w0.heap.size [.slice none 0 0,.slice none 0 0] 35:=((Blk.fresh w0 [.slice none 0 0,.slice none 0 0] _ _ rfl).drew).keep kA (by simp);have kf:Keeps [w0.heap.size] wA ((wA.setCell ⟨w0.heap.size,0,none⟩ (.slice ac r.chans.length cc)).setCell ⟨w0.heap.size,1,none⟩ vA):=((Keeps.refl _ wA).setCell (by simp) _).setCell (by simp) _;have kk:Keeps [w0.heap.size] w0 ((wA.setCell ⟨w0.heap.size,0,none⟩ (.slice ac r.chans.length cc)).setCell ⟨w0.heap.size,1,none⟩ vA):=((((Keeps.refl [] w0).alloc _).drew).then kA).trans kf (fun x hx=>.inr (by simp at hx;omega)) |>.mono (by simp);have hS:∀ x∈SA,x∈S∨(w.heap.size + 5≤x∧x≠w0.heap.size):=fun x hx=>by
   rcases sA x hx with h | h
   ·exact .inl h
   ·exact .inr ⟨by have:=HZ.out;simp at h;omega,by simp at h;omega⟩
  refine ⟨w0.heap.size,vA,SA,rfl,HB0.out.keep kk (fun x hx=>by simp at hx;have:=HZ.out;omega),HZ.out,(hb.set 0 (.slice ac r.chans.length cc)).set 1 vA,gA.keep wtE_kept kf (fun x hx hm=>?_),hS⟩;simp only [List.mem_singleton] at hm;subst hm;rcases hS _ hx with h | h
  ·have:=HSL.out _ h;have:=HZ.out;omega
  ·exact h.2 rfl)
 have nb:∀ wA:World,Keeps [] (w0.alloc (.cells #[.slice none 0 0,.slice none 0 0] 35)).drew wA→Blk wA w0.heap.size [.slice none 0 0,.slice none 0 0] 35:=fun wA kA=>((Blk.fresh w0 [.slice none 0 0,.slice none 0 0] _ _ rfl).drew).keep kA (by simp)
 have NB:=Lib.hid nb;have ma:∀ wA:World,Keeps [] w0.drew wA→wA.cell? ⟨w.heap.size,0,none⟩=some (.slice ac r.chans.length cc)∧wA.cell? ⟨w.heap.size,1,none⟩=some (.slice aw r.waits.length cw):=fun wA kA=>⟨(HB0.out.2.1.drew.keep kA (by simp)).cell 0,(HB0.out.2.1.drew.keep kA (by simp)).cell 1⟩
 have MA:=Lib.hid ma;have mb:∀ wA:World,Keeps [] (w0.alloc (.cells #[.slice none 0 0,.slice none 0 0] 35)).drew wA→wA.cell? ⟨w.heap.size,0,none⟩=some (.slice ac r.chans.length cc)∧wA.cell? ⟨w.heap.size,1,none⟩=some (.slice aw r.waits.length cw):=fun wA kA=>⟨(((HB0.out.2.1.alloc _).drew).keep kA (by simp)).cell 0,(((HB0.out.2.1.alloc _).drew).keep kA (by simp)).cell 1⟩
 have MB:=Lib.hid mb;clear hz nb ma mb
 go_cut [12] (FiS w (.slice ac r.chans.length cc) (.slice aw r.waits.length cw) (.slice aa o.cases.length ca) o S (keepsG gi r.waits))
 case first =>
  go_region_held3 (fun w'=>w'.cell? ⟨w.heap.size,0,none⟩=some (.slice ac r.chans.length cc)∧w'.cell? ⟨w.heap.size,1,none⟩=some (.slice aw r.waits.length cw))
   (first | (with_reducible exact ⟨m0,m1⟩) | (with_reducible exact MM.out) | (with_reducible exact HF.out.s2) | go_keep)
   (first
    | (go_at_call 69;(with_reducible refine (ref20_without _ _ r.waits S gi HWd.out HN.out).mono ?_);rintro e wA ⟨vA,SA,rfl,gA,kA,sA⟩;obtain ⟨aA,cA,rfl⟩:=gA.shape;have MM:=Lib.hid (MA.out wA kA);have HF:=Lib.hid (HQd.out wA SA _ kA gA sA);clear gA kA sA)
    | (go_at_call 69;(with_reducible refine (ref20_without _ _ r.waits S gi HWe.out HN.out).mono ?_);rintro e wA ⟨vA,SA,rfl,gA,kA,sA⟩;obtain ⟨aA,cA,rfl⟩:=gA.shape;have MM:=Lib.hid (MB.out wA kA);have HF:=Lib.hid (HQe.out wA SA _ kA gA sA);have n0:=(NB.out wA kA).cell 0;have n1:=(NB.out wA kA).cell 1;have f0:=(NB.out wA kA).free 0;have f1:=(NB.out wA kA).free 1;(simp only [List.getElem?_cons_zero,List.getElem?_cons_succ] at n0 n1);clear gA kA sA)
    | fail)
  all_goals
   go_wp2_with fail
   go_meet
   exact HF.out
 case rest =>
  obtain ⟨b,vs,SW,rfl,hfa,hb5,hbs,hgw,hsw⟩:=hcut;obtain ⟨sv,cv,rfl⟩:=hgw.shape;have HU:Hid (FiU w (.slice ac r.chans.length cc) (.slice aw r.waits.length cw) (.slice aa o.cases.length ca) o ⟨1,-1,0,true,0⟩ b (.slice ac r.chans.length cc) (.slice sv (keepsG gi r.waits).length cv) (keepsG gi r.waits) SW wc):=Lib.hid ⟨hfa,hbs,hgw⟩;have HB5:=Lib.hid hb5;have HSW:=Lib.hid hsw;have e2:¬ b=w.heap.size + 1 + 1:=by omega
  have e3:¬ b=w.heap.size + 1 + 1 + 1:=by omega
  have e4:¬ b=w.heap.size + 1 + 1 + 1 + 1:=by omega
  have e5:¬ w.heap.size + 1 + 1=b:=by omega
  have e6:¬ w.heap.size + 1 + 1 + 1=b:=by omega
  have e7:¬ w.heap.size + 1 + 1 + 1 + 1=b:=by omega
  clear hfa hb5 hbs hgw hsw m0 m1 hq0;have m0:=HU.out.1.2.1.cell 0;have m1:=HU.out.1.2.1.cell 1;obtain ⟨a0,a1,a2,a3,a4,a5⟩:=HU.out.1.2.2.1.op;have n0:=HU.out.1.2.2.2.1.cell 0;have n1:=HU.out.1.2.2.2.1.cell 1;have f0:=HU.out.1.2.2.2.1.free 0;have f1:=HU.out.1.2.2.2.1.free 1;obtain ⟨⟨z0,z1,z2,z3,z4⟩,hzz⟩:=(show Blk _ _ (resL Md.noRes) _ from HU.out.1.2.2.2.2.1).res;obtain ⟨⟨p0,p1,p2,p3,p4⟩,hpp⟩:=HU.out.1.2.2.2.2.2.res;clear hzz hpp;have s0:=HU.out.2.1.cell 0;have s1:=HU.out.2.1.cell 1;have fs:=HU.out.2.1.free 0;have y0:=HU.out.1.2.2.2.2.1.free 0;have y1:=HU.out.1.2.2.2.2.1.free 1;have y2:=HU.out.1.2.2.2.2.1.free 2;have y3:=HU.out.1.2.2.2.2.1.free 3;have y4:=HU.out.1.2.2.2.2.1.free 4;have x1:=HU.out.1.2.2.2.2.2.free 1;have x2:=HU.out.1.2.2.2.2.2.free 2;have x3:=HU.out.1.2.2.2.2.2.free 3;have x4:=HU.out.1.2.2.2.2.2.free 4;simp only [List.getElem?_cons_zero,List.getElem?_cons_succ,Md.noRes] at m0 m1 n0 n1 s0 s1 z0 z1 z2 z3 z4 p0 p1 p2 p3 p4
  go_wp2_with fail
  refine (ref20_made _ _ _ r S o.ch (HM.out.then HU.out.1.1)).mono ?_;obtain ⟨mc,hmc⟩:∃ mc,Md.chan r.chans o.ch=mc:=⟨_,rfl⟩
  rw [hmc];have HMC:=Lib.hid hmc;clear hmc
  rintro e w5 ⟨rfl,k5⟩
  have HV:=Lib.hid (HU.out.then k5);clear k5 m0 m1 a0 a1 a2 a3 a4 a5 n0 n1 f0 f1 z0 z1 z2 z3 z4 p0 p1 p2 p3 p4 s0 s1 fs y0 y1 y2 y3 y4 x1 x2 x3 x4;have m0:=HV.out.1.2.1.cell 0;have m1:=HV.out.1.2.1.cell 1;obtain ⟨a0,a1,a2,a3,a4,a5⟩:=HV.out.1.2.2.1.op;have n0:=HV.out.1.2.2.2.1.cell 0;have n1:=HV.out.1.2.2.2.1.cell 1;have f0:=HV.out.1.2.2.2.1.free 0;have f1:=HV.out.1.2.2.2.1.free 1;obtain ⟨⟨z0,z1,z2,z3,z4⟩,hzz⟩:=(show Blk _ _ (resL Md.noRes) _ from HV.out.1.2.2.2.2.1).res;obtain ⟨⟨p0,p1,p2,p3,p4⟩,hpp⟩:=HV.out.1.2.2.2.2.2.res;clear hzz hpp;have s0:=HV.out.2.1.cell 0;have s1:=HV.out.2.1.cell 1;have fs:=HV.out.2.1.free 0;have y0:=HV.out.1.2.2.2.2.1.free 0;have y1:=HV.out.1.2.2.2.2.1.free 1;have y2:=HV.out.1.2.2.2.2.1.free 2;have y3:=HV.out.1.2.2.2.2.1.free 3;have y4:=HV.out.1.2.2.2.2.1.free 4;have x1:=HV.out.1.2.2.2.2.2.free 1;have x2:=HV.out.1.2.2.2.2.2.free 2;have x3:=HV.out.1.2.2.2.2.2.free 3;have x4:=HV.out.1.2.2.2.2.2.free 4;simp only [List.getElem?_cons_zero,List.getElem?_cons_succ,Md.noRes] at m0 m1 n0 n1 s0 s1 z0 z1 z2 z3 z4 p0 p1 p2 p3 p4
  go_upto_region 5 with fail
  go_wp2_with fail
  refine (ref20_side _ o _ UA i (HA.out.then caseE_kept HV.out.1.1)).mono ?_
  rintro e w6 ⟨rfl,k6⟩
  have HV6:=Lib.hid (HV.out.then k6);clear k6 m0 m1 a0 a1 a2 a3 a4 a5 n0 n1 f0 f1 z0 z1 z2 z3 z4 p0 p1 p2 p3 p4 s0 s1 fs y0 y1 y2 y3 y4 x1 x2 x3 x4;rw [HSI.out];simp only [Option.getD_some,Option.getD_none,Option.isSome_some,Option.isSome_none,Md.noSide];unfold csV;have HW6:=Lib.hid (HV6.out.then ((Keeps.refl [] w6).alloc (.cells #[.bool false,.int .i64 0,.int .i64 0] 87)));have HE:Hid (D=(st,none)):=Lib.hid (by rw [← HD.out];unfold Md.fire Md.fires Md.does;rw [if_neg HK.out.1,if_neg HK.out.2.1,if_neg HK.out.2.2,HSI.out])
  go_upto_region 28 with fail
  obtain ⟨w7,hw7⟩:∃ w7,w6.alloc (.cells #[.bool false,.int .i64 0,.int .i64 0] 87)=w7:=⟨_,rfl⟩
  rw [hw7] at HW6 ⊢;clear hw7;have m0:=HW6.out.1.2.1.cell 0;have m1:=HW6.out.1.2.1.cell 1;obtain ⟨a0,a1,a2,a3,a4,a5⟩:=HW6.out.1.2.2.1.op;have n0:=HW6.out.1.2.2.2.1.cell 0;have n1:=HW6.out.1.2.2.2.1.cell 1;have f0:=HW6.out.1.2.2.2.1.free 0;have f1:=HW6.out.1.2.2.2.1.free 1;obtain ⟨⟨z0,z1,z2,z3,z4⟩,hzz⟩:=(show Blk _ _ (resL Md.noRes) _ from HW6.out.1.2.2.2.2.1).res;obtain ⟨⟨p0,p1,p2,p3,p4⟩,hpp⟩:=HW6.out.1.2.2.2.2.2.res;clear hzz hpp;have s0:=HW6.out.2.1.cell 0;have s1:=HW6.out.2.1.cell 1;have fs:=HW6.out.2.1.free 0;have y0:=HW6.out.1.2.2.2.2.1.free 0;have y1:=HW6.out.1.2.2.2.2.1.free 1;have y2:=HW6.out.1.2.2.2.2.1.free 2;have y3:=HW6.out.1.2.2.2.2.1.free 3;have y4:=HW6.out.1.2.2.2.2.1.free 4;have x1:=HW6.out.1.2.2.2.2.2.free 1;have x2:=HW6.out.1.2.2.2.2.2.free 2;have x3:=HW6.out.1.2.2.2.2.2.free 3;have x4:=HW6.out.1.2.2.2.2.2.free 4;simp only [List.getElem?_cons_zero,List.getElem?_cons_succ,Md.noRes] at m0 m1 n0 n1 s0 s1 z0 z1 z2 z3 z4 p0 p1 p2 p3 p4
  go_wp2_with fail
  refine bodyPost_ret (v:=.tuple #[.agg #[.slice ac r.chans.length cc,.slice aw r.waits.length cw],.agg #[.int .i64 0,.int .i64 0,.int .i64 0,.bool false,.int .i64 0],.bool false]) (by simp [results,Try.results67,go_sem, *]) rfl ?_;exact fire_none HE.out HM.out HR.out HRR.out HW6.out (kc7 (by simp) (by simp) (by simp) (by simp) (by simp) (by simp) (by simp))
open Go.RowKit
set_option maxRecDepth 100000 in
set_option maxHeartbeats 6400000 in
theorem ref20_fire_nochan (w:World) (vc vw va:Value) (st:Md.St) (r:Mr.St) (S:List Nat) (gi:Int) (o:Pn.Op) (UA:List Nat) (i:Int) (h:MR w vc vw r S) (hr:Mr.Rel st r) (ha:GV caseE 3 w va o.cases UA) (hn:r.waits.length≤100000) (hn1:r.chans.length≤100000) (hn2:∀ c∈r.chans,c.buf.length≤100000) (R:Nat→Prop) (hR:∀ x∈S,R x) (hk:¬ o.kind=1∧¬ (o.kind=7∨o.kind=8)∧¬ o.kind=6) (sb:Bool) (sch sv':Int) (hs:Md.side o i=some ⟨sch,sb,sv'⟩) (hc:Md.chan r.chans sch=none) :
  Calls Try.prog 67 #[.agg #[vc,vw],.int .i64 gi,.agg (opV o va),.int .i64 i] w (RFirePost w (Md.fire st gi o i) r.waits.length R):=by
 obtain ⟨D,hD⟩:∃ D,Md.fire st gi o i=D:=⟨_,rfl⟩
 rw [hD];have HD:=Lib.hid hD;have HM:=Lib.hid h;have HR:=Lib.hid hr;have HRR:=Lib.hid hR;have HN:=Lib.hid hn;have HN1:=Lib.hid hn1;have HN2:=Lib.hid hn2;have HA:=Lib.hid ha;have HSL:=Lib.hid h.lt;have hle:=h.1.le;have hal:=ha.le;unfold maxLen at hle hal;obtain ⟨ac,cc,rfl⟩:=h.1.shape;obtain ⟨aw,cw,rfl⟩:=h.2.shape;obtain ⟨aa,ca,rfl⟩:=ha.shape;obtain ⟨w0,hw0⟩:∃ w0,((((w.alloc (.cells #[.slice ac r.chans.length cc,.slice aw r.waits.length cw] 35)).alloc (.cells (opV o (.slice aa o.cases.length ca)) 28)).alloc (.cells #[.slice none 0 0,.slice none 0 0] 35)).alloc (.cells #[.int .i64 0,.int .i64 0,.int .i64 0,.bool false,.int .i64 0] 50)).alloc (.cells #[.int .i64 1,.int .i64 (-1),.int .i64 0,.bool true,.int .i64 0] 50)=w0:=⟨_,rfl⟩
 have HB0:Hid (FiA w (.slice ac r.chans.length cc) (.slice aw r.waits.length cw) (.slice aa o.cases.length ca) o ⟨1,-1,0,true,0⟩ w0):=Lib.hid (by
  subst hw0;exact ⟨(((((Keeps.refl [] w).alloc _).alloc _).alloc _).alloc _).alloc _,((((Blk.fresh w [.slice ac r.chans.length cc,.slice aw r.waits.length cw] _ _ rfl).alloc _).alloc _).alloc _).alloc _,(((Blk.fresh _ (opL o (.slice aa o.cases.length ca)) _ _ (by simp)).alloc _).alloc _).alloc _,((Blk.fresh _ [.slice none 0 0,.slice none 0 0] _ _ (by simp)).alloc _).alloc _,(Blk.fresh _ z5 _ _ (by simp)).alloc _,Blk.fresh _ (resL ⟨1,-1,0,true,0⟩) _ _ (by simp)⟩)
 have t1:(o.kind == 1)=false:=by simp [hk.1]
 have t7:(o.kind == 7)=false:=by have:=hk.2.1;simp;omega
 have t8k:(o.kind == 8)=false:=by have:=hk.2.1;simp;omega
 have t6:(o.kind == 6)=false:=by simp [hk.2.2]
 have HK:Hid (¬ o.kind=1∧¬ (o.kind=7∨o.kind=8)∧¬ o.kind=6):=Lib.hid hk;clear hk;have HSI:=Lib.hid hs;have HMC2:=Lib.hid hc;clear hs hc;clear h hr ha hn hn1 hn2 hD hR;unfold opV at hw0;have HW0:=Lib.hid hw0;clear hw0;unfold opV
 go_enter Try.func67,Try.ntmps67
 go_upto_region 2 with fail
 rw [HW0.out];clear HW0;have hz:=HB0.out.lt;have HZ:=Lib.hid hz;have hq0:w.heap.size < w0.heap.size:=by omega
 have m0:w0.cell? ⟨w.heap.size,0,none⟩=some (.slice ac r.chans.length cc):=HB0.out.2.1.cell 0;have m1:w0.cell? ⟨w.heap.size,1,none⟩=some (.slice aw r.waits.length cw):=HB0.out.2.1.cell 1;have HWd:Hid (GV wtE 7 w0.drew (.slice aw r.waits.length cw) r.waits S):=Lib.hid ((HM.out.then HB0.out.1).2.then wtE_kept (Keeps.refl [] w0).drew);have HWe:Hid (GV wtE 7 (w0.alloc (.cells #[.slice none 0 0,.slice none 0 0] 35)).drew (.slice aw r.waits.length cw) r.waits S):=Lib.hid ((HM.out.then HB0.out.1).2.then wtE_kept (((Keeps.refl [] w0).alloc _).drew));have HQd:Hid (∀ wA SA vA,Keeps [] w0.drew wA→GV wtE 7 wA vA (keepsG gi r.waits) SA→(∀ x∈SA,x∈S∨w0.drew.heap.size≤x)→FiS w (.slice ac r.chans.length cc) (.slice aw r.waits.length cw) (.slice aa o.cases.length ca) o S (keepsG gi r.waits) (.pointer (some ⟨wA.heap.size,0,none⟩)) (wA.alloc (.cells #[.slice ac r.chans.length cc,vA] 35))):=Lib.hid (by
  intro wA SA vA kA gA sA;have kk:Keeps [] w0 (wA.alloc (.cells #[.slice ac r.chans.length cc,vA] 35)):=(((Keeps.refl [] w0).drew).then kA).alloc _;have hzA:=kA.size;have e:w0.drew.heap.size=w0.heap.size:=rfl;refine ⟨wA.heap.size,vA,SA,rfl,HB0.out.then kk,by have:=HZ.out;omega,Blk.fresh wA [.slice ac r.chans.length cc,vA] _ _ rfl,gA.then wtE_kept ((Keeps.refl [] wA).alloc _),fun x hx=>?_⟩;have hl:=gA.lt x hx;rcases sA x hx with h | h
  ·exact .inl h
  ·exact .inr ⟨by have:=HZ.out;omega,by omega⟩)
 have HQe:Hid (∀ wA SA vA,Keeps [] (w0.alloc (.cells #[.slice none 0 0,.slice none 0 0] 35)).drew wA→GV wtE 7 wA vA (keepsG gi r.waits) SA→(∀ x∈SA,x∈S∨(w0.alloc (.cells #[.slice none 0 0,.slice none 0 0] 35)).drew.heap.size≤x)→FiS w (.slice ac r.chans.length cc) (.slice aw r.waits.length cw) (.slice aa o.cases.length ca) o S (keepsG gi r.waits) (.pointer (some ⟨w0.heap.size,0,none⟩)) ((wA.setCell ⟨w0.heap.size,0,none⟩ (.slice ac r.chans.length cc)).setCell ⟨w0.heap.size,1,none⟩ vA)):=Lib.hid (by
  intro wA SA vA kA gA sA;have hb:Blk wA w0.heap.size [.slice none 0 0,.slice none 0 0] 35:=((Blk.fresh w0 [.slice none 0 0,.slice none 0 0] _ _ rfl).drew).keep kA (by simp);have kf:Keeps [w0.heap.size] wA ((wA.setCell ⟨w0.heap.size,0,none⟩ (.slice ac r.chans.length cc)).setCell ⟨w0.heap.size,1,none⟩ vA):=((Keeps.refl _ wA).setCell (by simp) _).setCell (by simp) _;have kk:Keeps [w0.heap.size] w0 ((wA.setCell ⟨w0.heap.size,0,none⟩ (.slice ac r.chans.length cc)).setCell ⟨w0.heap.size,1,none⟩ vA):=((((Keeps.refl [] w0).alloc _).drew).then kA).trans kf (fun x hx=>.inr (by simp at hx;omega)) |>.mono (by simp);have hS:∀ x∈SA,x∈S∨(w.heap.size + 5≤x∧x≠w0.heap.size):=fun x hx=>by
   rcases sA x hx with h | h
   ·exact .inl h
   ·exact .inr ⟨by have:=HZ.out;simp at h;omega,by simp at h;omega⟩
  refine ⟨w0.heap.size,vA,SA,rfl,HB0.out.keep kk (fun x hx=>by simp at hx;have:=HZ.out;omega),HZ.out,(hb.set 0 (.slice ac r.chans.length cc)).set 1 vA,gA.keep wtE_kept kf (fun x hx hm=>?_),hS⟩;simp only [List.mem_singleton] at hm;subst hm;rcases hS _ hx with h | h
  ·have:=HSL.out _ h;have:=HZ.out;omega
  ·exact h.2 rfl)
 have nb:∀ wA:World,Keeps [] (w0.alloc (.cells #[.slice none 0 0,.slice none 0 0] 35)).drew wA→Blk wA w0.heap.size [.slice none 0 0,.slice none 0 0] 35:=fun wA kA=>((Blk.fresh w0 [.slice none 0 0,.slice none 0 0] _ _ rfl).drew).keep kA (by simp)
 have NB:=Lib.hid nb;have ma:∀ wA:World,Keeps [] w0.drew wA→wA.cell? ⟨w.heap.size,0,none⟩=some (.slice ac r.chans.length cc)∧wA.cell? ⟨w.heap.size,1,none⟩=some (.slice aw r.waits.length cw):=fun wA kA=>⟨(HB0.out.2.1.drew.keep kA (by simp)).cell 0,(HB0.out.2.1.drew.keep kA (by simp)).cell 1⟩
 have MA:=Lib.hid ma;have mb:∀ wA:World,Keeps [] (w0.alloc (.cells #[.slice none 0 0,.slice none 0 0] 35)).drew wA→wA.cell? ⟨w.heap.size,0,none⟩=some (.slice ac r.chans.length cc)∧wA.cell? ⟨w.heap.size,1,none⟩=some (.slice aw r.waits.length cw):=fun wA kA=>⟨(((HB0.out.2.1.alloc _).drew).keep kA (by simp)).cell 0,(((HB0.out.2.1.alloc _).drew).keep kA (by simp)).cell 1⟩
 have MB:=Lib.hid mb;clear hz nb ma mb
 go_cut [12] (FiS w (.slice ac r.chans.length cc) (.slice aw r.waits.length cw) (.slice aa o.cases.length ca) o S (keepsG gi r.waits))
 case first =>
  go_region_held3 (fun w'=>w'.cell? ⟨w.heap.size,0,none⟩=some (.slice ac r.chans.length cc)∧w'.cell? ⟨w.heap.size,1,none⟩=some (.slice aw r.waits.length cw))
   (first | (with_reducible exact ⟨m0,m1⟩) | (with_reducible exact MM.out) | (with_reducible exact HF.out.s2) | go_keep)
   (first
    | (go_at_call 69;(with_reducible refine (ref20_without _ _ r.waits S gi HWd.out HN.out).mono ?_);rintro e wA ⟨vA,SA,rfl,gA,kA,sA⟩;obtain ⟨aA,cA,rfl⟩:=gA.shape;have MM:=Lib.hid (MA.out wA kA);have HF:=Lib.hid (HQd.out wA SA _ kA gA sA);clear gA kA sA)
    | (go_at_call 69;(with_reducible refine (ref20_without _ _ r.waits S gi HWe.out HN.out).mono ?_);rintro e wA ⟨vA,SA,rfl,gA,kA,sA⟩;obtain ⟨aA,cA,rfl⟩:=gA.shape;have MM:=Lib.hid (MB.out wA kA);have HF:=Lib.hid (HQe.out wA SA _ kA gA sA);have n0:=(NB.out wA kA).cell 0;have n1:=(NB.out wA kA).cell 1;have f0:=(NB.out wA kA).free 0;have f1:=(NB.out wA kA).free 1;(simp only [List.getElem?_cons_zero,List.getElem?_cons_succ] at n0 n1);clear gA kA sA)
    | fail)
  all_goals
   go_wp2_with fail
   go_meet
   exact HF.out
 case rest =>
  obtain ⟨b,vs,SW,rfl,hfa,hb5,hbs,hgw,hsw⟩:=hcut;obtain ⟨sv,cv,rfl⟩:=hgw.shape;have HU:Hid (FiU w (.slice ac r.chans.length cc) (.slice aw r.waits.length cw) (.slice aa o.cases.length ca) o ⟨1,-1,0,true,0⟩ b (.slice ac r.chans.length cc) (.slice sv (keepsG gi r.waits).length cv) (keepsG gi r.waits) SW wc):=Lib.hid ⟨hfa,hbs,hgw⟩;have HB5:=Lib.hid hb5;have HSW:=Lib.hid hsw;have e2:¬ b=w.heap.size + 1 + 1:=by omega
  have e3:¬ b=w.heap.size + 1 + 1 + 1:=by omega
  have e4:¬ b=w.heap.size + 1 + 1 + 1 + 1:=by omega
  have e5:¬ w.heap.size + 1 + 1=b:=by omega
  have e6:¬ w.heap.size + 1 + 1 + 1=b:=by omega
  have e7:¬ w.heap.size + 1 + 1 + 1 + 1=b:=by omega
  clear hfa hb5 hbs hgw hsw m0 m1 hq0;have m0:=HU.out.1.2.1.cell 0;have m1:=HU.out.1.2.1.cell 1;obtain ⟨a0,a1,a2,a3,a4,a5⟩:=HU.out.1.2.2.1.op;have n0:=HU.out.1.2.2.2.1.cell 0;have n1:=HU.out.1.2.2.2.1.cell 1;have f0:=HU.out.1.2.2.2.1.free 0;have f1:=HU.out.1.2.2.2.1.free 1;obtain ⟨⟨z0,z1,z2,z3,z4⟩,hzz⟩:=(show Blk _ _ (resL Md.noRes) _ from HU.out.1.2.2.2.2.1).res;obtain ⟨⟨p0,p1,p2,p3,p4⟩,hpp⟩:=HU.out.1.2.2.2.2.2.res;clear hzz hpp;have s0:=HU.out.2.1.cell 0;have s1:=HU.out.2.1.cell 1;have fs:=HU.out.2.1.free 0;have y0:=HU.out.1.2.2.2.2.1.free 0;have y1:=HU.out.1.2.2.2.2.1.free 1;have y2:=HU.out.1.2.2.2.2.1.free 2;have y3:=HU.out.1.2.2.2.2.1.free 3;have y4:=HU.out.1.2.2.2.2.1.free 4;have x1:=HU.out.1.2.2.2.2.2.free 1;have x2:=HU.out.1.2.2.2.2.2.free 2;have x3:=HU.out.1.2.2.2.2.2.free 3;have x4:=HU.out.1.2.2.2.2.2.free 4;simp only [List.getElem?_cons_zero,List.getElem?_cons_succ,Md.noRes] at m0 m1 n0 n1 s0 s1 z0 z1 z2 z3 z4 p0 p1 p2 p3 p4
  go_wp2_with fail
  refine (ref20_made _ _ _ r S o.ch (HM.out.then HU.out.1.1)).mono ?_;obtain ⟨mc,hmc⟩:∃ mc,Md.chan r.chans o.ch=mc:=⟨_,rfl⟩
  rw [hmc];have HMC:=Lib.hid hmc;clear hmc
  rintro e w5 ⟨rfl,k5⟩
  have HV:=Lib.hid (HU.out.then k5);clear k5 m0 m1 a0 a1 a2 a3 a4 a5 n0 n1 f0 f1 z0 z1 z2 z3 z4 p0 p1 p2 p3 p4 s0 s1 fs y0 y1 y2 y3 y4 x1 x2 x3 x4;have m0:=HV.out.1.2.1.cell 0;have m1:=HV.out.1.2.1.cell 1;obtain ⟨a0,a1,a2,a3,a4,a5⟩:=HV.out.1.2.2.1.op;have n0:=HV.out.1.2.2.2.1.cell 0;have n1:=HV.out.1.2.2.2.1.cell 1;have f0:=HV.out.1.2.2.2.1.free 0;have f1:=HV.out.1.2.2.2.1.free 1;obtain ⟨⟨z0,z1,z2,z3,z4⟩,hzz⟩:=(show Blk _ _ (resL Md.noRes) _ from HV.out.1.2.2.2.2.1).res;obtain ⟨⟨p0,p1,p2,p3,p4⟩,hpp⟩:=HV.out.1.2.2.2.2.2.res;clear hzz hpp;have s0:=HV.out.2.1.cell 0;have s1:=HV.out.2.1.cell 1;have fs:=HV.out.2.1.free 0;have y0:=HV.out.1.2.2.2.2.1.free 0;have y1:=HV.out.1.2.2.2.2.1.free 1;have y2:=HV.out.1.2.2.2.2.1.free 2;have y3:=HV.out.1.2.2.2.2.1.free 3;have y4:=HV.out.1.2.2.2.2.1.free 4;have x1:=HV.out.1.2.2.2.2.2.free 1;have x2:=HV.out.1.2.2.2.2.2.free 2;have x3:=HV.out.1.2.2.2.2.2.free 3;have x4:=HV.out.1.2.2.2.2.2.free 4;simp only [List.getElem?_cons_zero,List.getElem?_cons_succ,Md.noRes] at m0 m1 n0 n1 s0 s1 z0 z1 z2 z3 z4 p0 p1 p2 p3 p4
  go_upto_region 5 with fail
  go_wp2_with fail
  refine (ref20_side _ o _ UA i (HA.out.then caseE_kept HV.out.1.1)).mono ?_
  rintro e w6 ⟨rfl,k6⟩
  have HV6:=Lib.hid (HV.out.then k6);clear k6 m0 m1 a0 a1 a2 a3 a4 a5 n0 n1 f0 f1 z0 z1 z2 z3 z4 p0 p1 p2 p3 p4 s0 s1 fs y0 y1 y2 y3 y4 x1 x2 x3 x4;rw [HSI.out];simp only [Option.getD_some,Option.getD_none,Option.isSome_some,Option.isSome_none,Md.noSide];unfold csV;obtain ⟨w7,hw7⟩:∃ w7,w6.alloc (.cells #[.bool sb,.int .i64 sch,.int .i64 sv'] 87)=w7:=⟨_,rfl⟩
  have HV7:=Lib.hid (HV6.out.then (hw7 ▸ (Keeps.refl [] w6).alloc _:Keeps [] w6 w7));have HSB7:Hid (Blk w7 w6.heap.size [.bool sb,.int .i64 sch,.int .i64 sv'] 87):=Lib.hid (hw7 ▸ Blk.fresh w6 [.bool sb,.int .i64 sch,.int .i64 sv'] _ _ rfl);have HZ6:Hid (w.heap.size + 5≤w6.heap.size):=Lib.hid HV6.out.1.lt;clear HV6
  go_upto_region 28 with fail
  clear hw7;have m0:=HV7.out.1.2.1.cell 0;have m1:=HV7.out.1.2.1.cell 1;obtain ⟨a0,a1,a2,a3,a4,a5⟩:=HV7.out.1.2.2.1.op;have n0:=HV7.out.1.2.2.2.1.cell 0;have n1:=HV7.out.1.2.2.2.1.cell 1;have f0:=HV7.out.1.2.2.2.1.free 0;have f1:=HV7.out.1.2.2.2.1.free 1;obtain ⟨⟨z0,z1,z2,z3,z4⟩,hzz⟩:=(show Blk _ _ (resL Md.noRes) _ from HV7.out.1.2.2.2.2.1).res;obtain ⟨⟨p0,p1,p2,p3,p4⟩,hpp⟩:=HV7.out.1.2.2.2.2.2.res;clear hzz hpp;have s0:=HV7.out.2.1.cell 0;have s1:=HV7.out.2.1.cell 1;have fs:=HV7.out.2.1.free 0;have y0:=HV7.out.1.2.2.2.2.1.free 0;have y1:=HV7.out.1.2.2.2.2.1.free 1;have y2:=HV7.out.1.2.2.2.2.1.free 2;have y3:=HV7.out.1.2.2.2.2.1.free 3;have y4:=HV7.out.1.2.2.2.2.1.free 4;have x1:=HV7.out.1.2.2.2.2.2.free 1;have x2:=HV7.out.1.2.2.2.2.2.free 2;have x3:=HV7.out.1.2.2.2.2.2.free 3;have x4:=HV7.out.1.2.2.2.2.2.free 4;simp only [List.getElem?_cons_zero,List.getElem?_cons_succ,Md.noRes] at m0 m1 n0 n1 s0 s1 z0 z1 z2 z3 z4 p0 p1 p2 p3 p4;obtain ⟨⟨q0,q1,q2⟩,hqq⟩:=Blk.three HSB7.out;clear hqq;have HE:Hid (D=(st,none)):=Lib.hid (by rw [← HD.out];unfold Md.fire Md.fires Md.does;rw [if_neg HK.out.1,if_neg HK.out.2.1,if_neg HK.out.2.2,HSI.out];simp only [HR.out.1];rw [HMC2.out])
  go_wp2_with fail
  refine (ref20_made _ _ _ r S sch (HM.out.then HV7.out.1.1)).mono ?_;rw [HMC2.out];simp only [Option.isSome_some,Option.isSome_none]
  rintro e w8 ⟨rfl,k8⟩
  have HV8:=Lib.hid (HV7.out.then k8);have HSB8:=Lib.hid (HSB7.out.keep k8 (by simp));clear k8 q0 q1 q2 m0 m1 a0 a1 a2 a3 a4 a5 n0 n1 f0 f1 z0 z1 z2 z3 z4 p0 p1 p2 p3 p4 s0 s1 fs y0 y1 y2 y3 y4 x1 x2 x3 x4;have m0:=HV8.out.1.2.1.cell 0;have m1:=HV8.out.1.2.1.cell 1;obtain ⟨a0,a1,a2,a3,a4,a5⟩:=HV8.out.1.2.2.1.op;have n0:=HV8.out.1.2.2.2.1.cell 0;have n1:=HV8.out.1.2.2.2.1.cell 1;have f0:=HV8.out.1.2.2.2.1.free 0;have f1:=HV8.out.1.2.2.2.1.free 1;obtain ⟨⟨z0,z1,z2,z3,z4⟩,hzz⟩:=(show Blk _ _ (resL Md.noRes) _ from HV8.out.1.2.2.2.2.1).res;obtain ⟨⟨p0,p1,p2,p3,p4⟩,hpp⟩:=HV8.out.1.2.2.2.2.2.res;clear hzz hpp;have s0:=HV8.out.2.1.cell 0;have s1:=HV8.out.2.1.cell 1;have fs:=HV8.out.2.1.free 0;have y0:=HV8.out.1.2.2.2.2.1.free 0;have y1:=HV8.out.1.2.2.2.2.1.free 1;have y2:=HV8.out.1.2.2.2.2.1.free 2;have y3:=HV8.out.1.2.2.2.2.1.free 3;have y4:=HV8.out.1.2.2.2.2.1.free 4;have x1:=HV8.out.1.2.2.2.2.2.free 1;have x2:=HV8.out.1.2.2.2.2.2.free 2;have x3:=HV8.out.1.2.2.2.2.2.free 3;have x4:=HV8.out.1.2.2.2.2.2.free 4;simp only [List.getElem?_cons_zero,List.getElem?_cons_succ,Md.noRes] at m0 m1 n0 n1 s0 s1 z0 z1 z2 z3 z4 p0 p1 p2 p3 p4;obtain ⟨⟨q0,q1,q2⟩,hqq⟩:=Blk.three HSB8.out;clear hqq
  go_wp2_with fail
  refine bodyPost_ret (v:=.tuple #[.agg #[.slice ac r.chans.length cc,.slice aw r.waits.length cw],.agg #[.int .i64 0,.int .i64 0,.int .i64 0,.bool false,.int .i64 0],.bool false]) (by simp [results,Try.results67,go_sem, *]) rfl ?_;exact fire_none HE.out HM.out HR.out HRR.out HV8.out (kc7 (by simp) (by simp) (by simp) (by simp) (by simp) (by simp) (by simp))
end Go.Proofs.Ytdibmkjoaghafaa
