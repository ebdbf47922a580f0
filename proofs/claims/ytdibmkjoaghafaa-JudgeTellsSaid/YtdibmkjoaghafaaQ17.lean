/-
  What the laws need, part Q17.
  Conditions: none.
-/
import Derived.Test.YtdibmkjoaghafaaQ16
set_option linter.unusedVariables false
set_option linter.unusedSimpArgs false
set_option linter.unnecessarySimpa false
set_option maxHeartbeats 2000000
namespace Go.Proofs.Ytdibmkjoaghafaa
open Go.RowKit
def RTo (w:World) (st:Md.St) (n:Nat) (R:Nat→Prop) (v:Value) (w':World):Prop:=∃ r',Mr.Rel st r'∧r'.waits.length≤n∧MRto w r' R v w'
theorem MR.to {w w':World} {vc vw:Value} {r:Mr.St} {S:List Nat} {R:Nat→Prop} (h:MR w' vc vw r S) (k:Keeps [] w w') (hR:∀ x∈S,R x):MRto w r R (.agg #[vc,vw]) w' :=
 ⟨vc,vw,S,rfl,h,k,fun x hx=>.inl (hR x hx),h.lt⟩
theorem rel_drop {st:Md.St} {r:Mr.St} {g:Int} (h:Mr.Rel st r):Mr.Rel ⟨st.chans,Md.drops st.waits g⟩ ⟨r.chans,keepsG g r.waits⟩:=by
 refine ⟨h.1,fun x o=>?_⟩;unfold Md.drops keepsG;simp only [List.mem_filter]
 by_cases e:x=g
 ·subst e;simp
 ·rw [if_neg e,h.2 x o];simp [bne,e]
theorem keepsG_le (g:Int) (l:List (Int × Pn.Op)):(keepsG g l).length≤l.length:=List.length_filter_le _ _
def opL (o:Pn.Op) (v:Value):List Value:=[.int .i64 o.kind,.int .i64 o.ch,.int .i64 o.n,.int .i64 o.v,v,.bool o.els]
theorem Blk.op {w:World} {g:Nat} {o:Pn.Op} {v:Value} {t:TypeId} (h:Blk w g (opL o v) t):w.cell? ⟨g,0,none⟩=some (.int .i64 o.kind)∧w.cell? ⟨g,1,none⟩=some (.int .i64 o.ch)∧w.cell? ⟨g,2,none⟩=some (.int .i64 o.n)∧w.cell? ⟨g,3,none⟩=some (.int .i64 o.v)∧w.cell? ⟨g,4,none⟩=some v∧w.cell? ⟨g,5,none⟩=some (.bool o.els) :=
 ⟨h.cell 0,h.cell 1,h.cell 2,h.cell 3,h.cell 4,h.cell 5⟩
def MeB (w:World) (b:Nat) (vc vw va vb:Value) (a o:Pn.Op) (wx:World):Prop :=
 Keeps [] w wx∧Blk wx b [vc,vw] 35∧Blk wx (b + 1) (opL a va) 28∧Blk wx (b + 1 + 1) (opL o vb) 28∧Blk wx (b + 1 + 1 + 1) [.slice none 0 0,.slice none 0 0] 35
theorem MeB.then {w wx wy:World} {b:Nat} {vc vw va vb:Value} {a o:Pn.Op} (h:MeB w b vc vw va vb a o wx) (k:Keeps [] wx wy):MeB w b vc vw va vb a o wy :=
 ⟨h.1.then k,h.2.1.keep k (by simp),h.2.2.1.keep k (by simp),h.2.2.2.1.keep k (by simp),h.2.2.2.2.keep k (by simp)⟩
def MeC (w:World) (vc vw va vb:Value) (a o:Pn.Op) (st:Md.St) (D:Md.St × Option Int) (gi hi:Int) (n1:Nat) (s:Md.Sd) (v:Value) (wx:World):Prop :=
 ∃ bb:Bool,v=.bool bb∧MeB w w.heap.size vc vw va vb a o wx∧Blk wx n1 [.bool s.send,.int .i64 s.ch,.int .i64 s.v] 87∧(bb=true→D=(st,none))∧(bb=false→D=(⟨st.chans,Md.drops (Md.drops st.waits gi) hi⟩,some s.v))
def RMeetPost (w:World) (D:Md.St × Option Int) (n:Nat) (R:Nat→Prop) (e:Ending) (w':World):Prop :=
 ∃ v,e=.returned (.tuple #[v,.int .i64 (D.2.getD 0),.bool D.2.isSome])∧RTo w D.1 n R v w'
theorem rmeet_no {w wx W:World} {st:Md.St} {D:Md.St × Option Int} {r:Mr.St} {S:List Nat} {R:Nat→Prop} {vc vw va vb:Value} {a o:Pn.Op} (hD:D=(st,none)) (h:MR w vc vw r S) (hr:Mr.Rel st r) (hb:MeB w w.heap.size vc vw va vb a o wx) (hR:∀ x∈S,R x)
  (hW:W=(wx.setCell ⟨w.heap.size + 1 + 1 + 1,0,none⟩ vc).setCell ⟨w.heap.size + 1 + 1 + 1,1,none⟩ vw):RMeetPost w D r.waits.length R (.returned (.tuple #[.agg #[vc,vw],.int .i64 0,.bool false])) W:=by
 subst hD hW;have kf:Keeps [w.heap.size + 1 + 1 + 1] wx ((wx.setCell ⟨w.heap.size + 1 + 1 + 1,0,none⟩ vc).setCell ⟨w.heap.size + 1 + 1 + 1,1,none⟩ vw):=((Keeps.refl _ wx).setCell (by simp) _).setCell (by simp) _;have kk:Keeps [] w ((wx.setCell ⟨w.heap.size + 1 + 1 + 1,0,none⟩ vc).setCell ⟨w.heap.size + 1 + 1 + 1,1,none⟩ vw):=hb.1.trans kf (fun x hx=>by simp at hx;subst hx;exact .inr (by omega));exact ⟨_,rfl,r,hr,Nat.le_refl _,(h.then kk).to kk hR⟩
theorem rmeet_yes {w wx W:World} {st:Md.St} {D:Md.St × Option Int} {r:Mr.St} {S SB:List Nat} {R:Nat→Prop} {vc vw va vb v':Value} {a o:Pn.Op} {gi hi v:Int} (hD:D=(⟨st.chans,Md.drops (Md.drops st.waits gi) hi⟩,some v)) (h:MR w vc vw r S) (hr:Mr.Rel st r) (hb:MeB w w.heap.size vc vw va vb a o wx) (hR:∀ x∈S,R x)
  (hv:GV wtE 7 wx v' (keepsG hi (keepsG gi r.waits)) SB) (hS:∀ x∈SB,x∈S∨w.heap.size + 1 + 1 + 1 < x)
  (hW:W=(wx.setCell ⟨w.heap.size + 1 + 1 + 1,0,none⟩ vc).setCell ⟨w.heap.size + 1 + 1 + 1,1,none⟩ v'):RMeetPost w D r.waits.length R (.returned (.tuple #[.agg #[vc,v'],.int .i64 v,.bool true])) W:=by
 subst hD hW;have kf:Keeps [w.heap.size + 1 + 1 + 1] wx ((wx.setCell ⟨w.heap.size + 1 + 1 + 1,0,none⟩ vc).setCell ⟨w.heap.size + 1 + 1 + 1,1,none⟩ v'):=((Keeps.refl _ wx).setCell (by simp) _).setCell (by simp) _;have kk:Keeps [] w ((wx.setCell ⟨w.heap.size + 1 + 1 + 1,0,none⟩ vc).setCell ⟨w.heap.size + 1 + 1 + 1,1,none⟩ v'):=hb.1.trans kf (fun x hx=>by simp at hx;subst hx;exact .inr (by omega));have hlt:∀ x∈S ++ SB,x < wx.heap.size:=fun x hx=>by
  rcases List.mem_append.1 hx with h2 | h2
  ·exact (h.then hb.1).lt x h2
  ·exact hv.lt x h2
 have hne:∀ x∈S ++ SB,x∉[w.heap.size + 1 + 1 + 1]:=fun x hx hm=>by
  simp only [List.mem_singleton] at hm;subst hm;rcases List.mem_append.1 hx with h2 | h2
  ·have:=h.lt _ h2;omega
  ·rcases hS _ h2 with h3 | h3
   ·have:=h.lt _ h3;omega
   ·omega
 refine ⟨_,rfl,⟨r.chans,keepsG hi (keepsG gi r.waits)⟩,rel_drop (rel_drop hr),Nat.le_trans (keepsG_le _ _) (keepsG_le _ _),vc,v',S ++ SB,rfl,⟨((h.then hb.1).1.mono (fun x hx=>by simp [hx]) hlt).keep chE_kept kf hne,(hv.mono (fun x hx=>by simp [hx]) hlt).keep wtE_kept kf hne⟩,kk,fun x hx=>?_,fun x hx=>Nat.lt_of_lt_of_le (hlt x hx) kf.size⟩;rcases List.mem_append.1 hx with h2 | h2
 ·exact .inl (hR x h2)
 ·rcases hS x h2 with h3 | h3
  ·exact .inl (hR x h3)
  ·exact .inr (by omega)
set_option maxRecDepth 100000 in
set_option maxHeartbeats 6400000 in
theorem ref20_meet (w:World) (vc vw va vb:Value) (st:Md.St) (r:Mr.St) (S:List Nat) (gi:Int) (a:Pn.Op) (UA:List Nat) (i hi:Int) (o:Pn.Op) (UB:List Nat) (k:Int) (h:MR w vc vw r S) (hr:Mr.Rel st r) (ha:GV caseE 3 w va a.cases UA) (ho:GV caseE 3 w vb o.cases UB) (hn:r.waits.length≤100000) (R:Nat→Prop) (hR:∀ x∈S,R x) :
  Calls Try.prog 51 #[.agg #[vc,vw],.int .i64 gi,.agg (opV a va),.int .i64 i,.int .i64 hi,.agg (opV o vb),.int .i64 k] w (RMeetPost w (Md.meet st gi a i hi o k) r.waits.length R):=by
 obtain ⟨D,hD⟩:∃ D,Md.meet st gi a i hi o k=D:=⟨_,rfl⟩
 rw [hD];unfold Md.meet at hD;have HD:=Lib.hid hD;have HM:=Lib.hid h;have HR:=Lib.hid hr;have HRR:=Lib.hid hR;have HN:=Lib.hid hn;have HA:=Lib.hid ha;have HO:=Lib.hid ho;have hle:=h.1.le;unfold maxLen at hle;obtain ⟨ac,cc,rfl⟩:=h.1.shape;obtain ⟨aw,cw,rfl⟩:=h.2.shape;obtain ⟨aa,ca,rfl⟩:=ha.shape;obtain ⟨ab,cb,rfl⟩:=ho.shape;obtain ⟨w0,hw0⟩:∃ w0,(((w.alloc (.cells #[.slice ac r.chans.length cc,.slice aw r.waits.length cw] 35)).alloc (.cells (opV a (.slice aa a.cases.length ca)) 28)).alloc (.cells (opV o (.slice ab o.cases.length cb)) 28)).alloc (.cells #[.slice none 0 0,.slice none 0 0] 35)=w0:=⟨_,rfl⟩
 have HB0:Hid (MeB w w.heap.size (.slice ac r.chans.length cc) (.slice aw r.waits.length cw) (.slice aa a.cases.length ca) (.slice ab o.cases.length cb) a o w0):=Lib.hid (by
  subst hw0;exact ⟨((((Keeps.refl [] w).alloc _).alloc _).alloc _).alloc _,(((Blk.fresh w [.slice ac r.chans.length cc,.slice aw r.waits.length cw] _ _ rfl).alloc _).alloc _).alloc _,((Blk.fresh _ (opL a (.slice aa a.cases.length ca)) _ _ (by simp)).alloc _).alloc _,(Blk.fresh _ (opL o (.slice ab o.cases.length cb)) _ _ (by simp)).alloc _,Blk.fresh _ [.slice none 0 0,.slice none 0 0] _ _ (by simp)⟩)
 have m0:=HB0.out.2.1.cell 0;have m1:=HB0.out.2.1.cell 1;obtain ⟨a0,a1,a2,a3,a4,a5⟩:=HB0.out.2.2.1.op;obtain ⟨o0,o1,o2,o3,o4,o5⟩:=HB0.out.2.2.2.1.op;have n0:=HB0.out.2.2.2.2.cell 0;have n1:=HB0.out.2.2.2.2.cell 1;have f0:=HB0.out.2.2.2.2.free 0;have f1:=HB0.out.2.2.2.2.free 1;simp only [List.getElem?_cons_zero,List.getElem?_cons_succ] at m0 m1 n0 n1;clear h hr ha ho hn hD hR;unfold opV at hw0;unfold opV
 go_enter Try.func51,Try.ntmps51
 go_wp2_with fail
 refine (ref20_side _ a _ UA i (HA.out.then caseE_kept HB0.out.1)).mono ?_
 rintro e w1 ⟨rfl,k1⟩
 have HB1:=Lib.hid (HB0.out.then k1);clear k1 hw0 m0 m1 a0 a1 a2 a3 a4 a5 o0 o1 o2 o3 o4 o5 n0 n1 f0 f1;obtain ⟨sa,hsa⟩:∃ sa,Md.side a i=sa:=⟨_,rfl⟩
 rw [hsa] at HD ⊢;clear hsa;obtain ⟨s,hs⟩:∃ s,sa.getD Md.noSide=s:=⟨_,rfl⟩
 rw [hs];have HS:=Lib.hid hs;clear hs;unfold csV;obtain ⟨w2,hw2⟩:∃ w2,w1.alloc (.cells #[.bool s.send,.int .i64 s.ch,.int .i64 s.v] 87)=w2:=⟨_,rfl⟩
 have HB2:=Lib.hid (HB1.out.then (hw2 ▸ (Keeps.refl [] w1).alloc _:Keeps [] w1 w2));have HSB2:Hid (Blk w2 w1.heap.size [.bool s.send,.int .i64 s.ch,.int .i64 s.v] 87):=Lib.hid (hw2 ▸ Blk.fresh w1 [.bool s.send,.int .i64 s.ch,.int .i64 s.v] _ _ rfl);clear HB1 HB0;have m0:=HB2.out.2.1.cell 0;have m1:=HB2.out.2.1.cell 1;obtain ⟨a0,a1,a2,a3,a4,a5⟩:=HB2.out.2.2.1.op;obtain ⟨o0,o1,o2,o3,o4,o5⟩:=HB2.out.2.2.2.1.op;have n0:=HB2.out.2.2.2.2.cell 0;have n1:=HB2.out.2.2.2.2.cell 1;have f0:=HB2.out.2.2.2.2.free 0;have f1:=HB2.out.2.2.2.2.free 1;simp only [List.getElem?_cons_zero,List.getElem?_cons_succ] at m0 m1 n0 n1
 go_wp2_with fail
 refine (ref20_side _ o _ UB k (HO.out.then caseE_kept HB2.out.1)).mono ?_
 rintro e w3 ⟨rfl,k3⟩
 have HB3:=Lib.hid (HB2.out.then k3);have HSB3:=Lib.hid (HSB2.out.keep k3 (by simp));clear k3 hw2 HB2 HSB2 m0 m1 a0 a1 a2 a3 a4 a5 o0 o1 o2 o3 o4 o5 n0 n1 f0 f1;obtain ⟨sb,hsb⟩:∃ sb,Md.side o k=sb:=⟨_,rfl⟩
 rw [hsb] at HD ⊢;clear hsb;obtain ⟨u,hu⟩:∃ u,sb.getD Md.noSide=u:=⟨_,rfl⟩
 rw [hu];have HU:=Lib.hid hu;clear hu;unfold csV;obtain ⟨w4,hw4⟩:∃ w4,w3.alloc (.cells #[.bool u.send,.int .i64 u.ch,.int .i64 u.v] 87)=w4:=⟨_,rfl⟩
 have HB4:=Lib.hid (HB3.out.then (hw4 ▸ (Keeps.refl [] w3).alloc _:Keeps [] w3 w4));have HSB4:Hid (Blk w4 w1.heap.size [.bool s.send,.int .i64 s.ch,.int .i64 s.v] 87):=Lib.hid (HSB3.out.keep (hw4 ▸ (Keeps.refl [] w3).alloc _:Keeps [] w3 w4) (by simp));have HRB4:Hid (Blk w4 w3.heap.size [.bool u.send,.int .i64 u.ch,.int .i64 u.v] 87):=Lib.hid (hw4 ▸ Blk.fresh w3 [.bool u.send,.int .i64 u.ch,.int .i64 u.v] _ _ rfl);clear HB3 HSB3
 go_upto_region 3 with fail
 clear hw4;have m0:=HB4.out.2.1.cell 0;have m1:=HB4.out.2.1.cell 1;obtain ⟨a0,a1,a2,a3,a4,a5⟩:=HB4.out.2.2.1.op;obtain ⟨o0,o1,o2,o3,o4,o5⟩:=HB4.out.2.2.2.1.op;have n0:=HB4.out.2.2.2.2.cell 0;have n1:=HB4.out.2.2.2.2.cell 1;have f0:=HB4.out.2.2.2.2.free 0;have f1:=HB4.out.2.2.2.2.free 1;simp only [List.getElem?_cons_zero,List.getElem?_cons_succ] at m0 m1 n0 n1;obtain ⟨⟨s0,s1,s2⟩,_⟩:=Blk.three HSB4.out;obtain ⟨⟨r0,r1,r2⟩,_⟩:=Blk.three HRB4.out
 cases sa with
 | none =>
  simp only [Option.isSome_none];have HE:Hid (D=(st,none)):=Lib.hid (HD.out.symm)
  go_wp2_with fail
  refine bodyPost_ret (v:=.tuple #[.agg #[.slice ac r.chans.length cc,.slice aw r.waits.length cw],.int .i64 0,.bool false]) (by simp [results,Try.results51,go_sem, *]) rfl ?_;exact rmeet_no HE.out HM.out HR.out HB4.out HRR.out rfl
 | some s' =>
  obtain rfl:s=s':=HS.out.symm
  cases sb with
  | none =>
   simp only [Option.isSome_none,Option.isSome_some];have HE:Hid (D=(st,none)):=Lib.hid (HD.out.symm)
   go_wp2_with fail
   refine bodyPost_ret (v:=.tuple #[.agg #[.slice ac r.chans.length cc,.slice aw r.waits.length cw],.int .i64 0,.bool false]) (by simp [results,Try.results51,go_sem, *]) rfl ?_;exact rmeet_no HE.out HM.out HR.out HB4.out HRR.out rfl
  | some u' =>
   obtain rfl:u=u':=HU.out.symm;simp only [Option.isSome_some]
   cases t3:(gi == hi) with
   | true =>
    have HGH:Hid (gi=hi):=Lib.hid (by simpa using t3);have HE:Hid (D=(st,none)):=Lib.hid (by rw [← HD.out];(try dsimp only);rw [if_neg (fun h=>h.2.1 HGH.out)])
    go_wp2_with fail
    refine bodyPost_ret (v:=.tuple #[.agg #[.slice ac r.chans.length cc,.slice aw r.waits.length cw],.int .i64 0,.bool false]) (by simp [results,Try.results51,go_sem, *]) rfl ?_;exact rmeet_no HE.out HM.out HR.out HB4.out HRR.out rfl
   | false =>
    have HGH:Hid (¬ gi=hi):=Lib.hid (by simpa using t3)
    cases t4:s.send with
    | false =>
     rw [t4] at s0;have HS1:=Lib.hid t4;clear t4;have HE:Hid (D=(st,none)):=Lib.hid (by rw [← HD.out];(try dsimp only);rw [if_neg (fun h=>by rw [HS1.out] at h;simp at h)])
     go_wp2_with fail
     refine bodyPost_ret (v:=.tuple #[.agg #[.slice ac r.chans.length cc,.slice aw r.waits.length cw],.int .i64 0,.bool false]) (by simp [results,Try.results51,go_sem, *]) rfl ?_;exact rmeet_no HE.out HM.out HR.out HB4.out HRR.out rfl
    | true =>
     rw [t4] at s0;have HS1:=Lib.hid t4;clear t4
     cases t5:u.send with
     | true =>
      rw [t5] at r0;have HU1:=Lib.hid t5;clear t5;have HE:Hid (D=(st,none)):=Lib.hid (by rw [← HD.out];(try dsimp only);rw [if_neg (fun h=>by rw [HU1.out] at h;simp at h)])
      go_wp2_with fail
      refine bodyPost_ret (v:=.tuple #[.agg #[.slice ac r.chans.length cc,.slice aw r.waits.length cw],.int .i64 0,.bool false]) (by simp [results,Try.results51,go_sem, *]) rfl ?_;exact rmeet_no HE.out HM.out HR.out HB4.out HRR.out rfl
     | false =>
      rw [t5] at r0;have HU1:=Lib.hid t5;clear t5
      cases t6:(s.ch == u.ch) with
      | false =>
       have t6n:(s.ch != u.ch)=true:=by simp [bne,t6]
       have HSC:Hid (¬ u.ch=s.ch):=Lib.hid (fun e=>by rw [e] at t6;simp at t6);have HE:Hid (D=(st,none)):=Lib.hid (by rw [← HD.out];(try dsimp only);rw [if_neg (fun h=>HSC.out h.2.2.2)])
       go_wp2_with fail
       refine bodyPost_ret (v:=.tuple #[.agg #[.slice ac r.chans.length cc,.slice aw r.waits.length cw],.int .i64 0,.bool false]) (by simp [results,Try.results51,go_sem, *]) rfl ?_;exact rmeet_no HE.out HM.out HR.out HB4.out HRR.out rfl
      | true =>
       have HSC:Hid (u.ch=s.ch):=Lib.hid ((show s.ch=u.ch by simpa using t6).symm);rw [HSC.out] at r1;clear t6;have HSS:Hid (s.send=true∧u.send=false∧u.ch=s.ch):=Lib.hid ⟨HS1.out,HU1.out,HSC.out⟩
       go_wp2_with fail
       refine (ref20_made _ _ _ r S s.ch (HM.out.then HB4.out.1)).mono ?_
       rintro e w5 ⟨rfl,k5⟩
       have HB5:=Lib.hid (HB4.out.then k5);have HSB5:=Lib.hid (HSB4.out.keep k5 (by simp));clear k5 HB4 HSB4 HRB4 s0 s1 s2 r0 r1 r2 m0 m1 a0 a1 a2 a3 a4 a5 o0 o1 o2 o3 o4 o5 n0 n1 f0 f1;have m0:=HB5.out.2.1.cell 0;have m1:=HB5.out.2.1.cell 1;obtain ⟨a0,a1,a2,a3,a4,a5⟩:=HB5.out.2.2.1.op;obtain ⟨o0,o1,o2,o3,o4,o5⟩:=HB5.out.2.2.2.1.op;have n0:=HB5.out.2.2.2.2.cell 0;have n1:=HB5.out.2.2.2.2.cell 1;have f0:=HB5.out.2.2.2.2.free 0;have f1:=HB5.out.2.2.2.2.free 1;simp only [List.getElem?_cons_zero,List.getElem?_cons_succ] at m0 m1 n0 n1;obtain ⟨⟨s0,s1,s2⟩,_⟩:=Blk.three HSB5.out
       cases hc:Md.chan r.chans s.ch with
       | none =>
        simp only [Option.isSome_none];have hcs:Md.chan st.chans s.ch=none:=by rw [HR.out.1];exact hc
        have HCS:=Lib.hid hcs;clear hcs hc;have HE:Hid (D=(st,none)):=Lib.hid (by rw [← HD.out];(try dsimp only);simp [HCS.out])
        go_wp2_with fail
        refine bodyPost_ret (v:=.tuple #[.agg #[.slice ac r.chans.length cc,.slice aw r.waits.length cw],.int .i64 0,.bool false]) (by simp [results,Try.results51,go_sem, *]) rfl ?_;exact rmeet_no HE.out HM.out HR.out HB5.out HRR.out rfl
       | some c =>
        simp only [Option.isSome_some];have HCS:Hid (Md.chan st.chans s.ch=some c):=Lib.hid (by rw [HR.out.1];exact hc);obtain ⟨kk,hck,hkl,hx⟩:=Md.chan_at hc;obtain ⟨g,off,ab2,cb2,U2,rfl,hg,⟨e0,e1,e2⟩,_,_⟩:=GV.ch (HM.out.then HB5.out.1).1 hx;have i0:(0:Int)≤s.ch - 1:=by omega
        have i1:s.ch - 1 < (r.chans.length:Int):=by omega
        have i2:(s.ch - 1).toNat=kk:=by omega
        obtain ⟨w6,hw6⟩:∃ w6,w5.alloc (.cells #[.int .i64 c.cap,.slice ab2 c.buf.length cb2,.bool c.closed] 45)=w6:=⟨_,rfl⟩
        have HB6:=Lib.hid (HB5.out.then (hw6 ▸ (Keeps.refl [] w5).alloc _:Keeps [] w5 w6));have HSB6:Hid (Blk w6 w1.heap.size [.bool s.send,.int .i64 s.ch,.int .i64 s.v] 87):=Lib.hid (HSB5.out.keep (hw6 ▸ (Keeps.refl [] w5).alloc _:Keeps [] w5 w6) (by simp));have HCB6:Hid (Blk w6 w5.heap.size [.int .i64 c.cap,.slice ab2 c.buf.length cb2,.bool c.closed] 45):=Lib.hid (hw6 ▸ Blk.fresh w5 [.int .i64 c.cap,.slice ab2 c.buf.length cb2,.bool c.closed] _ _ rfl);clear hx hc
        go_upto_region 6 with fail
        clear hw6 e0 e1 e2 HB5 HSB5 s0 s1 s2 m0 m1 a0 a1 a2 a3 a4 a5 o0 o1 o2 o3 o4 o5 n0 n1 f0 f1;have m0:=HB6.out.2.1.cell 0;have m1:=HB6.out.2.1.cell 1;obtain ⟨a0,a1,a2,a3,a4,a5⟩:=HB6.out.2.2.1.op;obtain ⟨o0,o1,o2,o3,o4,o5⟩:=HB6.out.2.2.2.1.op;have n0:=HB6.out.2.2.2.2.cell 0;have n1:=HB6.out.2.2.2.2.cell 1;have f0:=HB6.out.2.2.2.2.free 0;have f1:=HB6.out.2.2.2.2.free 1;simp only [List.getElem?_cons_zero,List.getElem?_cons_succ] at m0 m1 n0 n1;obtain ⟨⟨s0,s1,s2⟩,_⟩:=Blk.three HSB6.out;obtain ⟨⟨c0,c1,c2⟩,_⟩:=Blk.three HCB6.out
        go_cut [108] (MeC w (.slice (some ⟨g,off,none⟩) r.chans.length cc) (.slice aw r.waits.length cw) (.slice aa a.cases.length ca) (.slice ab o.cases.length cb) a o st D gi hi w1.heap.size s)
        case first =>
         cases t0:(c.cap == 0) with
         | false =>
          have t0n:(c.cap != 0)=true:=by simp [bne,t0]
          have HCN:Hid (¬ c.cap=0):=Lib.hid (by simpa using t0);have HE:Hid (D=(st,none)):=Lib.hid (by rw [← HD.out];(try dsimp only);simp [HCS.out,HCN.out])
          go_wp2_with fail
          go_meet
          exact ⟨true,rfl,HB6.out,HSB6.out,fun _=>HE.out,fun h=>(by cases h)⟩
         | true =>
          have HCZ:Hid (c.cap=0):=Lib.hid (by simpa using t0)
          cases t1:c.closed with
          | true =>
           rw [t1] at c2;have HCL:=Lib.hid t1;clear t1;have HE:Hid (D=(st,none)):=Lib.hid (by rw [← HD.out];(try dsimp only);simp [HCS.out,HCL.out])
           go_wp2_with fail
           go_meet
           exact ⟨true,rfl,HB6.out,HSB6.out,fun _=>HE.out,fun h=>(by cases h)⟩
          | false =>
           rw [t1] at c2;have HCL:=Lib.hid t1;clear t1
           go_wp2_with fail
           refine (ref20_waits _ _ _ st r S gi (HM.out.then HB6.out.1) HR.out).mono ?_;obtain ⟨wg,hwg⟩:∃ wg,(st.waits gi).isSome=wg:=⟨_,rfl⟩
           rw [hwg];have HWG:=Lib.hid hwg;clear hwg
           rintro e w7 ⟨rfl,k7⟩
           have HB7:=Lib.hid (HB6.out.then k7);have HSB7:=Lib.hid (HSB6.out.keep k7 (by simp));clear k7 HB6 HSB6 HCB6 s0 s1 s2 c0 c1 c2 m0 m1 a0 a1 a2 a3 a4 a5 o0 o1 o2 o3 o4 o5 n0 n1 f0 f1;have m0:=HB7.out.2.1.cell 0;have m1:=HB7.out.2.1.cell 1;obtain ⟨a0,a1,a2,a3,a4,a5⟩:=HB7.out.2.2.1.op;obtain ⟨o0,o1,o2,o3,o4,o5⟩:=HB7.out.2.2.2.1.op;have n0:=HB7.out.2.2.2.2.cell 0;have n1:=HB7.out.2.2.2.2.cell 1;have f0:=HB7.out.2.2.2.2.free 0;have f1:=HB7.out.2.2.2.2.free 1;simp only [List.getElem?_cons_zero,List.getElem?_cons_succ] at m0 m1 n0 n1;obtain ⟨⟨s0,s1,s2⟩,_⟩:=Blk.three HSB7.out
           cases wg with
           | false =>
            go_wp2_with fail
            refine (ref20_waits _ _ _ st r S hi (HM.out.then HB7.out.1) HR.out).mono ?_;obtain ⟨wh,hwh⟩:∃ wh,(st.waits hi).isSome=wh:=⟨_,rfl⟩
            rw [hwh];have HWH:=Lib.hid hwh;clear hwh
            rintro e w8 ⟨rfl,k8⟩
            have HB8:=Lib.hid (HB7.out.then k8);have HSB8:=Lib.hid (HSB7.out.keep k8 (by simp));clear k8 HB7 HSB7 s0 s1 s2 m0 m1 a0 a1 a2 a3 a4 a5 o0 o1 o2 o3 o4 o5 n0 n1 f0 f1;have m0:=HB8.out.2.1.cell 0;have m1:=HB8.out.2.1.cell 1;obtain ⟨a0,a1,a2,a3,a4,a5⟩:=HB8.out.2.2.1.op;obtain ⟨o0,o1,o2,o3,o4,o5⟩:=HB8.out.2.2.2.1.op;have n0:=HB8.out.2.2.2.2.cell 0;have n1:=HB8.out.2.2.2.2.cell 1;have f0:=HB8.out.2.2.2.2.free 0;have f1:=HB8.out.2.2.2.2.free 1;simp only [List.getElem?_cons_zero,List.getElem?_cons_succ] at m0 m1 n0 n1;obtain ⟨⟨s0,s1,s2⟩,_⟩:=Blk.three HSB8.out
            cases wh with
            | false =>
             have HE:Hid (D=(st,none)):=Lib.hid (by rw [← HD.out];(try dsimp only);simp [HCS.out,HWG.out,HWH.out])
             go_wp2_with fail
             go_meet
             exact ⟨true,rfl,HB8.out,HSB8.out,fun _=>HE.out,fun h=>(by cases h)⟩
            | true =>
             have HOR:Hid ((st.waits gi).isSome=true∨(st.waits hi).isSome=true):=Lib.hid (.inr HWH.out)
             go_wp2_with fail
             refine (ref20_agrees _ _ _ _ st r S gi a UA (HM.out.then HB8.out.1) HR.out (HA.out.then caseE_kept HB8.out.1)).mono ?_;obtain ⟨ag,hag⟩:∃ ag,Md.agrees st gi a=ag:=⟨_,rfl⟩
             rw [hag];have HAG:=Lib.hid hag;clear hag
             rintro e w9 ⟨rfl,k9⟩
             have HB9:=Lib.hid (HB8.out.then k9);have HSB9:=Lib.hid (HSB8.out.keep k9 (by simp));clear k9 s0 s1 s2 m0 m1 a0 a1 a2 a3 a4 a5 o0 o1 o2 o3 o4 o5 n0 n1 f0 f1;have m0:=HB9.out.2.1.cell 0;have m1:=HB9.out.2.1.cell 1;obtain ⟨a0,a1,a2,a3,a4,a5⟩:=HB9.out.2.2.1.op;obtain ⟨o0,o1,o2,o3,o4,o5⟩:=HB9.out.2.2.2.1.op;have n0:=HB9.out.2.2.2.2.cell 0;have n1:=HB9.out.2.2.2.2.cell 1;have f0:=HB9.out.2.2.2.2.free 0;have f1:=HB9.out.2.2.2.2.free 1;simp only [List.getElem?_cons_zero,List.getElem?_cons_succ] at m0 m1 n0 n1;obtain ⟨⟨s0,s1,s2⟩,_⟩:=Blk.three HSB9.out
             cases ag with
             | false =>
              have HE:Hid (D=(st,none)):=Lib.hid (by rw [← HD.out];(try dsimp only);simp [HCS.out,HAG.out])
              go_wp2_with fail
              go_meet
              exact ⟨true,rfl,HB9.out,HSB9.out,fun _=>HE.out,fun h=>(by cases h)⟩
             | true =>
              go_wp2_with fail
              refine (ref20_agrees _ _ _ _ st r S hi o UB (HM.out.then HB9.out.1) HR.out (HO.out.then caseE_kept HB9.out.1)).mono ?_;obtain ⟨bg,hbg⟩:∃ bg,Md.agrees st hi o=bg:=⟨_,rfl⟩
              rw [hbg];have HBG:=Lib.hid hbg;clear hbg
              rintro e w10 ⟨rfl,k10⟩
              have HB10:=Lib.hid (HB9.out.then k10);have HSB10:=Lib.hid (HSB9.out.keep k10 (by simp));clear k10 s0 s1 s2 m0 m1 a0 a1 a2 a3 a4 a5 o0 o1 o2 o3 o4 o5 n0 n1 f0 f1;have m0:=HB10.out.2.1.cell 0;have m1:=HB10.out.2.1.cell 1;obtain ⟨a0,a1,a2,a3,a4,a5⟩:=HB10.out.2.2.1.op;obtain ⟨o0,o1,o2,o3,o4,o5⟩:=HB10.out.2.2.2.1.op;have n0:=HB10.out.2.2.2.2.cell 0;have n1:=HB10.out.2.2.2.2.cell 1;have f0:=HB10.out.2.2.2.2.free 0;have f1:=HB10.out.2.2.2.2.free 1;simp only [List.getElem?_cons_zero,List.getElem?_cons_succ] at m0 m1 n0 n1;obtain ⟨⟨s0,s1,s2⟩,_⟩:=Blk.three HSB10.out
              cases bg with
              | false =>
               have HE:Hid (D=(st,none)):=Lib.hid (by rw [← HD.out];(try dsimp only);simp [HCS.out,HBG.out])
               go_wp2_with fail
               go_meet
               exact ⟨true,rfl,HB10.out,HSB10.out,fun _=>HE.out,fun h=>(by cases h)⟩
              | true =>
               have HE:Hid (D=(⟨st.chans,Md.drops (Md.drops st.waits gi) hi⟩,some s.v)):=Lib.hid (by rw [← HD.out];(try dsimp only);have:=HGH.out;simp [HCS.out,this,HAG.out,HBG.out,HCZ.out,HCL.out,HOR.out,HSS.out])
               go_wp2_with fail
               go_meet
               exact ⟨false,rfl,HB10.out,HSB10.out,fun h=>(by cases h),fun _=>HE.out⟩
           | true =>
            have HOR:Hid ((st.waits gi).isSome=true∨(st.waits hi).isSome=true):=Lib.hid (.inl HWG.out)
            go_wp2_with fail
            refine (ref20_agrees _ _ _ _ st r S gi a UA (HM.out.then HB7.out.1) HR.out (HA.out.then caseE_kept HB7.out.1)).mono ?_;obtain ⟨ag,hag⟩:∃ ag,Md.agrees st gi a=ag:=⟨_,rfl⟩
            rw [hag];have HAG:=Lib.hid hag;clear hag
            rintro e w8 ⟨rfl,k8⟩
            have HB8:=Lib.hid (HB7.out.then k8);have HSB8:=Lib.hid (HSB7.out.keep k8 (by simp));clear k8 s0 s1 s2 m0 m1 a0 a1 a2 a3 a4 a5 o0 o1 o2 o3 o4 o5 n0 n1 f0 f1;have m0:=HB8.out.2.1.cell 0;have m1:=HB8.out.2.1.cell 1;obtain ⟨a0,a1,a2,a3,a4,a5⟩:=HB8.out.2.2.1.op;obtain ⟨o0,o1,o2,o3,o4,o5⟩:=HB8.out.2.2.2.1.op;have n0:=HB8.out.2.2.2.2.cell 0;have n1:=HB8.out.2.2.2.2.cell 1;have f0:=HB8.out.2.2.2.2.free 0;have f1:=HB8.out.2.2.2.2.free 1;simp only [List.getElem?_cons_zero,List.getElem?_cons_succ] at m0 m1 n0 n1;obtain ⟨⟨s0,s1,s2⟩,_⟩:=Blk.three HSB8.out
            cases ag with
            | false =>
             have HE:Hid (D=(st,none)):=Lib.hid (by rw [← HD.out];(try dsimp only);simp [HCS.out,HAG.out])
             go_wp2_with fail
             go_meet
             exact ⟨true,rfl,HB8.out,HSB8.out,fun _=>HE.out,fun h=>(by cases h)⟩
            | true =>
             go_wp2_with fail
             refine (ref20_agrees _ _ _ _ st r S hi o UB (HM.out.then HB8.out.1) HR.out (HO.out.then caseE_kept HB8.out.1)).mono ?_;obtain ⟨bg,hbg⟩:∃ bg,Md.agrees st hi o=bg:=⟨_,rfl⟩
             rw [hbg];have HBG:=Lib.hid hbg;clear hbg
             rintro e w9 ⟨rfl,k9⟩
             have HB9:=Lib.hid (HB8.out.then k9);have HSB9:=Lib.hid (HSB8.out.keep k9 (by simp));clear k9 s0 s1 s2 m0 m1 a0 a1 a2 a3 a4 a5 o0 o1 o2 o3 o4 o5 n0 n1 f0 f1;have m0:=HB9.out.2.1.cell 0;have m1:=HB9.out.2.1.cell 1;obtain ⟨a0,a1,a2,a3,a4,a5⟩:=HB9.out.2.2.1.op;obtain ⟨o0,o1,o2,o3,o4,o5⟩:=HB9.out.2.2.2.1.op;have n0:=HB9.out.2.2.2.2.cell 0;have n1:=HB9.out.2.2.2.2.cell 1;have f0:=HB9.out.2.2.2.2.free 0;have f1:=HB9.out.2.2.2.2.free 1;simp only [List.getElem?_cons_zero,List.getElem?_cons_succ] at m0 m1 n0 n1;obtain ⟨⟨s0,s1,s2⟩,_⟩:=Blk.three HSB9.out
             cases bg with
             | false =>
              have HE:Hid (D=(st,none)):=Lib.hid (by rw [← HD.out];(try dsimp only);simp [HCS.out,HBG.out])
              go_wp2_with fail
              go_meet
              exact ⟨true,rfl,HB9.out,HSB9.out,fun _=>HE.out,fun h=>(by cases h)⟩
             | true =>
              have HE:Hid (D=(⟨st.chans,Md.drops (Md.drops st.waits gi) hi⟩,some s.v)):=Lib.hid (by rw [← HD.out];(try dsimp only);have:=HGH.out;simp [HCS.out,this,HAG.out,HBG.out,HCZ.out,HCL.out,HOR.out,HSS.out])
              go_wp2_with fail
              go_meet
              exact ⟨false,rfl,HB9.out,HSB9.out,fun h=>(by cases h),fun _=>HE.out⟩
        case rest =>
         obtain ⟨bb,rfl,hbx,hsx,hd1,hd2⟩:=hcut;have HBC:=Lib.hid hbx;have HSC2:=Lib.hid hsx;have HD1:=Lib.hid hd1;have HD2:=Lib.hid hd2;clear hbx hsx hd1 hd2 HB6 HSB6 HCB6 s0 s1 s2 c0 c1 c2 m0 m1 a0 a1 a2 a3 a4 a5 o0 o1 o2 o3 o4 o5 n0 n1 f0 f1;have m0:=HBC.out.2.1.cell 0;have m1:=HBC.out.2.1.cell 1;obtain ⟨a0,a1,a2,a3,a4,a5⟩:=HBC.out.2.2.1.op;obtain ⟨o0,o1,o2,o3,o4,o5⟩:=HBC.out.2.2.2.1.op;have n0:=HBC.out.2.2.2.2.cell 0;have n1:=HBC.out.2.2.2.2.cell 1;have f0:=HBC.out.2.2.2.2.free 0;have f1:=HBC.out.2.2.2.2.free 1;simp only [List.getElem?_cons_zero,List.getElem?_cons_succ] at m0 m1 n0 n1;obtain ⟨⟨s0,s1,s2⟩,_⟩:=Blk.three HSC2.out
         cases bb with
         | true =>
          have HE:Hid (D=(st,none)):=Lib.hid (by first | exact HD1.out rfl | exact HD1.out trivial)
          go_wp2_with fail
          refine bodyPost_ret (v:=.tuple #[.agg #[.slice (some ⟨g,off,none⟩) r.chans.length cc,.slice aw r.waits.length cw],.int .i64 0,.bool false]) (by simp [results,Try.results51,go_sem, *]) rfl ?_;exact rmeet_no HE.out HM.out HR.out HBC.out HRR.out rfl
         | false =>
          have HE:Hid (D=(⟨st.chans,Md.drops (Md.drops st.waits gi) hi⟩,some s.v)):=Lib.hid (by first | exact HD2.out rfl | exact HD2.out trivial);have HW2:Hid (GV wtE 7 wc.drew (.slice aw r.waits.length cw) r.waits S):=Lib.hid ((HM.out.then HBC.out.1).2.then wtE_kept (Keeps.refl [] wc).drew)
          go_wp2_with fail
          go_region_law (first
           | (go_simp;go_at_call 69;(with_reducible refine (ref20_without _ _ r.waits S gi HW2.out HN.out).mono ?_);rintro e wA ⟨vA,SA,rfl,gA,kA,qA⟩;obtain ⟨aA,cA,rfl⟩:=gA.shape;have HGA:=Lib.hid gA;have HQA:=Lib.hid qA;have HBXA:=Lib.hid ((HBC.out.then (Keeps.refl [] wc).drew).then kA);have HSXA:=Lib.hid ((HSC2.out.drew).keep kA (by simp));clear gA kA qA s0 s1 s2 m0 m1 a0 a1 a2 a3 a4 a5 o0 o1 o2 o3 o4 o5 n0 n1 f0 f1;have m0:=HBXA.out.2.1.cell 0;have m1:=HBXA.out.2.1.cell 1;obtain ⟨a0,a1,a2,a3,a4,a5⟩:=HBXA.out.2.2.1.op;obtain ⟨o0,o1,o2,o3,o4,o5⟩:=HBXA.out.2.2.2.1.op;have n0:=HBXA.out.2.2.2.2.cell 0;have n1:=HBXA.out.2.2.2.2.cell 1;have f0:=HBXA.out.2.2.2.2.free 0;have f1:=HBXA.out.2.2.2.2.free 1;simp only [List.getElem?_cons_zero,List.getElem?_cons_succ] at m0 m1 n0 n1;obtain ⟨⟨s0,s1,s2⟩,_⟩:=Blk.three HSXA.out)
           | (go_simp;go_at_call 69;(with_reducible refine (ref20_without _ _ (keepsG gi r.waits) SA hi HGA.out (Nat.le_trans (keepsG_le _ _) HN.out)).mono ?_);rintro e wB ⟨vB,SB,rfl,gB,kB,qB⟩;obtain ⟨aB,cB,rfl⟩:=gB.shape;have HGB:=Lib.hid gB;have HQB:=Lib.hid qB;have HBXB:=Lib.hid (HBXA.out.then kB);have HSXB:=Lib.hid (HSXA.out.keep kB (by simp));clear gB kB qB s0 s1 s2 m0 m1 a0 a1 a2 a3 a4 a5 o0 o1 o2 o3 o4 o5 n0 n1 f0 f1;have m0:=HBXB.out.2.1.cell 0;have m1:=HBXB.out.2.1.cell 1;obtain ⟨a0,a1,a2,a3,a4,a5⟩:=HBXB.out.2.2.1.op;obtain ⟨o0,o1,o2,o3,o4,o5⟩:=HBXB.out.2.2.2.1.op;have n0:=HBXB.out.2.2.2.2.cell 0;have n1:=HBXB.out.2.2.2.2.cell 1;have f0:=HBXB.out.2.2.2.2.free 0;have f1:=HBXB.out.2.2.2.2.free 1;simp only [List.getElem?_cons_zero,List.getElem?_cons_succ] at m0 m1 n0 n1;obtain ⟨⟨s0,s1,s2⟩,_⟩:=Blk.three HSXB.out)
           | fail)
          all_goals
           go_wp2_with fail
           refine bodyPost_ret (v:=.tuple #[.agg #[.slice (some ⟨g,off,none⟩) r.chans.length cc,.slice aB (keepsG hi (keepsG gi r.waits)).length cB],.int .i64 s.v,.bool true]) (by simp [results,Try.results51,go_sem, *]) rfl ?_;exact rmeet_yes HE.out HM.out HR.out HBXB.out HRR.out HGB.out (fun x hx=>by
            have hz:=HBC.out.2.2.2.2.lt;rcases HQB.out x hx with h | h
            ·rcases HQA.out x h with h | h
             ·exact .inl h
             ·right;simp at h;omega
            ·right;have:=HBXA.out.2.2.2.2.lt;omega) rfl
open Go.RowKit
set_option maxRecDepth 100000 in
set_option maxHeartbeats 1600000 in
theorem ref20_any (w:World) (vc vw vo:Value) (st:Md.St) (r:Mr.St) (S:List Nat) (gi:Int) (o:Pn.Op) (U:List Nat) (h:MR w vc vw r S) (hr:Mr.Rel st r) (ho:GV caseE 3 w vo o.cases U) :
  Calls Try.prog 66 #[.agg #[vc,vw],.int .i64 gi,.agg (opV o vo)] w fun e w'=>e=.returned (.bool (Md.anyMay st gi o))∧Keeps [] w w':=by
 have hol:=ho.le;unfold maxLen at hol;have HM:=Lib.hid h;have HR:=Lib.hid hr;have HO:=Lib.hid ho;obtain ⟨ac,cc,rfl⟩:=h.1.shape;obtain ⟨aw,cw,rfl⟩:=h.2.shape;obtain ⟨ao,co,rfl⟩:=ho.shape;obtain ⟨q,hq⟩:∃ q,Md.anyMay st gi o=q:=⟨_,rfl⟩
 rw [hq];unfold Md.anyMay at hq;have HQ:=Lib.hid hq;clear h hr ho hq;obtain ⟨w0,hw0⟩:∃ w0,(w.alloc (.cells #[.slice ac r.chans.length cc,.slice aw r.waits.length cw] 35)).alloc (.cells #[.int .i64 o.kind,.int .i64 o.ch,.int .i64 o.n,.int .i64 o.v,.slice ao o.cases.length co,.bool o.els] 28)=w0:=⟨_,rfl⟩
 have K0:Hid (Keeps [] w w0):=Lib.hid (hw0 ▸ ((Keeps.refl [] w).alloc _).alloc _);have HMB:Hid (Blk w0 w.heap.size [.slice ac r.chans.length cc,.slice aw r.waits.length cw] 35):=Lib.hid (hw0 ▸ (Blk.fresh w [.slice ac r.chans.length cc,.slice aw r.waits.length cw] _ _ rfl).alloc _);have HOB:Hid (Blk w0 (w.heap.size + 1) [.int .i64 o.kind,.int .i64 o.ch,.int .i64 o.n,.int .i64 o.v,.slice ao o.cases.length co,.bool o.els] 28):=Lib.hid (hw0 ▸ Blk.fresh _ [.int .i64 o.kind,.int .i64 o.ch,.int .i64 o.n,.int .i64 o.v,.slice ao o.cases.length co,.bool o.els] _ _ (by simp));unfold opV
 go_enter Try.func66,Try.ntmps66
 go_wp2_with fail
 clear hw0
 go_loopw [7] (fun u wr=>∃ k:Nat,k≤o.cases.length + 1∧u=.int .i64 ((k:Int) - 1)∧Hid (Keeps [] w0 wr∧Md.anyUpto o (fun _ s=>Md.may st gi s) k=false)) (fun u _=>o.cases.length + 1 - (intOf u + 1).toNat)
 case atStart=>exact ⟨0,Nat.zero_le _,rfl,Lib.hid ⟨Keeps.refl _ _,rfl⟩⟩
 case round =>
  obtain ⟨k,hk,rfl,HI⟩:=hrel;obtain ⟨wo,rfl⟩:∃ wo:World,wo=wr:=⟨_,rfl⟩
  obtain ⟨⟨b0,b1,b2,b3,b4,b5⟩,_⟩:=Blk.six (HOB.out.keep HI.out.1 (by simp));have m0:wo.cell? ⟨w.heap.size,0,none⟩=some (.slice ac r.chans.length cc):=(HMB.out.keep HI.out.1 (by simp)).cell 0;have m1:wo.cell? ⟨w.heap.size,1,none⟩=some (.slice aw r.waits.length cw):=(HMB.out.keep HI.out.1 (by simp)).cell 1
  by_cases hlt:k≤o.cases.length
  ·have hl1:(k:Int) - 1 < (o.cases.length:Int):=by omega
   have HLT:=Lib.hid hlt;clear hlt
   go_wp2_with fail
   refine (ref20_may _ _ _ _ st r S gi o U ((k:Int) - 1) (HM.out.then (K0.out.then HI.out.1)) HR.out (HO.out.then caseE_kept (K0.out.then HI.out.1))).mono ?_;obtain ⟨b,hb⟩:∃ b,Md.mayAt st gi o ((k:Int) - 1)=b:=⟨_,rfl⟩
   rw [hb]
   rintro e w1 ⟨rfl,k1⟩
   have K1:=Lib.hid (HI.out.1.then k1);have HS:Hid (Md.anyUpto o (fun _ s=>Md.may st gi s) (k + 1)=b):=Lib.hid ((Md.any_step HI.out.2).trans hb);clear k1 b0 b1 b2 b3 b4 b5 m0 m1 hb
   cases b with
   | true =>
    have HT:Hid (q=true):=Lib.hid (by rw [← HQ.out];exact Md.any_more HS.out (by have:=HLT.out;omega))
    go_wp2_with fail
    go_ret
    exact ⟨by rw [HT.out];rfl,K0.out.then K1.out⟩
   | false =>
    go_wp2_with fail
    go_roundw
    case rel=>exact ⟨k + 1,by have:=HLT.out;omega,by go_num,Lib.hid ⟨K1.out,HS.out⟩⟩
    case measure =>
     have:=HLT.out;simp [intOf];omega
  ·obtain rfl:k=o.cases.length + 1:=by omega
   have HT:Hid (q=false):=Lib.hid (by rw [← HQ.out];exact HI.out.2)
   go_wp2_with fail
   go_ret
   exact ⟨by rw [HT.out];rfl,K0.out.then HI.out.1⟩
set_option maxHeartbeats 1600000 in
theorem ref20_no (w:World) (vc vw vo:Value) (st:Md.St) (r:Mr.St) (S:List Nat) (gi:Int) (o:Pn.Op) (U:List Nat) (h:MR w vc vw r S) (hr:Mr.Rel st r) (ho:GV caseE 3 w vo o.cases U) :
  Calls Try.prog 47 #[.agg #[vc,vw],.int .i64 gi,.agg (opV o vo)] w fun e w'=>e=.returned (.bool (Md.no st gi o))∧Keeps [] w w':=by
 obtain ⟨kind,ch,n,v,cases_,els⟩:=o;simp only [opV] at *;have HM:=Lib.hid h;have HR:=Lib.hid hr;have HO:=Lib.hid ho;obtain ⟨ac,cc,rfl⟩:=h.1.shape;obtain ⟨aw,cw,rfl⟩:=h.2.shape;obtain ⟨ao,co,rfl⟩:=ho.shape;obtain ⟨q,hq⟩:∃ q,Md.no st gi (⟨kind,ch,n,v,cases_,els⟩:Pn.Op)=q:=⟨_,rfl⟩
 rw [hq];unfold Md.no at hq;have HQ:=Lib.hid hq;clear h hr ho hq;obtain ⟨w0,hw0⟩:∃ w0,(w.alloc (.cells #[.slice ac r.chans.length cc,.slice aw r.waits.length cw] 35)).alloc (.cells #[.int .i64 kind,.int .i64 ch,.int .i64 n,.int .i64 v,.slice ao cases_.length co,.bool els] 28)=w0:=⟨_,rfl⟩
 have K0:Hid (Keeps [] w w0):=Lib.hid (hw0 ▸ ((Keeps.refl [] w).alloc _).alloc _);have HMB:Hid (Blk w0 w.heap.size [.slice ac r.chans.length cc,.slice aw r.waits.length cw] 35):=Lib.hid (hw0 ▸ (Blk.fresh w [.slice ac r.chans.length cc,.slice aw r.waits.length cw] _ _ rfl).alloc _);have HOB:Hid (Blk w0 (w.heap.size + 1) [.int .i64 kind,.int .i64 ch,.int .i64 n,.int .i64 v,.slice ao cases_.length co,.bool els] 28):=Lib.hid (hw0 ▸ Blk.fresh _ [.int .i64 kind,.int .i64 ch,.int .i64 n,.int .i64 v,.slice ao cases_.length co,.bool els] _ _ (by simp));obtain ⟨⟨b0,b1,b2,b3,b4,b5⟩,_⟩:=Blk.six HOB.out;have m0:w0.cell? ⟨w.heap.size,0,none⟩=some (.slice ac r.chans.length cc):=HMB.out.cell 0;have m1:w0.cell? ⟨w.heap.size,1,none⟩=some (.slice aw r.waits.length cw):=HMB.out.cell 1;have HT:Hid (Md.tries (⟨kind,ch,n,v,cases_,els⟩:Pn.Op)=((kind == 4) || (kind == 5) || ((kind == 9) && els))):=Lib.hid (by
  unfold Md.tries
  cases els <;> by_cases a4:kind=4 <;> by_cases a5:kind=5 <;> by_cases a9:kind=9 <;> simp_all)
 go_enter Try.func47,Try.ntmps47
 go_upto_region 1 with fail
 clear hw0
 cases c4:(kind == 4) with
 | true =>
  have HTT:Hid (Md.tries (⟨kind,ch,n,v,cases_,els⟩:Pn.Op)=true):=Lib.hid (by rw [HT.out];simp [*])
  go_wp2_with fail
  refine (ref20_any _ _ _ _ st r S gi (⟨kind,ch,n,v,cases_,els⟩:Pn.Op) U (HM.out.then K0.out) HR.out (HO.out.then caseE_kept K0.out)).mono ?_
  rintro e w1 ⟨rfl,k1⟩
  have K1:=Lib.hid (K0.out.then k1);clear k1 b0 b1 b2 b3 b4 b5 m0 m1;have HE:Hid (q=!Md.anyMay st gi (⟨kind,ch,n,v,cases_,els⟩:Pn.Op)):=Lib.hid (by rw [← HQ.out,HTT.out];rfl)
  go_wp2_with fail
  go_ret
  exact ⟨by rw [HE.out];rfl,K1.out⟩
 | false =>
  cases c5:(kind == 5) with
  | true =>
   have HTT:Hid (Md.tries (⟨kind,ch,n,v,cases_,els⟩:Pn.Op)=true):=Lib.hid (by rw [HT.out];simp [*])
   go_wp2_with fail
   refine (ref20_any _ _ _ _ st r S gi (⟨kind,ch,n,v,cases_,els⟩:Pn.Op) U (HM.out.then K0.out) HR.out (HO.out.then caseE_kept K0.out)).mono ?_
   rintro e w1 ⟨rfl,k1⟩
   have K1:=Lib.hid (K0.out.then k1);clear k1 b0 b1 b2 b3 b4 b5 m0 m1;have HE:Hid (q=!Md.anyMay st gi (⟨kind,ch,n,v,cases_,els⟩:Pn.Op)):=Lib.hid (by rw [← HQ.out,HTT.out];rfl)
   go_wp2_with fail
   go_ret
   exact ⟨by rw [HE.out];rfl,K1.out⟩
  | false =>
   cases c9:(kind == 9) with
   | true =>
    cases els with
    | true =>
     have HTT:Hid (Md.tries (⟨kind,ch,n,v,cases_,true⟩:Pn.Op)=true):=Lib.hid (by rw [HT.out];simp [*])
     go_wp2_with fail
     refine (ref20_any _ _ _ _ st r S gi (⟨kind,ch,n,v,cases_,true⟩:Pn.Op) U (HM.out.then K0.out) HR.out (HO.out.then caseE_kept K0.out)).mono ?_
     rintro e w1 ⟨rfl,k1⟩
     have K1:=Lib.hid (K0.out.then k1);clear k1 b0 b1 b2 b3 b4 b5 m0 m1;have HE:Hid (q=!Md.anyMay st gi (⟨kind,ch,n,v,cases_,true⟩:Pn.Op)):=Lib.hid (by rw [← HQ.out,HTT.out];rfl)
     go_wp2_with fail
     go_ret
     exact ⟨by rw [HE.out];rfl,K1.out⟩
    | false =>
     have HTT:Hid (Md.tries (⟨kind,ch,n,v,cases_,false⟩:Pn.Op)=false):=Lib.hid (by rw [HT.out];simp [*]);have HE:Hid (q=false):=Lib.hid (by rw [← HQ.out,HTT.out];rfl)
     go_wp2_with fail
     go_ret
     exact ⟨by rw [HE.out];rfl,K0.out⟩
   | false =>
    have HTT:Hid (Md.tries (⟨kind,ch,n,v,cases_,els⟩:Pn.Op)=false):=Lib.hid (by rw [HT.out];simp [*]);have HE:Hid (q=false):=Lib.hid (by rw [← HQ.out,HTT.out];rfl)
    go_wp2_with fail
    go_ret
    exact ⟨by rw [HE.out];rfl,K0.out⟩
end Go.Proofs.Ytdibmkjoaghafaa
