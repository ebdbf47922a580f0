/-
  What the laws need, part Q18.
  Conditions: none.
-/
import Derived.Test.YtdibmkjoaghafaaQ17
set_option linter.unusedVariables false
set_option linter.unusedSimpArgs false
set_option linter.unnecessarySimpa false
set_option maxHeartbeats 2000000
namespace Go.Proofs.Ytdibmkjoaghafaa
open Go.RowKit
def PuB (w:World) (vc vw va:Value) (o:Pn.Op) (wx:World):Prop :=
 Keeps [] w wx∧Blk wx w.heap.size [vc,vw] 35∧Blk wx (w.heap.size + 1) (opL o va) 28∧Blk wx (w.heap.size + 1 + 1) [.slice none 0 0,.slice none 0 0] 35
theorem PuB.keep {w wx wy:World} {vc vw va:Value} {o:Pn.Op} {T:List Nat} (h:PuB w vc vw va o wx) (k:Keeps T wx wy) (hT:∀ x∈T,w.heap.size + 3≤x):PuB w vc vw va o wy :=
 ⟨h.1.trans k (fun x hx=>.inr (by have:=hT x hx;omega)),h.2.1.keep k (fun hm=>by have:=hT _ hm;omega),h.2.2.1.keep k (fun hm=>by have:=hT _ hm;omega),h.2.2.2.keep k (fun hm=>by have:=hT _ hm;omega)⟩
theorem PuB.then {w wx wy:World} {vc vw va:Value} {o:Pn.Op} (h:PuB w vc vw va o wx) (k:Keeps [] wx wy):PuB w vc vw va o wy:=h.keep k (by simp)
theorem PuB.lt {w wx:World} {vc vw va:Value} {o:Pn.Op} (h:PuB w vc vw va o wx):w.heap.size + 3≤wx.heap.size:=h.2.2.2.lt
def thereP (st:Md.St) (_:Int) (s:Md.Sd):Bool:=(Md.chan st.chans s.ch).isSome
def RWaitPost (w:World) (D:Md.St × Bool) (n:Nat) (R:Nat→Prop) (e:Ending) (w':World):Prop :=
 ∃ v,e=.returned (.tuple #[v,.bool D.2])∧RTo w D.1 n R v w'
def PuC (w:World) (vc vw va:Value) (o:Pn.Op) (st:Md.St) (D:Md.St × Bool) (gi:Int) (v:Value) (wx:World):Prop :=
 ∃ bb:Bool,v=.bool bb∧PuB w vc vw va o wx∧(bb=true→D=(st,false))∧(bb=false→D=(⟨st.chans,fun c=>if c=gi then some o else st.waits c⟩,true)∧st.waits gi=none)
theorem rwait_no {w wx W:World} {st:Md.St} {D:Md.St × Bool} {r:Mr.St} {S:List Nat} {R:Nat→Prop} {vc vw va:Value} {o:Pn.Op} (hD:D=(st,false)) (h:MR w vc vw r S) (hr:Mr.Rel st r) (hb:PuB w vc vw va o wx) (hR:∀ x∈S,R x)
  (hW:W=(wx.setCell ⟨w.heap.size + 1 + 1,0,none⟩ vc).setCell ⟨w.heap.size + 1 + 1,1,none⟩ vw):RWaitPost w D (r.waits.length + 1) R (.returned (.tuple #[.agg #[vc,vw],.bool false])) W:=by
 subst hD hW;have kf:Keeps [w.heap.size + 1 + 1] wx ((wx.setCell ⟨w.heap.size + 1 + 1,0,none⟩ vc).setCell ⟨w.heap.size + 1 + 1,1,none⟩ vw):=((Keeps.refl _ wx).setCell (by simp) _).setCell (by simp) _;have kk:Keeps [] w ((wx.setCell ⟨w.heap.size + 1 + 1,0,none⟩ vc).setCell ⟨w.heap.size + 1 + 1,1,none⟩ vw):=hb.1.trans kf (fun x hx=>by simp at hx;subst hx;exact .inr (by omega));exact ⟨_,rfl,r,hr,Nat.le_succ _,(h.then kk).to kk hR⟩
theorem rel_put {st:Md.St} {r:Mr.St} {g:Int} {o:Pn.Op} (h:Mr.Rel st r) (hn:st.waits g=none):Mr.Rel ⟨st.chans,fun c=>if c=g then some o else st.waits c⟩ ⟨r.chans,r.waits ++ [(g,o)]⟩:=by
 refine ⟨h.1,fun x p=>?_⟩;simp only [List.mem_append,List.mem_singleton,Prod.mk.injEq]
 by_cases e:x=g
 ·subst e;simp only [if_true]
  constructor
  ·intro hh;right;cases hh;simp
  ·rintro (hh | ⟨_,rfl⟩)
   ·rw [← h.2 x p,hn] at hh;cases hh
   ·rfl
 ·rw [if_neg e,h.2 x p];simp [e]
theorem rwait_yes {w wx W:World} {st:Md.St} {D:Md.St × Bool} {r:Mr.St} {S SB T7:List Nat} {R:Nat→Prop} {vc vw va v':Value} {o:Pn.Op} {gi:Int} (hD:D=(⟨st.chans,fun c=>if c=gi then some o else st.waits c⟩,true)) (hn:st.waits gi=none) (h:MR w vc vw r S) (hr:Mr.Rel st r) (hb:PuB w vc vw va o wx) (hR:∀ x∈S,R x)
  (hv:GR wtE 7 wx v' 84 (r.waits ++ [(gi,o)]) T7 SB) (hT:∀ x∈T7,w.heap.size + 3≤x) (hS:∀ x∈SB,(x < w.heap.size∧R x)∨w.heap.size + 3≤x)
  (hW:W=(wx.setCell ⟨w.heap.size + 1 + 1,0,none⟩ vc).setCell ⟨w.heap.size + 1 + 1,1,none⟩ v'):RWaitPost w D (r.waits.length + 1) R (.returned (.tuple #[.agg #[vc,v'],.bool true])) W:=by
 subst hD hW;have kf:Keeps [w.heap.size + 1 + 1] wx ((wx.setCell ⟨w.heap.size + 1 + 1,0,none⟩ vc).setCell ⟨w.heap.size + 1 + 1,1,none⟩ v'):=((Keeps.refl _ wx).setCell (by simp) _).setCell (by simp) _;have kk:Keeps [] w ((wx.setCell ⟨w.heap.size + 1 + 1,0,none⟩ vc).setCell ⟨w.heap.size + 1 + 1,1,none⟩ v'):=hb.1.trans kf (fun x hx=>by simp at hx;subst hx;exact .inr (by omega));have hg:=hv.gv;have hlt:∀ x∈S ++ (T7 ++ SB),x < wx.heap.size:=fun x hx=>by
  rcases List.mem_append.1 hx with h2 | h2
  ·exact (h.then hb.1).lt x h2
  ·exact hg.lt x h2
 have hcl:∀ x∈S ++ (T7 ++ SB),(x < w.heap.size∧R x)∨w.heap.size + 3≤x:=fun x hx=>by
  rcases List.mem_append.1 hx with h2 | h2
  ·exact .inl ⟨h.lt x h2,hR x h2⟩
  ·rcases List.mem_append.1 h2 with h3 | h3
   ·exact .inr (hT x h3)
   ·exact hS x h3
 have hne:∀ x∈S ++ (T7 ++ SB),x∉[w.heap.size + 1 + 1]:=fun x hx hm=>by
  simp only [List.mem_singleton] at hm;subst hm;rcases hcl _ hx with h2 | h2 <;> omega
 refine ⟨_,rfl,⟨r.chans,r.waits ++ [(gi,o)]⟩,rel_put hr hn,by simp,vc,v',S ++ (T7 ++ SB),rfl,⟨((h.then hb.1).1.mono (fun x hx=>by simp [hx]) hlt).keep chE_kept kf hne,(hg.mono (fun x hx=>by simp at hx;simp [hx]) hlt).keep wtE_kept kf hne⟩,kk,fun x hx=>?_,fun x hx=>Nat.lt_of_lt_of_le (hlt x hx) kf.size⟩;rcases hcl x hx with h2 | h2
 ·exact .inl h2.2
 ·exact .inr (by omega)
theorem Md.begins_eq (o:Pn.Op):Md.begins o=((o.kind == 2) || (o.kind == 3) || ((o.kind == 9) && !o.els)):=by
 unfold Md.begins
 cases o.els <;> by_cases a2:o.kind=2 <;> by_cases a3:o.kind=3 <;> by_cases a9:o.kind=9 <;> simp_all
theorem Md.wait_eq (st:Md.St) (g:Int) (o:Pn.Op):Md.wait st g o=if Md.begins o=true∧Md.any o (thereP st)=true∧st.waits g=none∧Md.anyMay st g o=false then (⟨st.chans,fun c=>if c=g then some o else st.waits c⟩,true) else (st,false):=rfl
theorem PuB.s8 {w wx:World} {ac aw aa:Option Addr} {n m cc cw ca:Nat} {o:Pn.Op} (h:PuB w (.slice ac n cc) (.slice aw m cw) (.slice aa o.cases.length ca) o wx) :
  wx.cell? ⟨w.heap.size,0,none⟩=some (.slice ac n cc)∧wx.cell? ⟨w.heap.size,1,none⟩=some (.slice aw m cw)∧wx.cell? ⟨w.heap.size + 1,0,none⟩=some (.int .i64 o.kind)∧wx.cell? ⟨w.heap.size + 1,1,none⟩=some (.int .i64 o.ch)∧wx.cell? ⟨w.heap.size + 1,2,none⟩=some (.int .i64 o.n)∧wx.cell? ⟨w.heap.size + 1,3,none⟩=some (.int .i64 o.v)∧wx.cell? ⟨w.heap.size + 1,4,none⟩=some (.slice aa o.cases.length ca)∧wx.cell? ⟨w.heap.size + 1,5,none⟩=some (.bool o.els) :=
 ⟨h.2.1.cell 0,h.2.1.cell 1,h.2.2.1.op⟩
theorem PuB.s8set {w wx:World} {ac aw aa:Option Addr} {n m cc cw ca:Nat} {o:Pn.Op} (h:PuB w (.slice ac n cc) (.slice aw m cw) (.slice aa o.cases.length ca) o wx) (u v:Value) :
  ((wx.setCell ⟨w.heap.size + 1 + 1,0,none⟩ u).setCell ⟨w.heap.size + 1 + 1,1,none⟩ v).cell? ⟨w.heap.size,0,none⟩=some (.slice ac n cc)∧((wx.setCell ⟨w.heap.size + 1 + 1,0,none⟩ u).setCell ⟨w.heap.size + 1 + 1,1,none⟩ v).cell? ⟨w.heap.size,1,none⟩=some (.slice aw m cw)∧((wx.setCell ⟨w.heap.size + 1 + 1,0,none⟩ u).setCell ⟨w.heap.size + 1 + 1,1,none⟩ v).cell? ⟨w.heap.size + 1,0,none⟩=some (.int .i64 o.kind)∧((wx.setCell ⟨w.heap.size + 1 + 1,0,none⟩ u).setCell ⟨w.heap.size + 1 + 1,1,none⟩ v).cell? ⟨w.heap.size + 1,1,none⟩=some (.int .i64 o.ch)∧((wx.setCell ⟨w.heap.size + 1 + 1,0,none⟩ u).setCell ⟨w.heap.size + 1 + 1,1,none⟩ v).cell? ⟨w.heap.size + 1,2,none⟩=some (.int .i64 o.n)∧((wx.setCell ⟨w.heap.size + 1 + 1,0,none⟩ u).setCell ⟨w.heap.size + 1 + 1,1,none⟩ v).cell? ⟨w.heap.size + 1,3,none⟩=some (.int .i64 o.v)∧((wx.setCell ⟨w.heap.size + 1 + 1,0,none⟩ u).setCell ⟨w.heap.size + 1 + 1,1,none⟩ v).cell? ⟨w.heap.size + 1,4,none⟩=some (.slice aa o.cases.length ca)∧((wx.setCell ⟨w.heap.size + 1 + 1,0,none⟩ u).setCell ⟨w.heap.size + 1 + 1,1,none⟩ v).cell? ⟨w.heap.size + 1,5,none⟩=some (.bool o.els):=by
 have k:Keeps [w.heap.size + 1 + 1] wx ((wx.setCell ⟨w.heap.size + 1 + 1,0,none⟩ u).setCell ⟨w.heap.size + 1 + 1,1,none⟩ v):=((Keeps.refl _ wx).setCell (by simp) u).setCell (by simp) v;exact ⟨(h.2.1.keep k (by simp;try omega)).cell 0,(h.2.1.keep k (by simp;try omega)).cell 1,(h.2.2.1.keep k (by simp;try omega)).op⟩
theorem pu7 {w wc Wx w7:World} {vc vw va v7:Value} {o:Pn.Op} {bl:Nat} {l:List (Int × Pn.Op)} {T7 S:List Nat} (hb:PuB w vc vw va o wc) (K:Keeps [bl] wc Wx) (hbl:w.heap.size + 3≤bl) (r7:GR wtE 7 w7 v7 84 l T7 S) (k7:Keeps [bl] Wx w7) (s7:∀ k∈T7,k∈[bl]∨Wx.heap.size≤k) :
  PuB w vc vw va o w7∧GR wtE 7 w7 v7 84 l T7 S∧∀ x∈T7,w.heap.size + 3≤x:=by
 refine ⟨hb.keep (K.trans k7 (fun x hx=>.inl hx)) (fun x hx=>by simp at hx;omega),r7,fun x hx=>?_⟩;have:=hb.lt;have:=K.size;rcases s7 x hx with h | h
 ·simp at h;omega
 ·omega
theorem pu9 {w w7 w9:World} {vc vw va v7 v9:Value} {o:Pn.Op} {l l9:List (Int × Pn.Op)} {T7 T9 S U:List Nat} {R:Nat→Prop} (h7:PuB w vc vw va o w7∧GR wtE 7 w7 v7 84 l T7 S∧∀ x∈T7,w.heap.size + 3≤x) (hS:∀ x∈S,x < w.heap.size∧R x) (hU:∀ x∈U,(x < w.heap.size∧R x)∨w.heap.size + 3≤x)
  (r9:GR wtE 7 w9 v9 84 l9 T9 (S ++ U)) (k9:Keeps T7 w7 w9) (s9:∀ k∈T9,k∈T7∨w7.heap.size≤k) :
  PuB w vc vw va o w9∧GR wtE 7 w9 v9 84 l9 T9 (S ++ U)∧(∀ x∈T9,w.heap.size + 3≤x)∧∀ x∈S ++ U,(x < w.heap.size∧R x)∨w.heap.size + 3≤x:=by
 refine ⟨h7.1.keep k9 h7.2.2,r9,fun x hx=>?_,fun x hx=>?_⟩
 ·have:=h7.1.lt;rcases s9 x hx with h | h
  ·exact h7.2.2 x h
  ·omega
 ·rcases List.mem_append.1 hx with h | h
  ·exact .inl (hS x h)
  ·exact hU x h
theorem pu_ne {b bl n:Nat} {T7 UA:List Nat} (s7:∀ k∈T7,k=bl∨n≤k) (h1:b≠bl) (h2:b < n) (h:∀ y∈UA,y∉T7):∀ y∈b :: UA,y∉T7:=fun y hy hm=>by
 rcases List.mem_cons.1 hy with rfl | hy
 ·rcases s7 _ hm with h | h <;> omega
 ·exact h y hy hm
theorem puE {w7:World} {aa:Option Addr} {ca b:Nat} {gi:Int} {o:Pn.Op} {U:List Nat} (hb:Blk w7 b [.int .i64 gi,.int .i64 o.kind,.int .i64 o.ch,.int .i64 o.n,.int .i64 o.v,.slice aa o.cases.length ca,.bool o.els] 84) (ha:GV caseE 3 w7 (.slice aa o.cases.length ca) o.cases U):GV wtE 7 w7 (.slice (some ⟨b,0,none⟩) 1 1) [(gi,o)] (b :: U) :=
 GV.unit hb rfl ⟨_,rfl,ha⟩ (fun x hx=>ha.lt x hx) (by simp [Value.oneCell'])
set_option maxRecDepth 100000 in
set_option maxHeartbeats 6400000 in
theorem ref20_putWait (w:World) (vc vw va:Value) (st:Md.St) (r:Mr.St) (S:List Nat) (gi:Int) (o:Pn.Op) (UA:List Nat) (h:MR w vc vw r S) (hr:Mr.Rel st r) (ha:GV caseE 3 w va o.cases UA) (hn:r.waits.length≤100000) (R:Nat→Prop) (hR:∀ x∈S,R x) (hRU:∀ x∈UA,R x) :
  Calls Try.prog 46 #[.agg #[vc,vw],.int .i64 gi,.agg (opV o va)] w (RWaitPost w (Md.wait st gi o) (r.waits.length + 1) R):=by
 obtain ⟨D,hD⟩:∃ D,Md.wait st gi o=D:=⟨_,rfl⟩
 rw [hD];rw [Md.wait_eq] at hD;have HD:=Lib.hid hD;have HM:=Lib.hid h;have HR:=Lib.hid hr;have HRR:=Lib.hid hR;have HRU:=Lib.hid hRU;have HN:=Lib.hid hn;have HA:=Lib.hid ha;have HUL:=Lib.hid ha.lt;have HSL:=Lib.hid h.lt;have hle:=h.1.le;have hal:=ha.le;unfold maxLen at hle hal;obtain ⟨ac,cc,rfl⟩:=h.1.shape;obtain ⟨aw,cw,rfl⟩:=h.2.shape;obtain ⟨aa,ca,rfl⟩:=ha.shape;obtain ⟨w0,hw0⟩:∃ w0,((w.alloc (.cells #[.slice ac r.chans.length cc,.slice aw r.waits.length cw] 35)).alloc (.cells (opV o (.slice aa o.cases.length ca)) 28)).alloc (.cells #[.slice none 0 0,.slice none 0 0] 35)=w0:=⟨_,rfl⟩
 have HB0:Hid (PuB w (.slice ac r.chans.length cc) (.slice aw r.waits.length cw) (.slice aa o.cases.length ca) o w0):=Lib.hid (by
  subst hw0;exact ⟨(((Keeps.refl [] w).alloc _).alloc _).alloc _,((Blk.fresh w [.slice ac r.chans.length cc,.slice aw r.waits.length cw] _ _ rfl).alloc _).alloc _,(Blk.fresh _ (opL o (.slice aa o.cases.length ca)) _ _ (by simp)).alloc _,Blk.fresh _ [.slice none 0 0,.slice none 0 0] _ _ (by simp)⟩)
 clear h hr ha hn hD hR hRU;unfold opV at hw0;unfold opV
 go_enter Try.func46,Try.ntmps46
 go_wp2_with fail
 clear hw0
 go_loopw [8,9] (fun m u wr=>∃ (k:Nat) (b:Bool),k≤o.cases.length + 1∧u=.int .i64 ((k:Int) - 1)∧m=.bool b∧Hid (PuB w (.slice ac r.chans.length cc) (.slice aw r.waits.length cw) (.slice aa o.cases.length ca) o wr∧Md.anyUpto o (thereP st) k=b)) (fun _ u _=>o.cases.length + 1 - (intOf u + 1).toNat)
 case atStart=>exact ⟨0,false,Nat.zero_le _,rfl,rfl,Lib.hid ⟨HB0.out,rfl⟩⟩
 case round =>
  obtain ⟨k,b,hk,rfl,rfl,HI⟩:=hrel;obtain ⟨wo,rfl⟩:∃ wo:World,wo=wr:=⟨_,rfl⟩
  have m0:=HI.out.1.2.1.cell 0;have m1:=HI.out.1.2.1.cell 1;obtain ⟨a0,a1,a2,a3,a4,a5⟩:=HI.out.1.2.2.1.op;have n0:=HI.out.1.2.2.2.cell 0;have n1:=HI.out.1.2.2.2.cell 1;have f0:=HI.out.1.2.2.2.free 0;have f1:=HI.out.1.2.2.2.free 1;simp only [List.getElem?_cons_zero,List.getElem?_cons_succ] at m0 m1 n0 n1
  by_cases hlt:k≤o.cases.length
  ·have hl1:(k:Int) - 1 < (o.cases.length:Int):=by omega
   have HLT:=Lib.hid hlt;clear hlt
   go_wp2_with fail
   refine (ref20_side _ o _ UA ((k:Int) - 1) (HA.out.then caseE_kept HI.out.1.1)).mono ?_
   rintro e w1 ⟨rfl,k1⟩
   have HB1:=Lib.hid (HI.out.1.then k1);clear k1 m0 m1 a0 a1 a2 a3 a4 a5 n0 n1 f0 f1;obtain ⟨sa,hsa⟩:∃ sa,Md.side o ((k:Int) - 1)=sa:=⟨_,rfl⟩
   rw [hsa];have HSA:=Lib.hid hsa;clear hsa;obtain ⟨s,hs⟩:∃ s,sa.getD Md.noSide=s:=⟨_,rfl⟩
   rw [hs];have HS:=Lib.hid hs;clear hs;unfold csV;obtain ⟨w2,hw2⟩:∃ w2,w1.alloc (.cells #[.bool s.send,.int .i64 s.ch,.int .i64 s.v] 87)=w2:=⟨_,rfl⟩
   have HB2:=Lib.hid (HB1.out.then (hw2 ▸ (Keeps.refl [] w1).alloc _:Keeps [] w1 w2));have HSB2:Hid (Blk w2 w1.heap.size [.bool s.send,.int .i64 s.ch,.int .i64 s.v] 87):=Lib.hid (hw2 ▸ Blk.fresh w1 [.bool s.send,.int .i64 s.ch,.int .i64 s.v] _ _ rfl);clear HB1
   go_upto_region 6 with fail
   clear hw2;have m0:=HB2.out.2.1.cell 0;have m1:=HB2.out.2.1.cell 1;obtain ⟨a0,a1,a2,a3,a4,a5⟩:=HB2.out.2.2.1.op;have n0:=HB2.out.2.2.2.cell 0;have n1:=HB2.out.2.2.2.cell 1;have f0:=HB2.out.2.2.2.free 0;have f1:=HB2.out.2.2.2.free 1;simp only [List.getElem?_cons_zero,List.getElem?_cons_succ] at m0 m1 n0 n1;have s1:=HSB2.out.cell 1;simp only [List.getElem?_cons_zero,List.getElem?_cons_succ] at s1
   cases b with
   | true =>
    have HT:Hid (Md.anyUpto o (thereP st) (k + 1)=true):=Lib.hid (Md.any_more HI.out.2 (Nat.le_succ k))
    go_wp2_with fail
    go_roundw
    case rel=>exact ⟨k + 1,true,by have:=HLT.out;omega,by go_num,rfl,Lib.hid ⟨HB2.out,HT.out⟩⟩
    case measure =>
     have:=HLT.out;simp [intOf];omega
   | false =>
    cases sa with
    | none =>
     simp only [Option.isSome_none];have HT:Hid (Md.anyUpto o (thereP st) (k + 1)=false):=Lib.hid (by rw [Md.any_step HI.out.2,HSA.out])
     go_wp2_with fail
     go_roundw
     case rel=>exact ⟨k + 1,false,by have:=HLT.out;omega,by go_num,rfl,Lib.hid ⟨HB2.out,HT.out⟩⟩
     case measure =>
      have:=HLT.out;simp [intOf];omega
    | some s' =>
     obtain rfl:s=s':=HS.out.symm;simp only [Option.isSome_some]
     go_wp2_with fail
     refine (ref20_made _ _ _ r S s.ch (HM.out.then HB2.out.1)).mono ?_;obtain ⟨mb,hmb⟩:∃ mb,(Md.chan r.chans s.ch).isSome=mb:=⟨_,rfl⟩
     rw [hmb]
     rintro e w3 ⟨rfl,k3⟩
     have HB3:=Lib.hid (HB2.out.then k3);have HT:Hid (Md.anyUpto o (thereP st) (k + 1)=mb):=Lib.hid (by rw [Md.any_step HI.out.2,HSA.out];unfold thereP;rw [HR.out.1];exact hmb);clear k3 hmb s1 m0 m1 a0 a1 a2 a3 a4 a5 n0 n1 f0 f1
     go_wp2_with fail
     go_roundw
     case rel=>exact ⟨k + 1,mb,by have:=HLT.out;omega,by go_num,rfl,Lib.hid ⟨HB3.out,HT.out⟩⟩
     case measure =>
      have:=HLT.out;simp [intOf];omega
  ·have hk2:k=o.cases.length + 1:=by omega
   have HMD:Hid (Md.any o (thereP st)=b):=Lib.hid (by subst hk2;exact HI.out.2);have HBO:=Lib.hid HI.out.1;obtain ⟨iv,hiv⟩:∃ iv:Int,((k:Int) - 1)=iv:=⟨_,rfl⟩
   rw [hiv];have hge:¬ iv < (o.cases.length:Int):=by omega
   clear hiv hk hk2 hlt
   go_upto_region 7 with fail
   go_cut [66] (PuC w (.slice ac r.chans.length cc) (.slice aw r.waits.length cw) (.slice aa o.cases.length ca) o st D gi)
   case first =>
    have m0:=HI.out.1.2.1.cell 0;have m1:=HI.out.1.2.1.cell 1;obtain ⟨a0,a1,a2,a3,a4,a5⟩:=HI.out.1.2.2.1.op;have n0:=HI.out.1.2.2.2.cell 0;have n1:=HI.out.1.2.2.2.cell 1;have f0:=HI.out.1.2.2.2.free 0;have f1:=HI.out.1.2.2.2.free 1;simp only [List.getElem?_cons_zero,List.getElem?_cons_succ] at m0 m1 n0 n1
    cases t2:(o.kind == 2) with
    | true =>
     have t2n:(o.kind != 2)=false:=by simp [bne,t2]
     have HBEG:Hid (Md.begins o=true):=Lib.hid (by rw [Md.begins_eq];simp [*])
     cases b with
     | false =>
      have HE:Hid (D=(st,false)):=Lib.hid (by rw [← HD.out];exact if_neg (fun h=>by have h1:=HMD.out;rw [h.2.1] at h1;cases h1))
      go_wp2_with fail
      go_meet
      exact ⟨true,rfl,HBO.out,fun _=>HE.out,fun h=>(by cases h)⟩
     | true =>
      go_wp2_with fail
      refine (ref20_waits _ _ _ st r S gi (HM.out.then HBO.out.1) HR.out).mono ?_;obtain ⟨wg,hwg⟩:∃ wg,(st.waits gi).isSome=wg:=⟨_,rfl⟩
      rw [hwg];have HWG:=Lib.hid hwg;clear hwg
      rintro e w4 ⟨rfl,k4⟩
      have HB4:=Lib.hid (HBO.out.then k4);clear k4 m0 m1 a0 a1 a2 a3 a4 a5 n0 n1 f0 f1;have m0:=HB4.out.2.1.cell 0;have m1:=HB4.out.2.1.cell 1;obtain ⟨a0,a1,a2,a3,a4,a5⟩:=HB4.out.2.2.1.op;have n0:=HB4.out.2.2.2.cell 0;have n1:=HB4.out.2.2.2.cell 1;have f0:=HB4.out.2.2.2.free 0;have f1:=HB4.out.2.2.2.free 1;simp only [List.getElem?_cons_zero,List.getElem?_cons_succ] at m0 m1 n0 n1
      cases wg with
      | true =>
       have HE:Hid (D=(st,false)):=Lib.hid (by rw [← HD.out];exact if_neg (fun h=>by have h1:=HWG.out;rw [h.2.2.1] at h1;cases h1))
       go_wp2_with fail
       go_meet
       exact ⟨true,rfl,HB4.out,fun _=>HE.out,fun h=>(by cases h)⟩
      | false =>
       go_wp2_with fail
       refine (ref20_any _ _ _ _ st r S gi o UA (HM.out.then HB4.out.1) HR.out (HA.out.then caseE_kept HB4.out.1)).mono ?_;obtain ⟨an,han⟩:∃ an,Md.anyMay st gi o=an:=⟨_,rfl⟩
       rw [han];have HAN:=Lib.hid han;clear han
       rintro e w5 ⟨rfl,k5⟩
       have HB5:=Lib.hid (HB4.out.then k5);clear k5 m0 m1 a0 a1 a2 a3 a4 a5 n0 n1 f0 f1;have HWN:Hid (st.waits gi=none):=Lib.hid (by
        have h1:=HWG.out
        cases hx:st.waits gi with
        | none=>rfl
        | some _=>rw [hx] at h1;cases h1)
       cases an with
       | true =>
        have HE:Hid (D=(st,false)):=Lib.hid (by rw [← HD.out];exact if_neg (fun h=>by have h1:=HAN.out;rw [h.2.2.2] at h1;cases h1))
        go_wp2_with fail
        go_meet
        exact ⟨true,rfl,HB5.out,fun _=>HE.out,fun h=>(by cases h)⟩
       | false =>
        have HE:Hid (D=(⟨st.chans,fun c=>if c=gi then some o else st.waits c⟩,true)):=Lib.hid (by rw [← HD.out];exact if_pos ⟨HBEG.out,HMD.out,HWN.out,HAN.out⟩)
        go_wp2_with fail
        go_meet
        exact ⟨false,rfl,HB5.out,fun h=>(by cases h),fun _=>⟨HE.out,HWN.out⟩⟩
    | false =>
     have t2n:(o.kind != 2)=true:=by simp [bne,t2]
     cases t3:(o.kind == 3) with
     | true =>
      have t3n:(o.kind != 3)=false:=by simp [bne,t3]
      have HBEG:Hid (Md.begins o=true):=Lib.hid (by rw [Md.begins_eq];simp [*])
      cases b with
      | false =>
       have HE:Hid (D=(st,false)):=Lib.hid (by rw [← HD.out];exact if_neg (fun h=>by have h1:=HMD.out;rw [h.2.1] at h1;cases h1))
       go_wp2_with fail
       go_meet
       exact ⟨true,rfl,HBO.out,fun _=>HE.out,fun h=>(by cases h)⟩
      | true =>
       go_wp2_with fail
       refine (ref20_waits _ _ _ st r S gi (HM.out.then HBO.out.1) HR.out).mono ?_;obtain ⟨wg,hwg⟩:∃ wg,(st.waits gi).isSome=wg:=⟨_,rfl⟩
       rw [hwg];have HWG:=Lib.hid hwg;clear hwg
       rintro e w4 ⟨rfl,k4⟩
       have HB4:=Lib.hid (HBO.out.then k4);clear k4 m0 m1 a0 a1 a2 a3 a4 a5 n0 n1 f0 f1;have m0:=HB4.out.2.1.cell 0;have m1:=HB4.out.2.1.cell 1;obtain ⟨a0,a1,a2,a3,a4,a5⟩:=HB4.out.2.2.1.op;have n0:=HB4.out.2.2.2.cell 0;have n1:=HB4.out.2.2.2.cell 1;have f0:=HB4.out.2.2.2.free 0;have f1:=HB4.out.2.2.2.free 1;simp only [List.getElem?_cons_zero,List.getElem?_cons_succ] at m0 m1 n0 n1
       cases wg with
       | true =>
        have HE:Hid (D=(st,false)):=Lib.hid (by rw [← HD.out];exact if_neg (fun h=>by have h1:=HWG.out;rw [h.2.2.1] at h1;cases h1))
        go_wp2_with fail
        go_meet
        exact ⟨true,rfl,HB4.out,fun _=>HE.out,fun h=>(by cases h)⟩
       | false =>
        go_wp2_with fail
        refine (ref20_any _ _ _ _ st r S gi o UA (HM.out.then HB4.out.1) HR.out (HA.out.then caseE_kept HB4.out.1)).mono ?_;obtain ⟨an,han⟩:∃ an,Md.anyMay st gi o=an:=⟨_,rfl⟩
        rw [han];have HAN:=Lib.hid han;clear han
        rintro e w5 ⟨rfl,k5⟩
        have HB5:=Lib.hid (HB4.out.then k5);clear k5 m0 m1 a0 a1 a2 a3 a4 a5 n0 n1 f0 f1;have HWN:Hid (st.waits gi=none):=Lib.hid (by
         have h1:=HWG.out
         cases hx:st.waits gi with
         | none=>rfl
         | some _=>rw [hx] at h1;cases h1)
        cases an with
        | true =>
         have HE:Hid (D=(st,false)):=Lib.hid (by rw [← HD.out];exact if_neg (fun h=>by have h1:=HAN.out;rw [h.2.2.2] at h1;cases h1))
         go_wp2_with fail
         go_meet
         exact ⟨true,rfl,HB5.out,fun _=>HE.out,fun h=>(by cases h)⟩
        | false =>
         have HE:Hid (D=(⟨st.chans,fun c=>if c=gi then some o else st.waits c⟩,true)):=Lib.hid (by rw [← HD.out];exact if_pos ⟨HBEG.out,HMD.out,HWN.out,HAN.out⟩)
         go_wp2_with fail
         go_meet
         exact ⟨false,rfl,HB5.out,fun h=>(by cases h),fun _=>⟨HE.out,HWN.out⟩⟩
     | false =>
      have t3n:(o.kind != 3)=true:=by simp [bne,t3]
      cases t9:(o.kind == 9) with
      | false =>
       have t9n:(o.kind != 9)=true:=by simp [bne,t9]
       have HE:Hid (D=(st,false)):=Lib.hid (by rw [← HD.out];exact if_neg (fun h=>by have h1:=h.1;rw [Md.begins_eq] at h1;simp [*] at h1))
       go_wp2_with fail
       go_meet
       exact ⟨true,rfl,HBO.out,fun _=>HE.out,fun h=>(by cases h)⟩
      | true =>
       have t9n:(o.kind != 9)=false:=by simp [bne,t9]
       obtain ⟨kind,ch,nn,vv,cases_,els⟩:=o
       cases els with
       | true =>
        have HE:Hid (D=(st,false)):=Lib.hid (by rw [← HD.out];exact if_neg (fun h=>by have h1:=h.1;rw [Md.begins_eq] at h1;simp [*] at h1))
        go_wp2_with fail
        go_meet
        exact ⟨true,rfl,HBO.out,fun _=>HE.out,fun h=>(by cases h)⟩
       | false =>
        have HBEG:Hid (Md.begins (⟨kind,ch,nn,vv,cases_,false⟩:Pn.Op)=true):=Lib.hid (by rw [Md.begins_eq];simp [*])
        cases b with
        | false =>
         have HE:Hid (D=(st,false)):=Lib.hid (by rw [← HD.out];exact if_neg (fun h=>by have h1:=HMD.out;rw [h.2.1] at h1;cases h1))
         go_wp2_with fail
         go_meet
         exact ⟨true,rfl,HBO.out,fun _=>HE.out,fun h=>(by cases h)⟩
        | true =>
         go_wp2_with fail
         refine (ref20_waits _ _ _ st r S gi (HM.out.then HBO.out.1) HR.out).mono ?_;obtain ⟨wg,hwg⟩:∃ wg,(st.waits gi).isSome=wg:=⟨_,rfl⟩
         rw [hwg];have HWG:=Lib.hid hwg;clear hwg
         rintro e w4 ⟨rfl,k4⟩
         have HB4:=Lib.hid (HBO.out.then k4);clear k4 m0 m1 a0 a1 a2 a3 a4 a5 n0 n1 f0 f1;have m0:=HB4.out.2.1.cell 0;have m1:=HB4.out.2.1.cell 1;obtain ⟨a0,a1,a2,a3,a4,a5⟩:=HB4.out.2.2.1.op;have n0:=HB4.out.2.2.2.cell 0;have n1:=HB4.out.2.2.2.cell 1;have f0:=HB4.out.2.2.2.free 0;have f1:=HB4.out.2.2.2.free 1;simp only [List.getElem?_cons_zero,List.getElem?_cons_succ] at m0 m1 n0 n1
         cases wg with
         | true =>
          have HE:Hid (D=(st,false)):=Lib.hid (by rw [← HD.out];exact if_neg (fun h=>by have h1:=HWG.out;rw [h.2.2.1] at h1;cases h1))
          go_wp2_with fail
          go_meet
          exact ⟨true,rfl,HB4.out,fun _=>HE.out,fun h=>(by cases h)⟩
         | false =>
          go_wp2_with fail
          refine (ref20_any _ _ _ _ st r S gi (⟨kind,ch,nn,vv,cases_,false⟩:Pn.Op) UA (HM.out.then HB4.out.1) HR.out (HA.out.then caseE_kept HB4.out.1)).mono ?_;obtain ⟨an,han⟩:∃ an,Md.anyMay st gi (⟨kind,ch,nn,vv,cases_,false⟩:Pn.Op)=an:=⟨_,rfl⟩
          rw [han];have HAN:=Lib.hid han;clear han
          rintro e w5 ⟨rfl,k5⟩
          have HB5:=Lib.hid (HB4.out.then k5);clear k5 m0 m1 a0 a1 a2 a3 a4 a5 n0 n1 f0 f1;have HWN:Hid (st.waits gi=none):=Lib.hid (by
           have h1:=HWG.out
           cases hx:st.waits gi with
           | none=>rfl
           | some _=>rw [hx] at h1;cases h1)
          cases an with
          | true =>
           have HE:Hid (D=(st,false)):=Lib.hid (by rw [← HD.out];exact if_neg (fun h=>by have h1:=HAN.out;rw [h.2.2.2] at h1;cases h1))
           go_wp2_with fail
           go_meet
           exact ⟨true,rfl,HB5.out,fun _=>HE.out,fun h=>(by cases h)⟩
          | false =>
           have HE:Hid (D=(⟨st.chans,fun c=>if c=gi then some (⟨kind,ch,nn,vv,cases_,false⟩:Pn.Op) else st.waits c⟩,true)):=Lib.hid (by rw [← HD.out];exact if_pos ⟨HBEG.out,HMD.out,HWN.out,HAN.out⟩)
           go_wp2_with fail
           go_meet
           exact ⟨false,rfl,HB5.out,fun h=>(by cases h),fun _=>⟨HE.out,HWN.out⟩⟩
   case rest =>
    obtain ⟨bb,rfl,hbx,hd1,hd2⟩:=hcut;have HBC:=Lib.hid hbx;have HD1:=Lib.hid hd1;have HD2:=Lib.hid hd2;clear hbx hd1 hd2
    cases bb with
    | true =>
     have m0:=HBC.out.2.1.cell 0;have m1:=HBC.out.2.1.cell 1;obtain ⟨a0,a1,a2,a3,a4,a5⟩:=HBC.out.2.2.1.op;have n0:=HBC.out.2.2.2.cell 0;have n1:=HBC.out.2.2.2.cell 1;have f0:=HBC.out.2.2.2.free 0;have f1:=HBC.out.2.2.2.free 1;simp only [List.getElem?_cons_zero,List.getElem?_cons_succ] at m0 m1 n0 n1;have HE:Hid (D=(st,false)):=Lib.hid (by first | exact HD1.out rfl | exact HD1.out trivial)
     go_wp2_with fail
     refine bodyPost_ret (v:=.tuple #[.agg #[.slice ac r.chans.length cc,.slice aw r.waits.length cw],.bool false]) (by simp [results,Try.results46,go_sem, *]) rfl ?_;exact rwait_no HE.out HM.out HR.out HBC.out HRR.out rfl
    | false =>
     have HDD:=Lib.hid ((by first | exact HD2.out rfl | exact HD2.out trivial):D=(⟨st.chans,fun c=>if c=gi then some o else st.waits c⟩,true)∧st.waits gi=none)
     go_upto_region 9 with fail
     have m0:=HBC.out.2.1.cell 0;have m1:=HBC.out.2.1.cell 1;obtain ⟨a0,a1,a2,a3,a4,a5⟩:=HBC.out.2.2.1.op;have n0:=HBC.out.2.2.2.cell 0;have n1:=HBC.out.2.2.2.cell 1;have f0:=HBC.out.2.2.2.free 0;have f1:=HBC.out.2.2.2.free 1;simp only [List.getElem?_cons_zero,List.getElem?_cons_succ] at m0 m1 n0 n1;have hz:=HBC.out.lt;have HZ:=Lib.hid hz;have HMC:=Lib.hid (HM.out.then HBC.out.1);have b0:∀ x:Obj,(wc.alloc x).cell? ⟨w.heap.size + 1,0,none⟩=some (.int .i64 o.kind):=fun x=>(HBC.out.2.2.1.alloc x).cell 0
     have b1:∀ x:Obj,(wc.alloc x).cell? ⟨w.heap.size + 1,1,none⟩=some (.int .i64 o.ch):=fun x=>(HBC.out.2.2.1.alloc x).cell 1
     have b2:∀ x:Obj,(wc.alloc x).cell? ⟨w.heap.size + 1,2,none⟩=some (.int .i64 o.n):=fun x=>(HBC.out.2.2.1.alloc x).cell 2
     have b3:∀ x:Obj,(wc.alloc x).cell? ⟨w.heap.size + 1,3,none⟩=some (.int .i64 o.v):=fun x=>(HBC.out.2.2.1.alloc x).cell 3
     have b4:∀ x:Obj,(wc.alloc x).cell? ⟨w.heap.size + 1,4,none⟩=some (.slice aa o.cases.length ca):=fun x=>(HBC.out.2.2.1.alloc x).cell 4
     have b5:∀ x:Obj,(wc.alloc x).cell? ⟨w.heap.size + 1,5,none⟩=some (.bool o.els):=fun x=>(HBC.out.2.2.1.alloc x).cell 5
     have p0:∀ x:Obj,(wc.alloc x).cell? ⟨w.heap.size,0,none⟩=some (.slice ac r.chans.length cc):=fun x=>(HBC.out.2.1.alloc x).cell 0
     have p1:∀ x:Obj,(wc.alloc x).cell? ⟨w.heap.size,1,none⟩=some (.slice aw r.waits.length cw):=fun x=>(HBC.out.2.1.alloc x).cell 1
     have p2:∀ x y:Obj,((wc.alloc x).alloc y).cell? ⟨w.heap.size,0,none⟩=some (.slice ac r.chans.length cc):=fun x y=>((HBC.out.2.1.alloc x).alloc y).cell 0
     have p3:∀ x y:Obj,((wc.alloc x).alloc y).cell? ⟨w.heap.size,1,none⟩=some (.slice aw r.waits.length cw):=fun x y=>((HBC.out.2.1.alloc x).alloc y).cell 1
     have HRa:Hid (GR wtE 7 ((wc.alloc (.cells #[] 84)).drew) (.slice (some ⟨wc.heap.size,0,none⟩) 0 0) 84 [] [wc.heap.size] []):=Lib.hid ((GR.lit wtE 7 wc 84 _ rfl).then wtE_kept (Keeps.refl [] _).drew);have HTa:Hid (GV wtE 7 ((wc.alloc (.cells #[] 84)).drew) (.slice aw r.waits.length cw) r.waits S):=Lib.hid (HMC.out.2.then wtE_kept (((Keeps.refl [] wc).alloc _).drew));have HRb:Hid (GR wtE 7 (((wc.alloc (.cells #[] 84)).alloc (.cells #[.int .i64 gi,.int .i64 o.kind,.int .i64 o.ch,.int .i64 o.n,.int .i64 o.v,.slice aa o.cases.length ca,.bool o.els] 84)).drew) (.slice (some ⟨wc.heap.size,0,none⟩) 0 0) 84 [] [wc.heap.size] []):=Lib.hid ((GR.lit wtE 7 wc 84 _ rfl).then wtE_kept (((Keeps.refl [] _).alloc _).drew));have HTb:Hid (GV wtE 7 (((wc.alloc (.cells #[] 84)).alloc (.cells #[.int .i64 gi,.int .i64 o.kind,.int .i64 o.ch,.int .i64 o.n,.int .i64 o.v,.slice aa o.cases.length ca,.bool o.els] 84)).drew) (.slice aw r.waits.length cw) r.waits S):=Lib.hid (HMC.out.2.then wtE_kept ((((Keeps.refl [] wc).alloc _).alloc _).drew));have HRc:Hid (GR wtE 7 (((wc.alloc (.cells #[.int .i64 gi,.int .i64 o.kind,.int .i64 o.ch,.int .i64 o.n,.int .i64 o.v,.slice aa o.cases.length ca,.bool o.els] 84)).alloc (.cells #[] 84)).drew) (.slice (some ⟨wc.heap.size + 1,0,none⟩) 0 0) 84 [] [wc.heap.size + 1] []):=Lib.hid ((GR.lit wtE 7 (wc.alloc (.cells #[.int .i64 gi,.int .i64 o.kind,.int .i64 o.ch,.int .i64 o.n,.int .i64 o.v,.slice aa o.cases.length ca,.bool o.els] 84)) 84 _ (by simp)).then wtE_kept (Keeps.refl [] _).drew);have HTc:Hid (GV wtE 7 (((wc.alloc (.cells #[.int .i64 gi,.int .i64 o.kind,.int .i64 o.ch,.int .i64 o.n,.int .i64 o.v,.slice aa o.cases.length ca,.bool o.els] 84)).alloc (.cells #[] 84)).drew) (.slice aw r.waits.length cw) r.waits S):=Lib.hid (HMC.out.2.then wtE_kept ((((Keeps.refl [] wc).alloc _).alloc _).drew));have HEb:Hid (Blk (((wc.alloc (.cells #[] 84)).alloc (.cells #[.int .i64 gi,.int .i64 o.kind,.int .i64 o.ch,.int .i64 o.n,.int .i64 o.v,.slice aa o.cases.length ca,.bool o.els] 84)).drew) (wc.heap.size + 1) [.int .i64 gi,.int .i64 o.kind,.int .i64 o.ch,.int .i64 o.n,.int .i64 o.v,.slice aa o.cases.length ca,.bool o.els] 84):=Lib.hid (Blk.drew (Blk.fresh (wc.alloc (.cells #[] 84)) [.int .i64 gi,.int .i64 o.kind,.int .i64 o.ch,.int .i64 o.n,.int .i64 o.v,.slice aa o.cases.length ca,.bool o.els] 84 _ (by simp)))
     have HEc:Hid (Blk (((wc.alloc (.cells #[.int .i64 gi,.int .i64 o.kind,.int .i64 o.ch,.int .i64 o.n,.int .i64 o.v,.slice aa o.cases.length ca,.bool o.els] 84)).alloc (.cells #[] 84)).drew) wc.heap.size [.int .i64 gi,.int .i64 o.kind,.int .i64 o.ch,.int .i64 o.n,.int .i64 o.v,.slice aa o.cases.length ca,.bool o.els] 84):=Lib.hid (Blk.drew ((Blk.fresh wc [.int .i64 gi,.int .i64 o.kind,.int .i64 o.ch,.int .i64 o.n,.int .i64 o.v,.slice aa o.cases.length ca,.bool o.els] 84 _ rfl).alloc _));have HSA:Hid (∀ x∈S,x < w.heap.size∧R x):=Lib.hid (fun x hx=>⟨HSL.out x hx,HRR.out x hx⟩);have HUA:Hid (∀ x∈UA,(x < w.heap.size∧R x)∨w.heap.size + 3≤x):=Lib.hid (fun x hx=>.inl ⟨HUL.out x hx,HRU.out x hx⟩);have HD0:Hid (∀ y∈S,y∉[wc.heap.size]):=Lib.hid (fun y hy hm=>by have:=HSL.out y hy;simp at hm;omega);have HD1':Hid (∀ y∈S,y∉[wc.heap.size + 1]):=Lib.hid (fun y hy hm=>by have:=HSL.out y hy;simp at hm;omega);have HBN:Hid ((([]:List (Int × Pn.Op)).length + r.waits.length) * 72≤140737488355328):=Lib.hid (by have:=HN.out;simp;omega);have HBN1:Hid ((r.waits.length + 1) * 72≤140737488355328):=Lib.hid (by have:=HN.out;omega);have Ka:Hid (Keeps [wc.heap.size] wc ((wc.alloc (.cells #[] 84)).drew)):=Lib.hid (((Keeps.refl [wc.heap.size] wc).alloc _).drew);have Kb:Hid (Keeps [wc.heap.size] wc (((wc.alloc (.cells #[] 84)).alloc (.cells #[.int .i64 gi,.int .i64 o.kind,.int .i64 o.ch,.int .i64 o.n,.int .i64 o.v,.slice aa o.cases.length ca,.bool o.els] 84)).drew)):=Lib.hid ((((Keeps.refl [wc.heap.size] wc).alloc _).alloc _).drew);have Kc:Hid (Keeps [wc.heap.size + 1] wc (((wc.alloc (.cells #[.int .i64 gi,.int .i64 o.kind,.int .i64 o.ch,.int .i64 o.n,.int .i64 o.v,.slice aa o.cases.length ca,.bool o.els] 84)).alloc (.cells #[] 84)).drew)):=Lib.hid ((((Keeps.refl [wc.heap.size + 1] wc).alloc _).alloc _).drew);have HL0:Hid (w.heap.size + 3≤wc.heap.size):=Lib.hid hz;have HL1:Hid (w.heap.size + 3≤wc.heap.size + 1):=Lib.hid (by omega);have HUb:Hid (∀ x∈(wc.heap.size + 1) :: UA,(x < w.heap.size∧R x)∨w.heap.size + 3≤x):=Lib.hid (fun x hx=>by rcases List.mem_cons.1 hx with rfl | h;(exact .inr HL1.out);exact HUA.out x h)
     have HUc:Hid (∀ x∈wc.heap.size :: UA,(x < w.heap.size∧R x)∨w.heap.size + 3≤x):=Lib.hid (fun x hx=>by rcases List.mem_cons.1 hx with rfl | h;(exact .inr HL0.out);exact HUA.out x h);have HAC:Hid (∀ w7,PuB w (.slice ac r.chans.length cc) (.slice aw r.waits.length cw) (.slice aa o.cases.length ca) o w7→GV caseE 3 w7 (.slice aa o.cases.length ca) o.cases UA):=Lib.hid (fun w7 h=>HA.out.then caseE_kept h.1);have HDU:Hid (∀ T7:List Nat,(∀ x∈T7,w.heap.size + 3≤x)→∀ y∈UA,y∉T7):=Lib.hid (fun T7 h y hy hm=>by have:=HUL.out y hy;have:=h y hm;omega);have HPa:Hid (∀ (w7:World) (v7:Value) (T7:List Nat),GR wtE 7 w7 v7 84 r.waits T7 S→Keeps [wc.heap.size] ((wc.alloc (.cells #[] 84)).drew) w7→(∀ k∈T7,k∈[wc.heap.size]∨((wc.alloc (.cells #[] 84)).drew).heap.size≤k)→(PuB w (.slice ac r.chans.length cc) (.slice aw r.waits.length cw) (.slice aa o.cases.length ca) o w7∧GR wtE 7 w7 v7 84 r.waits T7 S∧∀ x∈T7,w.heap.size + 3≤x)):=Lib.hid (by
      intro w7 v7 T7 r7 k7 s7;have h7:=pu7 HBC.out Ka.out HL0.out r7 k7 s7;exact h7)
     have HPb:Hid (∀ (w7:World) (v7:Value) (T7:List Nat),GR wtE 7 w7 v7 84 r.waits T7 S→Keeps [wc.heap.size] (((wc.alloc (.cells #[] 84)).alloc (.cells #[.int .i64 gi,.int .i64 o.kind,.int .i64 o.ch,.int .i64 o.n,.int .i64 o.v,.slice aa o.cases.length ca,.bool o.els] 84)).drew) w7→(∀ k∈T7,k∈[wc.heap.size]∨(((wc.alloc (.cells #[] 84)).alloc (.cells #[.int .i64 gi,.int .i64 o.kind,.int .i64 o.ch,.int .i64 o.n,.int .i64 o.v,.slice aa o.cases.length ca,.bool o.els] 84)).drew).heap.size≤k)→(PuB w (.slice ac r.chans.length cc) (.slice aw r.waits.length cw) (.slice aa o.cases.length ca) o w7∧GR wtE 7 w7 v7 84 r.waits T7 S∧∀ x∈T7,w.heap.size + 3≤x)∧GV wtE 7 w7 (.slice (some ⟨wc.heap.size + 1,0,none⟩) 1 1) [(gi,o)] ((wc.heap.size + 1) :: UA)∧∀ y∈(wc.heap.size + 1) :: UA,y∉T7):=Lib.hid (by
      intro w7 v7 T7 r7 k7 s7;have h7:=pu7 HBC.out Kb.out HL0.out r7 k7 s7;have hs:∀ k∈T7,k=wc.heap.size∨wc.heap.size + 2≤k:=fun k hk=>by have:=s7 k hk;simp at this;omega
      exact ⟨h7,puE (HEb.out.keep k7 (by simp)) (HAC.out _ h7.1),pu_ne hs (by omega) (by omega) (HDU.out _ h7.2.2)⟩)
     have HPc:Hid (∀ (w7:World) (v7:Value) (T7:List Nat),GR wtE 7 w7 v7 84 r.waits T7 S→Keeps [wc.heap.size + 1] (((wc.alloc (.cells #[.int .i64 gi,.int .i64 o.kind,.int .i64 o.ch,.int .i64 o.n,.int .i64 o.v,.slice aa o.cases.length ca,.bool o.els] 84)).alloc (.cells #[] 84)).drew) w7→(∀ k∈T7,k∈[wc.heap.size + 1]∨(((wc.alloc (.cells #[.int .i64 gi,.int .i64 o.kind,.int .i64 o.ch,.int .i64 o.n,.int .i64 o.v,.slice aa o.cases.length ca,.bool o.els] 84)).alloc (.cells #[] 84)).drew).heap.size≤k)→(PuB w (.slice ac r.chans.length cc) (.slice aw r.waits.length cw) (.slice aa o.cases.length ca) o w7∧GR wtE 7 w7 v7 84 r.waits T7 S∧∀ x∈T7,w.heap.size + 3≤x)∧GV wtE 7 w7 (.slice (some ⟨wc.heap.size,0,none⟩) 1 1) [(gi,o)] ((wc.heap.size) :: UA)∧∀ y∈(wc.heap.size) :: UA,y∉T7):=Lib.hid (by
      intro w7 v7 T7 r7 k7 s7;have h7:=pu7 HBC.out Kc.out HL1.out r7 k7 s7;have hs:∀ k∈T7,k=wc.heap.size + 1∨wc.heap.size + 2≤k:=fun k hk=>by have:=s7 k hk;simp at this;omega
      exact ⟨h7,puE (HEc.out.keep k7 (by simp)) (HAC.out _ h7.1),pu_ne hs (by omega) (by omega) (HDU.out _ h7.2.2)⟩)
     have HONE:Hid (∀ y∈([.int .i64 gi,.int .i64 o.kind,.int .i64 o.ch,.int .i64 o.n,.int .i64 o.v,.slice aa o.cases.length ca,.bool o.els]:List Value),y.oneCell'=true):=Lib.hid (by simp [Value.oneCell']);have hq0:w.heap.size < wc.heap.size:=by omega
     have hq1:w.heap.size + 1 < wc.heap.size:=by omega
     have hq2:w.heap.size + 1 + 1 < wc.heap.size:=by omega
     clear b0 b1 b2 b3 b4 b5 p0 p1 p2 p3
     go_region_held3 (fun w'=>w'.cell? ⟨w.heap.size,0,none⟩=some (.slice ac r.chans.length cc)∧w'.cell? ⟨w.heap.size,1,none⟩=some (.slice aw r.waits.length cw)∧w'.cell? ⟨w.heap.size + 1,0,none⟩=some (.int .i64 o.kind)∧w'.cell? ⟨w.heap.size + 1,1,none⟩=some (.int .i64 o.ch)∧w'.cell? ⟨w.heap.size + 1,2,none⟩=some (.int .i64 o.n)∧w'.cell? ⟨w.heap.size + 1,3,none⟩=some (.int .i64 o.v)∧w'.cell? ⟨w.heap.size + 1,4,none⟩=some (.slice aa o.cases.length ca)∧w'.cell? ⟨w.heap.size + 1,5,none⟩=some (.bool o.els))
      (first | (with_reducible exact HBC.out.s8) | (with_reducible exact H7.out.1.s8) | (with_reducible exact H9.out.1.s8) | (with_reducible exact H9.out.1.s8set _ _) | go_keep)
      (first
      | (refine step_gapps elemWait wtE_kept HRa.out HTa.out HD0.out HBN.out ?_;simp only [List.length_nil,Nat.zero_add,List.nil_append];intro ao7 cap7 w7 T7 r7 k7 s7;have H7:=Lib.hid (HPa.out _ _ _ r7 k7 s7);clear r7 k7 s7)
      | (refine step_gapps elemWait wtE_kept HRb.out HTb.out HD0.out HBN.out ?_;simp only [List.length_nil,Nat.zero_add,List.nil_append];intro ao7 cap7 w7 T7 r7 k7 s7;have HP:=HPb.out _ _ _ r7 k7 s7;have H7:=Lib.hid HP.1;have HEV:=Lib.hid HP.2.1;have HEL:=Lib.hid HP.2.2;have HEU:=Lib.hid HUb.out;clear HP;clear r7 k7 s7)
      | (refine step_gapps elemWait wtE_kept HRc.out HTc.out HD1'.out HBN.out ?_;simp only [List.length_nil,Nat.zero_add,List.nil_append];intro ao7 cap7 w7 T7 r7 k7 s7;have HP:=HPc.out _ _ _ r7 k7 s7;have H7:=Lib.hid HP.1;have HEV:=Lib.hid HP.2.1;have HEL:=Lib.hid HP.2.2;have HEU:=Lib.hid HUc.out;clear HP;clear r7 k7 s7)
      | (refine step_gapp1 elemWait wtE_kept H7.out.2.1 (show wtE _ [.int .i64 gi,.int .i64 o.kind,.int .i64 o.ch,.int .i64 o.n,.int .i64 o.v,.slice aa o.cases.length ca,.bool o.els] (gi,o) UA from ⟨_,rfl,HAC.out _ H7.out.1⟩) rfl (HDU.out _ H7.out.2.2) HONE.out HBN1.out ?_;intro ao9 cap9 w9 T9 r9 k9 s9;have H9:=Lib.hid (pu9 H7.out HSA.out HUA.out r9 k9 s9);clear r9 k9 s9;clear n0 n1 f0 f1;have n0:w9.cell? ⟨w.heap.size + 1 + 1,0,none⟩=some (.slice none 0 0):=H9.out.1.2.2.2.cell 0;have n1:w9.cell? ⟨w.heap.size + 1 + 1,1,none⟩=some (.slice none 0 0):=H9.out.1.2.2.2.cell 1;have f0:w9.frozen? ⟨w.heap.size + 1 + 1,0,none⟩=false:=H9.out.1.2.2.2.free 0;have f1:w9.frozen? ⟨w.heap.size + 1 + 1,1,none⟩=false:=H9.out.1.2.2.2.free 1)
      | (refine step_gapps elemWait wtE_kept H7.out.2.1 HEV.out HEL.out HBN1.out ?_;intro ao9 cap9 w9 T9 r9 k9 s9;have H9:=Lib.hid (pu9 H7.out HSA.out HEU.out r9 k9 s9);clear r9 k9 s9;clear n0 n1 f0 f1;have n0:w9.cell? ⟨w.heap.size + 1 + 1,0,none⟩=some (.slice none 0 0):=H9.out.1.2.2.2.cell 0;have n1:w9.cell? ⟨w.heap.size + 1 + 1,1,none⟩=some (.slice none 0 0):=H9.out.1.2.2.2.cell 1;have f0:w9.frozen? ⟨w.heap.size + 1 + 1,0,none⟩=false:=H9.out.1.2.2.2.free 0;have f1:w9.frozen? ⟨w.heap.size + 1 + 1,1,none⟩=false:=H9.out.1.2.2.2.free 1)
      | fail)
     all_goals
      go_wp2_with fail
      refine bodyPost_ret (v:=.tuple #[.agg #[.slice ac r.chans.length cc,.slice ao9 (r.waits.length + 1) cap9],.bool true]) (by simp [results,Try.results46,go_sem, *]) rfl ?_;exact rwait_yes HDD.out.1 HDD.out.2 HM.out HR.out H9.out.1 HRR.out H9.out.2.1 H9.out.2.2.1 H9.out.2.2.2 rfl
open Go.RowKit
def z5:List Value:=[.int .i64 0,.int .i64 0,.int .i64 0,.bool false,.int .i64 0]
def resL (r:Md.Res):List Value:=[.int .i64 r.code,.int .i64 r.cs,.int .i64 r.v,.bool r.ok,.int .i64 r.n]
def FiA (w:World) (vc vw va:Value) (o:Pn.Op) (rr:Md.Res) (wx:World):Prop :=
 Keeps [] w wx∧Blk wx w.heap.size [vc,vw] 35∧Blk wx (w.heap.size + 1) (opL o va) 28∧Blk wx (w.heap.size + 1 + 1) [.slice none 0 0,.slice none 0 0] 35 ∧
 Blk wx (w.heap.size + 1 + 1 + 1) z5 50∧Blk wx (w.heap.size + 1 + 1 + 1 + 1) (resL rr) 50
theorem FiA.keep {w wx wy:World} {vc vw va:Value} {o:Pn.Op} {rr:Md.Res} {T:List Nat} (h:FiA w vc vw va o rr wx) (k:Keeps T wx wy) (hT:∀ x∈T,w.heap.size + 5≤x):FiA w vc vw va o rr wy :=
 ⟨h.1.trans k (fun x hx=>.inr (by have:=hT x hx;omega)),h.2.1.keep k (fun hm=>by have:=hT _ hm;omega),h.2.2.1.keep k (fun hm=>by have:=hT _ hm;omega),h.2.2.2.1.keep k (fun hm=>by have:=hT _ hm;omega),h.2.2.2.2.1.keep k (fun hm=>by have:=hT _ hm;omega),h.2.2.2.2.2.keep k (fun hm=>by have:=hT _ hm;omega)⟩
theorem FiA.then {w wx wy:World} {vc vw va:Value} {o:Pn.Op} {rr:Md.Res} (h:FiA w vc vw va o rr wx) (k:Keeps [] wx wy):FiA w vc vw va o rr wy:=h.keep k (by simp)
theorem FiA.lt {w wx:World} {vc vw va:Value} {o:Pn.Op} {rr:Md.Res} (h:FiA w vc vw va o rr wx):w.heap.size + 5≤wx.heap.size:=h.2.2.2.2.2.lt
theorem FiA.put {w wx:World} {vc vw va:Value} {o:Pn.Op} {rr rr':Md.Res} (h:FiA w vc vw va o rr wx) (j:Nat) (v:Value) (hl:resL rr'=(resL rr).set j v):FiA w vc vw va o rr' (wx.setCell ⟨w.heap.size + 1 + 1 + 1 + 1,j,none⟩ v):=by
 have k:Keeps [w.heap.size + 1 + 1 + 1 + 1] wx (wx.setCell ⟨w.heap.size + 1 + 1 + 1 + 1,j,none⟩ v):=(Keeps.refl _ wx).setCell (by simp) v;refine ⟨h.1.trans k (fun x hx=>by simp at hx;exact .inr (by omega)),h.2.1.keep k (by simp <;> omega),h.2.2.1.keep k (by simp <;> omega),h.2.2.2.1.keep k (by simp),h.2.2.2.2.1.keep k (by simp),?_⟩;rw [hl];exact h.2.2.2.2.2.set j v
theorem Blk.res {w:World} {g:Nat} {r:Md.Res} {t:TypeId} (h:Blk w g (resL r) t):(w.cell? ⟨g,0,none⟩=some (.int .i64 r.code)∧w.cell? ⟨g,1,none⟩=some (.int .i64 r.cs)∧w.cell? ⟨g,2,none⟩=some (.int .i64 r.v)∧w.cell? ⟨g,3,none⟩=some (.bool r.ok)∧w.cell? ⟨g,4,none⟩=some (.int .i64 r.n))∧∀ j,w.frozen? ⟨g,j,none⟩=false :=
 ⟨⟨h.cell 0,h.cell 1,h.cell 2,h.cell 3,h.cell 4⟩,fun j=>h.free j⟩
def FiS (w:World) (vc vw va:Value) (o:Pn.Op) (S:List Nat) (l:List (Int × Pn.Op)) (v12:Value) (wx:World):Prop :=
 ∃ b vs SW,v12=.pointer (some ⟨b,0,none⟩)∧FiA w vc vw va o ⟨1,-1,0,true,0⟩ wx∧w.heap.size + 5≤b∧Blk wx b [vc,vs] 35∧GV wtE 7 wx vs l SW∧∀ x∈SW,x∈S∨(w.heap.size + 5≤x∧x≠b)
theorem FiS.s2 {w wx:World} {vc vw va:Value} {o:Pn.Op} {S:List Nat} {l:List (Int × Pn.Op)} {v12:Value} (h:FiS w vc vw va o S l v12 wx):wx.cell? ⟨w.heap.size,0,none⟩=some vc∧wx.cell? ⟨w.heap.size,1,none⟩=some vw:=by
 obtain ⟨_,_,_,_,h,_⟩:=h;exact ⟨h.2.1.cell 0,h.2.1.cell 1⟩
def RFirePost (w:World) (D:Md.St × Option Md.Res) (n:Nat) (R:Nat→Prop) (e:Ending) (w':World):Prop :=
 ∃ v,e=.returned (.tuple #[v,.agg (resV (D.2.getD Md.noRes)),.bool D.2.isSome])∧RTo w D.1 n R v w'
def FiU (w:World) (vc vw va:Value) (o:Pn.Op) (rr:Md.Res) (b:Nat) (vx vs:Value) (l:List (Int × Pn.Op)) (SW:List Nat) (wx:World):Prop :=
 FiA w vc vw va o rr wx∧Blk wx b [vx,vs] 35∧GV wtE 7 wx vs l SW
theorem FiU.then {w wx wy:World} {vc vw va vx vs:Value} {o:Pn.Op} {rr:Md.Res} {SW:List Nat} {b:Nat} {l:List (Int × Pn.Op)} (h:FiU w vc vw va o rr b vx vs l SW wx) (k:Keeps [] wx wy):FiU w vc vw va o rr b vx vs l SW wy :=
 ⟨h.1.then k,h.2.1.keep k (by simp),h.2.2.then wtE_kept k⟩
theorem FiU.keep {w wx wy:World} {vc vw va vx vs:Value} {o:Pn.Op} {rr:Md.Res} {SW T:List Nat} {b:Nat} {l:List (Int × Pn.Op)} (h:FiU w vc vw va o rr b vx vs l SW wx) (k:Keeps T wx wy) (hT:∀ x∈T,w.heap.size + 5≤x) (hb:b∉T) (hS:∀ x∈SW,x∉T):FiU w vc vw va o rr b vx vs l SW wy :=
 ⟨h.1.keep k hT,h.2.1.keep k hb,h.2.2.keep wtE_kept k hS⟩
theorem FiU.put {w wx W:World} {vc vw va vx vs:Value} {o:Pn.Op} {rr:Md.Res} {SW S:List Nat} {b:Nat} {l:List (Int × Pn.Op)} (rr':Md.Res) (j:Nat) (v:Value) (h:FiU w vc vw va o rr b vx vs l SW wx) (hb:w.heap.size + 5≤b) (hS:∀ x∈SW,x∈S∨(w.heap.size + 5≤x∧x≠b)) (hl:∀ x∈S,x < w.heap.size) (hr:resL rr'=(resL rr).set j v)
  (hW:wx.setCell ⟨w.heap.size + 1 + 1 + 1 + 1,j,none⟩ v=W):FiU w vc vw va o rr' b vx vs l SW W:=by
 subst hW;have k:Keeps [w.heap.size + 1 + 1 + 1 + 1] wx (wx.setCell ⟨w.heap.size + 1 + 1 + 1 + 1,j,none⟩ v):=(Keeps.refl _ wx).setCell (by simp) v;refine ⟨h.1.put j v hr,h.2.1.keep k (by simp;omega),h.2.2.keep wtE_kept k (fun x hx hm=>?_)⟩;simp at hm;subst hm;rcases hS _ hx with h | h
 ·have:=hl _ h;omega
 ·omega
theorem FiU.chans {w wx W:World} {vc vw va vx vs:Value} {o:Pn.Op} {rr:Md.Res} {SW S:List Nat} {b:Nat} {l:List (Int × Pn.Op)} (v:Value) (h:FiU w vc vw va o rr b vx vs l SW wx) (hb:w.heap.size + 5≤b) (hS:∀ x∈SW,x∈S∨(w.heap.size + 5≤x∧x≠b)) (hl:∀ x∈S,x < w.heap.size)
  (hW:wx.setCell ⟨b,0,none⟩ v=W):FiU w vc vw va o rr b v vs l SW W:=by
 subst hW;have k:Keeps [b] wx (wx.setCell ⟨b,0,none⟩ v):=(Keeps.refl _ wx).setCell (by simp) v;refine ⟨h.1.keep k (fun x hx=>by simp at hx;omega),h.2.1.set 0 v,h.2.2.keep wtE_kept k (fun x hx hm=>?_)⟩;simp at hm;subst hm;rcases hS _ hx with h | h
 ·have:=hl _ h;omega
 ·omega
def FiN (w:World) (vc vw va:Value) (o:Pn.Op) (rr:Md.Res) (b:Nat) (vs:Value) (l:List (Int × Pn.Op)) (SW S:List Nat) (cs:List Md.Ch) (wx:World):Prop :=
 ∃ v9 T9,FiU w vc vw va o rr b v9 vs l SW wx∧GV chE 3 wx v9 cs (T9 ++ S)∧∀ x∈T9,w.heap.size + 5≤x∧x≠b
theorem fin_of {w w5 w9:World} {vc vw va vx vs v9:Value} {o:Pn.Op} {rr:Md.Res} {b:Nat} {l:List (Int × Pn.Op)} {SW S U T9:List Nat} {cs:List Md.Ch} {e:TypeId} (hu:FiU w vc vw va o rr b vx vs l SW w5) (h:App chE 3 e w5 w9 v9 cs T9 U) (hb:w.heap.size + 5≤b) (hS:∀ x∈SW,x∈S∨(w.heap.size + 5≤x∧x≠b)) (hl:∀ x∈S,x < w.heap.size) (hU:∀ x∈U,x∈S∨w5.heap.size≤x) (hz:w.heap.size + 5≤w5.heap.size) (hq:b < w5.heap.size) :
  FiN w vc vw va o rr b vs l SW S cs (w9.setCell ⟨b,0,none⟩ v9):=by
 have k:Keeps [b] w9 (w9.setCell ⟨b,0,none⟩ v9):=(Keeps.refl _ w9).setCell (by simp) v9;refine ⟨v9,T9 ++ U.filter (fun x=>decide (w5.heap.size≤x)),(hu.then h.1).chans v9 hb hS hl rfl,?_,fun x hx=>?_⟩
 ·refine (h.2.1.gv.mono (S2:=(T9 ++ U.filter (fun x=>decide (w5.heap.size≤x))) ++ S) (fun x hx=>?_) (fun x hx=>?_)).keep chE_kept k (fun x hx hm=>?_)
  ·rcases List.mem_append.1 hx with h1 | h1
   ·simp [h1]
   ·rcases hU x h1 with h2 | h2
    ·simp [h2]
    ·simp [h1,h2]
  ·have:=h.1.size;simp only [List.mem_append,List.mem_filter] at hx;rcases hx with (h1 | h1) | h1
   ·exact h.lt x (by simp [h1])
   ·exact h.lt x (by simp [h1.1])
   ·have:=hl x h1;omega
  ·simp only [List.mem_append,List.mem_filter,List.mem_singleton,decide_eq_true_eq] at hx hm;subst hm;rcases hx with (h1 | h1) | h1
   ·have:=h.2.2 _ h1;omega
   ·omega
   ·have:=hl _ h1;omega
 ·simp only [List.mem_append,List.mem_filter,decide_eq_true_eq] at hx;rcases hx with h1 | h1
  ·have:=h.2.2 x h1;omega
  ·omega
theorem kc7 {T:List Nat} {w:World} {a0 a1 a2 a3 a4 a5 a6:Addr} {v0 v1 v2 v3 v4 v5 v6:Value} (h0:a0.block∈T) (h1:a1.block∈T) (h2:a2.block∈T) (h3:a3.block∈T) (h4:a4.block∈T) (h5:a5.block∈T) (h6:a6.block∈T):Keeps T w (((((((w.setCell a0 v0).setCell a1 v1).setCell a2 v2).setCell a3 v3).setCell a4 v4).setCell a5 v5).setCell a6 v6) :=
 ((((((((Keeps.refl T w).setCell (.inl h0) v0).setCell (.inl h1) v1).setCell (.inl h2) v2).setCell (.inl h3) v3).setCell (.inl h4) v4).setCell (.inl h5) v5).setCell (.inl h6) v6)
def FiB (w:World) (vc vw va:Value) (o:Pn.Op) (rr:Md.Res) (b:Nat) (vx vs:Value) (l:List (Int × Pn.Op)) (SW:List Nat) (sb cbk:Nat) (sl:List Value) (cap:Int) (cl:Bool) (buf:List Int) (S:List Nat) (wx:World):Prop :=
 ∃ v9 T9,FiU w vc vw va o rr b vx vs l SW wx∧Blk wx sb sl 87∧Blk wx cbk [.int .i64 cap,v9,.bool cl] 45∧GV rawE 1 wx v9 buf T9∧∀ x∈T9,x∈S∨w.heap.size + 5≤x
theorem fib_of {w w10 w9:World} {vc vw va vx vs v9 v0:Value} {o:Pn.Op} {rr:Md.Res} {b sb cbk:Nat} {l:List (Int × Pn.Op)} {SW S U T9:List Nat} {sl:List Value} {cap:Int} {cl:Bool} {buf:List Int} {e:TypeId} (hu:FiU w vc vw va o rr b vx vs l SW w10) (h:App rawE 1 e w10 w9 v9 buf T9 U) (hs:Blk w10 sb sl 87) (hc:Blk w10 cbk [.int .i64 cap,v0,.bool cl] 45) (h6:w.heap.size + 5≤sb) (h8:w.heap.size + 5≤cbk) (hU:∀ x∈U,x∈S∨w10.heap.size≤x) (hl:∀ x∈S,x < w.heap.size) (hS:∀ x∈SW,x∈S∨(w.heap.size + 5≤x∧x≠b)) (hb:¬ b=cbk) (hsc:sb≠cbk) (hw:cbk∉SW) :
  FiB w vc vw va o rr b vx vs l SW sb cbk sl cap cl buf S (w9.setCell ⟨cbk,1,none⟩ v9):=by
 have k:Keeps [cbk] w9 (w9.setCell ⟨cbk,1,none⟩ v9):=(Keeps.refl _ w9).setCell (by simp) v9;have hz:=hu.1.lt;have hcl:=hc.lt;have hT:∀ x∈T9 ++ U,x∈S∨w10.heap.size≤x:=fun x hx=>by
  rcases List.mem_append.1 hx with h1 | h1
  ·exact .inr (h.2.2 x h1)
  ·exact hU x h1
 refine ⟨v9,T9 ++ U,(hu.then h.1).keep k (fun x hx=>by simp at hx;omega) (by simpa using hb) (fun x hx hm=>by simp at hm;subst hm;exact hw hx),(hs.keep h.1 (by simp)).keep k (by simpa using hsc),(hc.keep h.1 (by simp)).set 1 v9,h.2.1.gv.keep rawE_kept k (fun x hx hm=>?_),fun x hx=>?_⟩
 ·simp at hm;subst hm;rcases hT _ hx with h1 | h1
  ·have:=hl _ h1;omega
  ·omega
 ·rcases hT x hx with h1 | h1
  ·exact .inl h1
  ·exact .inr (by omega)
theorem mem2 {a b c:Nat} (h1:a≠b) (h2:a≠c):a∉[b,c]:=by simp [h1,h2]
theorem kcA {p q:Nat} {a w:World} {u0 u1:Value} {x0 x1:Nat} (k:Keeps [] a w):Keeps [p,q] a ((w.setCell ⟨p,x0,none⟩ u0).setCell ⟨p,x1,none⟩ u1) :=
 (((k.mono (by simp):Keeps [p,q] a w).setCell (.inl (by simp)) u0).setCell (.inl (by simp)) u1)
theorem kcB {p q:Nat} {a w:World} {u0 u1 v0 v1 v2 v3 v4:Value} {x0 x1 y0 y1 y2 y3 y4:Nat} (k:Keeps [] a w):Keeps [p,q] a (((((((w.setCell ⟨p,x0,none⟩ u0).setCell ⟨p,x1,none⟩ u1).setCell ⟨q,y0,none⟩ v0).setCell ⟨q,y1,none⟩ v1).setCell ⟨q,y2,none⟩ v2).setCell ⟨q,y3,none⟩ v3).setCell ⟨q,y4,none⟩ v4) :=
 ((((((kcA k).setCell (.inl (by simp)) v0).setCell (.inl (by simp)) v1).setCell (.inl (by simp)) v2).setCell (.inl (by simp)) v3).setCell (.inl (by simp)) v4)
theorem fire_new {w wx W:World} {vc vw va vx vs:Value} {o:Pn.Op} {SX SW:List Nat} {b:Nat} {cs:List Md.Ch} {st:Md.St} {r:Mr.St} {D:Md.St × Option Md.Res} {rq rr:Md.Res} {gi:Int} {R:Nat→Prop} (hD:D=(⟨cs,Md.drops st.waits gi⟩,some rr)) (hr:Mr.Rel st r) (hu:FiU w vc vw va o rq b vx vs (keepsG gi r.waits) SW wx) (hx:GV chE 3 wx vx cs SX) (hR:∀ x∈SX ++ SW,(x < w.heap.size∧R x)∨w.heap.size + 5≤x)
  (kf:Keeps [w.heap.size + 1 + 1,w.heap.size + 1 + 1 + 1,w.heap.size + 1 + 1 + 1 + 1] wx W):RFirePost w D r.waits.length R (.returned (.tuple #[.agg #[vx,vs],.agg (resV rr),.bool true])) W:=by
 subst hD;have kk:Keeps [] w W:=hu.1.1.trans kf (fun x hx=>by simp at hx;exact .inr (by omega));have hlt:∀ x∈SX ++ SW,x < wx.heap.size:=fun x hm=>by
  rcases List.mem_append.1 hm with h2 | h2
  ·exact hx.lt x h2
  ·exact hu.2.2.lt x h2
 have hne:∀ x∈SX ++ SW,x∉[w.heap.size + 1 + 1,w.heap.size + 1 + 1 + 1,w.heap.size + 1 + 1 + 1 + 1]:=fun x hx hm=>by
  have hm2:x=w.heap.size + 1 + 1∨x=w.heap.size + 1 + 1 + 1∨x=w.heap.size + 1 + 1 + 1 + 1:=by simpa using hm
  rcases hR x hx with h2 | h2 <;> omega
 refine ⟨_,rfl,⟨cs,keepsG gi r.waits⟩,⟨rfl,(rel_drop hr).2⟩,keepsG_le _ _,vx,vs,SX ++ SW,rfl,⟨(hx.mono (fun x hx=>by simp [hx]) hlt).keep chE_kept kf hne,(hu.2.2.mono (fun x hx=>by simp [hx]) hlt).keep wtE_kept kf hne⟩,kk,fun x hx=>?_,fun x hx=>Nat.lt_of_lt_of_le (hlt x hx) kf.size⟩;rcases hR x hx with h2 | h2
 ·exact .inl h2.2
 ·exact .inr (by omega)
theorem fire_still {w wx W:World} {vc vw va vs:Value} {o:Pn.Op} {S SW:List Nat} {b:Nat} {st:Md.St} {r:Mr.St} {D:Md.St × Option Md.Res} {rq rr:Md.Res} {gi:Int} {R:Nat→Prop} (hD:D=(⟨st.chans,Md.drops st.waits gi⟩,some rr)) (h:MR w vc vw r S) (hr:Mr.Rel st r) (hR:∀ x∈S,R x) (hu:FiU w vc vw va o rq b vc vs (keepsG gi r.waits) SW wx) (hS:∀ x∈SW,x∈S∨(w.heap.size + 5≤x∧x≠b))
  (kf:Keeps [w.heap.size + 1 + 1,w.heap.size + 1 + 1 + 1,w.heap.size + 1 + 1 + 1 + 1] wx W):RFirePost w D r.waits.length R (.returned (.tuple #[.agg #[vc,vs],.agg (resV rr),.bool true])) W :=
 fire_new (cs:=r.chans) (by rw [hD,hr.1]) hr hu (h.then hu.1.1).1 (fun x hx=>by
  rcases List.mem_append.1 hx with h2 | h2
  ·exact .inl ⟨h.lt x h2,hR x h2⟩
  ·rcases hS x h2 with h3 | h3
   ·exact .inl ⟨h.lt x h3,hR x h3⟩
   ·exact .inr h3.1) kf
theorem fire_none {w wx W:World} {vc vw va vx vs:Value} {o:Pn.Op} {S SW:List Nat} {b:Nat} {l:List (Int × Pn.Op)} {st:Md.St} {r:Mr.St} {D:Md.St × Option Md.Res} {rq:Md.Res} {R:Nat→Prop} (hD:D=(st,none)) (h:MR w vc vw r S) (hr:Mr.Rel st r) (hR:∀ x∈S,R x) (hu:FiU w vc vw va o rq b vx vs l SW wx)
  (kf:Keeps [w.heap.size + 1 + 1,w.heap.size + 1 + 1 + 1,w.heap.size + 1 + 1 + 1 + 1] wx W):RFirePost w D r.waits.length R (.returned (.tuple #[.agg #[vc,vw],.agg (resV Md.noRes),.bool false])) W:=by
 subst hD;have kk:Keeps [] w W:=hu.1.1.trans kf (fun x hx=>by simp at hx;exact .inr (by omega));exact ⟨_,rfl,r,hr,Nat.le_refl _,(h.then kk).to kk hR⟩
theorem fire_with {w wx w8 W:World} {vc vw va vx vs v:Value} {o:Pn.Op} {SW:List Nat} {b:Nat} {cs:List Md.Ch} {l:List (Int × Pn.Op)} {st:Md.St} {r:Mr.St} {D:Md.St × Option Md.Res} {rq rr:Md.Res} {gi:Int} {R R':Nat→Prop} (hD:D=(⟨cs,Md.drops st.waits gi⟩,some rr)) (hr:Mr.Rel st r) (hu:FiU w vc vw va o rq b vx vs l SW wx) (hm:MRto wx ⟨cs,keepsG gi r.waits⟩ R' v w8) (hR:∀ x,R' x→(x < w.heap.size∧R x)∨w.heap.size + 5≤x)
  (kf:Keeps [w.heap.size + 1 + 1,w.heap.size + 1 + 1 + 1,w.heap.size + 1 + 1 + 1 + 1] w8 W):RFirePost w D r.waits.length R (.returned (.tuple #[v,.agg (resV rr),.bool true])) W:=by
 subst hD;obtain ⟨vc',vw',S',rfl,h1,h2,h3,h4⟩:=hm;have kk:Keeps [] w W:=(hu.1.1.then h2).trans kf (fun x hx=>by simp at hx;exact .inr (by omega));have hz:=hu.1.lt;have hcl:∀ x∈S',(x < w.heap.size∧R x)∨w.heap.size + 5≤x:=fun x hx=>by
  rcases h3 x hx with h | h
  ·exact hR x h
  ·exact .inr (by omega)
 have hne:∀ x∈S',x∉[w.heap.size + 1 + 1,w.heap.size + 1 + 1 + 1,w.heap.size + 1 + 1 + 1 + 1]:=fun x hx hm=>by
  have hm2:x=w.heap.size + 1 + 1∨x=w.heap.size + 1 + 1 + 1∨x=w.heap.size + 1 + 1 + 1 + 1:=by simpa using hm
  rcases hcl x hx with h2 | h2 <;> omega
 refine ⟨_,rfl,⟨cs,keepsG gi r.waits⟩,⟨rfl,(rel_drop hr).2⟩,keepsG_le _ _,vc',vw',S',rfl,h1.keep kf hne,kk,fun x hx=>?_,fun x hx=>Nat.lt_of_lt_of_le (h4 x hx) kf.size⟩;rcases hcl x hx with h2 | h2
 ·exact .inl h2.2
 ·exact .inr (by omega)
theorem ref20_with_at (w:World) (vc vw vb:Value) (r:Mr.St) (S:List Nat) (k:Nat) (ch:Int) (cap:Int) (buf:List Int) (cl:Bool) (U:List Nat) (gi:Int) (h:MR w vc vw r S) (hk:k < r.chans.length) (hc:ch=(k:Int) + 1) (hb:GV rawE 1 w vb buf U) (hn1:r.chans.length≤100000) (hn2:r.waits.length≤100000) :
  Calls Try.prog 79 #[.agg #[vc,vw],.int .i64 ch,.agg #[.int .i64 cap,vb,.bool cl],.int .i64 gi] w fun e w'=>∃ v,e=.returned v∧MRto w ⟨r.chans.set k ⟨cap,buf,cl⟩,keepsG gi r.waits⟩ (fun x=>x∈S∨x∈U) v w':=by
 subst hc;exact ref20_with w vc vw vb r S k ⟨cap,buf,cl⟩ U gi h hk hb hn1 hn2
theorem put_at {l:List Md.Ch} {ch:Int} {k:Nat} {c:Md.Ch} (h:ch=(k:Int) + 1):Md.putChan l ch c=l.set k c:=by
 unfold Md.putChan;rw [show (ch - 1).toNat=k by omega]
end Go.Proofs.Ytdibmkjoaghafaa
