/-
  What the laws need, part Q15.
  Conditions: none.
-/
import Derived.Test.YtdibmkjoaghafaaQ14
import Derived.StillTailTactics
set_option linter.unusedVariables false
set_option linter.unusedSimpArgs false
set_option linter.unnecessarySimpa false
set_option maxHeartbeats 2000000
namespace Go.Proofs.Ytdibmkjoaghafaa
open Go.RowKit
theorem GV.ch {w:World} {ao:Option Addr} {m cap k:Nat} {S:List Nat} {l:List Md.Ch} {c:Md.Ch} (h:GV chE 3 w (.slice ao m cap) l S) (hk:l[k]?=some c) :
  ∃ g off ab cb U,ao=some ⟨g,off,none⟩∧g < w.heap.size∧(w.cell? ⟨g,off + k * 3,none⟩=some (.int .i64 c.cap)∧w.cell? ⟨g,off + k * 3 + 1,none⟩=some (.slice ab c.buf.length cb)∧w.cell? ⟨g,off + k * 3 + 2,none⟩=some (.bool c.closed)) ∧
   GV rawE 1 w (.slice ab c.buf.length cb) c.buf U∧∀ x∈U,x∈S:=by
 obtain ⟨g,off,cs,U,h1,h2,h3,h4,h5,⟨vb,rfl,h6⟩,h7⟩:=h.get hk;obtain ⟨ab,cb,rfl⟩:=h6.shape;exact ⟨g,off,ab,cb,U,h1,h3,⟨h5 0 (by omega),h5 1 (by omega),h5 2 (by omega)⟩,h6,h7⟩
theorem Md.may_none {st:Md.St} {g:Int} {s:Md.Sd} (h:Md.chan st.chans s.ch=none):Md.may st g s=false:=by unfold Md.may;rw [h]
theorem Md.may_some {st:Md.St} {g:Int} {s:Md.Sd} {c:Md.Ch} (h:Md.chan st.chans s.ch=some c) :
  Md.may st g s=(c.closed || (s.send && decide ((c.buf.length:Int) < c.cap)) || (!s.send && decide (0 < c.buf.length)) || (decide (c.cap=0) && Md.another st g s.ch (!s.send))):=by unfold Md.may;rw [h]
theorem Md.chan_at {l:List Md.Ch} {ch:Int} {c:Md.Ch} (h:Md.chan l ch=some c):∃ k:Nat,ch=(k:Int) + 1∧k < l.length∧l[k]?=some c:=by
 unfold Md.chan at h
 split at h
 ·exact ⟨(ch - 1).toNat,by omega,(List.getElem?_eq_some_iff.1 h).1,h⟩
 ·cases h
set_option maxRecDepth 100000 in
set_option maxHeartbeats 3200000 in
theorem ref20_may (w:World) (vc vw vo:Value) (st:Md.St) (r:Mr.St) (S:List Nat) (gi:Int) (o:Pn.Op) (U:List Nat) (i:Int) (h:MR w vc vw r S) (hr:Mr.Rel st r) (ho:GV caseE 3 w vo o.cases U) :
  Calls Try.prog 78 #[.agg #[vc,vw],.int .i64 gi,.agg (opV o vo),.int .i64 i] w fun e w'=>e=.returned (.bool (Md.mayAt st gi o i))∧Keeps [] w w':=by
 have HM:=Lib.hid h;have HR:=Lib.hid hr;have HO:=Lib.hid ho;obtain ⟨ac,cc,rfl⟩:=h.1.shape;obtain ⟨aw,cw,rfl⟩:=h.2.shape;obtain ⟨ao,co,rfl⟩:=ho.shape;have hle:=h.1.le;unfold maxLen at hle;obtain ⟨q,hq⟩:∃ q,Md.mayAt st gi o i=q:=⟨_,rfl⟩
 rw [hq];unfold Md.mayAt at hq;have HQ:=Lib.hid hq;clear h hr ho hq;obtain ⟨w0,hw0⟩:∃ w0,(w.alloc (.cells #[.slice ac r.chans.length cc,.slice aw r.waits.length cw] 35)).alloc (.cells #[.int .i64 o.kind,.int .i64 o.ch,.int .i64 o.n,.int .i64 o.v,.slice ao o.cases.length co,.bool o.els] 28)=w0:=⟨_,rfl⟩
 have K0:Hid (Keeps [] w w0):=Lib.hid (hw0 ▸ ((Keeps.refl [] w).alloc _).alloc _);have HMB:Hid (Blk w0 w.heap.size [.slice ac r.chans.length cc,.slice aw r.waits.length cw] 35):=Lib.hid (hw0 ▸ (Blk.fresh w [.slice ac r.chans.length cc,.slice aw r.waits.length cw] _ _ rfl).alloc _);have HOB:Hid (Blk w0 (w.heap.size + 1) [.int .i64 o.kind,.int .i64 o.ch,.int .i64 o.n,.int .i64 o.v,.slice ao o.cases.length co,.bool o.els] 28):=Lib.hid (hw0 ▸ Blk.fresh _ [.int .i64 o.kind,.int .i64 o.ch,.int .i64 o.n,.int .i64 o.v,.slice ao o.cases.length co,.bool o.els] _ _ (by simp));obtain ⟨⟨o0,o1,o2,o3,o4,o5⟩,_⟩:=Blk.six HOB.out;unfold opV
 go_enter Try.func78,Try.ntmps78
 go_wp2_with fail
 refine (ref20_side _ o _ U i (HO.out.then caseE_kept K0.out)).mono ?_
 rintro e w1 ⟨rfl,k1⟩
 have K1:=Lib.hid (K0.out.then k1);have HMB1:=Lib.hid (HMB.out.keep k1 (by simp));clear k1 o0 o1 o2 o3 o4 o5 hw0 HMB HOB
 cases hs:Md.side o i with
 | none =>
  have HF:Hid (q=false):=Lib.hid (by rw [← HQ.out,hs]);unfold csV Md.noSide;simp only [Option.getD_none,Option.isSome_none]
  go_wp2_with fail
  go_ret
  exact ⟨by rw [HF.out];rfl,K1.out.alloc _⟩
 | some t =>
  have HQ2:Hid (q=Md.may st gi t):=Lib.hid (by rw [← HQ.out,hs]);clear hs HQ;unfold csV;simp only [Option.getD_some,Option.isSome_some];obtain ⟨w2,hw2⟩:∃ w2,w1.alloc (.cells #[.bool t.send,.int .i64 t.ch,.int .i64 t.v] 87)=w2:=⟨_,rfl⟩
  have K2:Hid (Keeps [] w w2):=Lib.hid (K1.out.then (hw2 ▸ (Keeps.refl [] w1).alloc _));have HMB2:=Lib.hid (hw2 ▸ HMB1.out.alloc (.cells #[.bool t.send,.int .i64 t.ch,.int .i64 t.v] 87));have HTB:Hid (Blk w2 w1.heap.size [.bool t.send,.int .i64 t.ch,.int .i64 t.v] 87):=Lib.hid (hw2 ▸ Blk.fresh w1 [.bool t.send,.int .i64 t.ch,.int .i64 t.v] _ _ rfl);have m0:w2.cell? ⟨w.heap.size,0,none⟩=some (.slice ac r.chans.length cc):=HMB2.out.cell 0;have m1:w2.cell? ⟨w.heap.size,1,none⟩=some (.slice aw r.waits.length cw):=HMB2.out.cell 1;obtain ⟨⟨t0,t1,t2⟩,_⟩:=Blk.three HTB.out
  go_wp2_with fail
  refine (ref20_made _ _ _ r S t.ch (HM.out.then K2.out)).mono ?_
  rintro e w3 ⟨rfl,k3⟩
  have K3:=Lib.hid (K2.out.then k3);have HMB3:=Lib.hid (HMB2.out.keep k3 (by simp));have HTB3:=Lib.hid (HTB.out.keep k3 (by simp));clear k3 hw2 m0 m1 t0 t1 t2 HMB1 HMB2 HTB
  cases hc:Md.chan r.chans t.ch with
  | none =>
   have HF:Hid (q=false):=Lib.hid (by rw [HQ2.out];exact Md.may_none (by rw [HR.out.1];exact hc));simp only [Option.isSome_none]
   go_wp2_with fail
   go_ret
   exact ⟨by rw [HF.out];rfl,K3.out⟩
  | some c =>
   have HF:Hid (q=(c.closed || (t.send && decide ((c.buf.length:Int) < c.cap)) || (!t.send && decide (0 < c.buf.length)) || (decide (c.cap=0) && Md.another st gi t.ch (!t.send)))):=Lib.hid (by rw [HQ2.out];exact Md.may_some (by rw [HR.out.1];exact hc));obtain ⟨k,hck,hkl,hx⟩:=Md.chan_at hc;obtain ⟨g,off,ab,cb,U2,rfl,hg,⟨e0,e1,e2⟩,hgv,_⟩:=GV.ch (HM.out.then K3.out).1 hx;have hbl:=hgv.le;unfold maxLen at hbl;simp only [Option.isSome_some];have i0:(0:Int)≤t.ch - 1:=by omega
   have i1:t.ch - 1 < (r.chans.length:Int):=by omega
   have i2:(t.ch - 1).toNat=k:=by omega
   have HCK:=Lib.hid hck;obtain ⟨w4,hw4⟩:∃ w4,w3.alloc (.cells #[.int .i64 c.cap,.slice ab c.buf.length cb,.bool c.closed] 45)=w4:=⟨_,rfl⟩
   have K4:Hid (Keeps [] w w4):=Lib.hid (K3.out.then (hw4 ▸ (Keeps.refl [] w3).alloc _));have HMB4:=Lib.hid (hw4 ▸ HMB3.out.alloc (.cells #[.int .i64 c.cap,.slice ab c.buf.length cb,.bool c.closed] 45));have HTB4:=Lib.hid (hw4 ▸ HTB3.out.alloc (.cells #[.int .i64 c.cap,.slice ab c.buf.length cb,.bool c.closed] 45));have HCB4:Hid (Blk w4 w3.heap.size [.int .i64 c.cap,.slice ab c.buf.length cb,.bool c.closed] 45):=Lib.hid (hw4 ▸ Blk.fresh w3 [.int .i64 c.cap,.slice ab c.buf.length cb,.bool c.closed] _ _ rfl);have m0:w3.cell? ⟨w.heap.size,0,none⟩=some (.slice (some ⟨g,off,none⟩) r.chans.length cc):=HMB3.out.cell 0;have t1:w3.cell? ⟨w1.heap.size,1,none⟩=some (.int .i64 t.ch):=HTB3.out.cell 1;have m40:w4.cell? ⟨w.heap.size,0,none⟩=some (.slice (some ⟨g,off,none⟩) r.chans.length cc):=HMB4.out.cell 0;have m41:w4.cell? ⟨w.heap.size,1,none⟩=some (.slice aw r.waits.length cw):=HMB4.out.cell 1;obtain ⟨⟨t40,t41,t42⟩,_⟩:=Blk.three HTB4.out;obtain ⟨⟨c40,c41,c42⟩,_⟩:=Blk.three HCB4.out;clear hgv hx hc hck
   go_upto_region 5 with fail
   clear hw4 e0 e1 e2 m0 t1
   cases b0:c.closed with
   | true =>
    rw [b0] at c42;have HT:Hid (q=true):=Lib.hid (by rw [HF.out,b0];rfl);clear b0
    go_wp2_with fail
    go_ret
    exact ⟨by rw [HT.out];rfl,K4.out⟩
   | false =>
    rw [b0] at c42;have HF2:Hid (q=((t.send && decide ((c.buf.length:Int) < c.cap)) || (!t.send && decide (0 < c.buf.length)) || (decide (c.cap=0) && Md.another st gi t.ch (!t.send)))):=Lib.hid (by rw [HF.out,b0,Bool.false_or]);clear b0 HF
    cases b1:(c.cap == 0) with
    | true =>
     have HZ:Hid (c.cap=0):=Lib.hid (by simpa using b1)
     go_wp2_with fail
     refine (ref20_other _ _ _ st r S gi t (HM.out.then K4.out) HR.out).mono ?_
     rintro e w5 ⟨rfl,k5⟩
     have K5:=Lib.hid (K4.out.then k5);have t0:w5.cell? ⟨w1.heap.size,0,none⟩=some (.bool t.send):=(HTB4.out.keep k5 (by simp)).cell 0;obtain ⟨⟨c50,c51,c52⟩,_⟩:=Blk.three (HCB4.out.keep k5 (by simp));clear k5 m40 m41 t40 t41 t42 c40 c41 c42
     cases ha:Md.another st gi t.ch (!t.send) with
     | true =>
      have HT:Hid (q=true):=Lib.hid (by rw [HF2.out,ha,HZ.out];simp)
      go_wp2_with fail
      go_ret
      exact ⟨by rw [HT.out];rfl,K5.out⟩
     | false =>
      cases b2:t.send with
      | true =>
       rw [b2] at t0;have HT:Hid (q=decide ((c.buf.length:Int) < c.cap)):=Lib.hid (by rw [HF2.out,ha,b2];simp);clear b2
       go_wp2_with fail
       go_ret
       exact ⟨by rw [HT.out];rfl,K5.out⟩
      | false =>
       rw [b2] at t0;have HT:Hid (q=decide ((0:Int) < (c.buf.length:Int))):=Lib.hid (by rw [HF2.out,ha,b2];simp);clear b2
       go_wp2_with fail
       go_ret
       exact ⟨by rw [HT.out];simp [go_sem],K5.out⟩
    | false =>
     have HZ:Hid (decide (c.cap=0)=false):=Lib.hid (by simpa using b1)
     cases b2:t.send with
     | true =>
      rw [b2] at t40;have HT:Hid (q=decide ((c.buf.length:Int) < c.cap)):=Lib.hid (by rw [HF2.out,HZ.out,b2];simp);clear b2
      go_wp2_with fail
      go_ret
      exact ⟨by rw [HT.out];rfl,K4.out⟩
     | false =>
      rw [b2] at t40;have HT:Hid (q=decide ((0:Int) < (c.buf.length:Int))):=Lib.hid (by rw [HF2.out,HZ.out,b2];simp);clear b2
      go_wp2_with fail
      go_ret
      exact ⟨by rw [HT.out];simp [go_sem],K4.out⟩
open Go.RowKit
theorem elemWait:Elem Try.prog 33 84 7 72 (.agg #[.int .i64 0,.int .i64 0,.int .i64 0,.int .i64 0,.int .i64 0,.slice none 0 0,.bool false]):=⟨Try.underlying33,by kernel_rfl,rfl,by decide,by decide⟩
def keepsG (g:Int) (l:List (Int × Pn.Op)):List (Int × Pn.Op):=l.filter (fun p=>p.1 != g)
theorem keepsG_more {g:Int} {l:List (Int × Pn.Op)} {k:Nat} {p:Int × Pn.Op} (h:l[k]?=some p) (hp:(p.1 == g)=false):keepsG g (l.take (k + 1))=keepsG g (l.take k) ++ [p]:=by
 unfold keepsG;rw [List.take_add_one,h,Option.toList_some,List.filter_append];simp [bne,hp]
theorem keepsG_same {g:Int} {l:List (Int × Pn.Op)} {k:Nat} {p:Int × Pn.Op} (h:l[k]?=some p) (hp:(p.1 == g)=true):keepsG g (l.take (k + 1))=keepsG g (l.take k):=by
 unfold keepsG;rw [List.take_add_one,h,Option.toList_some,List.filter_append];simp [bne,hp]
theorem keepsG_len (g:Int) (l:List (Int × Pn.Op)) (k:Nat):(keepsG g (l.take k)).length≤l.length:=by
 unfold keepsG;exact Nat.le_trans (List.length_filter_le _ _) (by rw [List.length_take];omega)
def WO (w:World) (S:List Nat) (l:List (Int × Pn.Op)) (v:Value) (wr:World):Prop :=
 ∃ T S2,GR wtE 7 wr v 84 l T S2∧Keeps [] w wr∧(∀ x∈T,w.heap.size≤x)∧(∀ x∈S2,x∈S)∧w.heap.size≤wr.heap.size
set_option maxRecDepth 100000 in
set_option maxHeartbeats 1600000 in
theorem ref20_without (w:World) (v:Value) (l:List (Int × Pn.Op)) (S:List Nat) (gi:Int) (h:GV wtE 7 w v l S) (hb:l.length≤100000) :
  Calls Try.prog 69 #[v,.int .i64 gi] w fun e w'=>∃ v' S',e=.returned v'∧GV wtE 7 w' v' (keepsG gi l) S'∧Keeps [] w w'∧∀ x∈S',x∈S∨w.heap.size≤x:=by
 obtain ⟨ao,cap,rfl⟩:=h.shape;have HV:=Lib.hid h;have HB:=Lib.hid hb;have hle:=h.le;unfold maxLen at hle;have HSL:=Lib.hid h.lt;have H0:Hid (WO w S [] (.slice (some ⟨w.heap.size,0,none⟩) 0 0) (w.alloc (.cells #[] 84))):=Lib.hid ⟨_,_,GR.lit wtE 7 w 84 _ rfl,(Keeps.refl [] w).alloc _,by simp,by simp,by simp⟩;clear h hb
 go_enter Try.func69,Try.ntmps69
 go_wp2_with fail
 go_loopw [5,11] (fun out u wr=>∃ k:Nat,k≤l.length∧u=.int .i64 k∧Hid (WO w S (keepsG gi (l.take k)) out wr)) (fun _ u _=>l.length - (intOf u).toNat)
 case atStart=>exact ⟨0,Nat.zero_le _,rfl,H0⟩
 case round =>
  obtain ⟨k,hk,rfl,HI⟩:=hrel;obtain ⟨wo,rfl⟩:∃ wo:World,wo=wr:=⟨_,rfl⟩
  obtain ⟨T,S2,hgr,hkp,hT,hS2,hsz⟩:=HI.out;have hll:=keepsG_len gi l k;obtain ⟨L,hL⟩:∃ L,keepsG gi (l.take k)=L:=⟨_,rfl⟩
  rw [hL] at hgr hll HI;have HLQ:=Lib.hid hL;obtain ⟨aoo,capo,rfl⟩:=hgr.shape;have HG:=Lib.hid hgr;have HKP:=Lib.hid hkp;have HT:=Lib.hid hT;have HS2:=Lib.hid hS2;have HSZ:=Lib.hid hsz;have HLL:=Lib.hid hll;clear hgr hkp hT hS2 hsz hL hll
  by_cases hlt:k < l.length
  ·obtain ⟨p,hx⟩:∃ p,l[k]?=some p:=⟨_,List.getElem?_eq_getElem hlt⟩
   obtain ⟨g,off,ac2,cc2,U,rfl,hg,hrg,hgv,hU⟩:=wt_var (HV.out.then wtE_kept HKP.out) hx;obtain ⟨w3,hw3⟩:∃ w3,wo.alloc (.cells (wtC p (.slice ac2 p.2.cases.length cc2)).toArray 84)=w3:=⟨_,rfl⟩
   have K3:Hid (Keeps [] wo w3):=Lib.hid (hw3 ▸ (Keeps.refl [] wo).alloc _);have HB3:Hid (Blk w3 wo.heap.size (wtC p (.slice ac2 p.2.cases.length cc2)) 84):=Lib.hid (hw3 ▸ Blk.fresh wo _ _ _ rfl);have x0:=HB3.out.wt.1;have hrg3:w3.rangeAt wo.heap.size 0 [.int .i64 p.1,.int .i64 p.2.kind,.int .i64 p.2.ch,.int .i64 p.2.n,.int .i64 p.2.v,.slice ac2 p.2.cases.length cc2,.bool p.2.els]:=HB3.out.range;have HONE:=wtC_one p ac2 p.2.cases.length cc2;have HLT:=Lib.hid hlt;have HX:=Lib.hid hx;have HGV:=Lib.hid hgv;have HU:=Lib.hid hU;have HZ3:Hid (w3.heap.size=wo.heap.size + 1):=Lib.hid (by rw [← hw3];simp);clear hgv hU hx
   cases hc:(p.1 == gi) with
   | true =>
    go_wp2_with (first
     | (refine wpList_load_mid rfl 84 (.tmp 13) rfl g (off + k * 7) (by rfl) _ _ hrg Try.underlying84 rfl (by kernel_rfl) ?_)
     | (refine wpList_store_mid rfl 84 (.tmp 7) (.tmp 14) rfl wo.heap.size 0 _ (by rfl) (by rfl) (there_alloc_new wo _ _ (by rfl)) (by kernel_rfl) HONE ?_;rw [alloc_setCells wo _ _ _ (by rfl),hw3])
     | fail)
    go_roundw
    case rel=>exact ⟨k + 1,by have:=HLT.out;omega,by go_num,Lib.hid (by
     rw [keepsG_same HX.out hc,HLQ.out];exact ⟨T,S2,HG.out.then wtE_kept K3.out,HKP.out.then K3.out,HT.out,HS2.out,Nat.le_trans HSZ.out K3.out.size⟩)⟩
    case measure=>have:=HLT.out;simp [intOf];omega
   | false =>
    have HG3:=Lib.hid (HG.out.then wtE_kept K3.out);have HE3:Hid (wtE w3 (wtC p (.slice ac2 p.2.cases.length cc2)) p U):=Lib.hid ⟨_,rfl,HGV.out.then caseE_kept K3.out⟩;have HD:Hid (∀ y∈U,y∉T):=Lib.hid (fun y hy hm=>by have:=HSL.out y (HU.out y hy);have:=HT.out y hm;omega);have HTL:=Lib.hid HG.out.lt.1
    go_upto_region 6 with (first
     | (refine wpList_load_mid rfl 84 (.tmp 13) rfl g (off + k * 7) (by rfl) _ _ hrg Try.underlying84 rfl (by kernel_rfl) ?_)
     | (refine wpList_store_mid rfl 84 (.tmp 7) (.tmp 14) rfl wo.heap.size 0 _ (by rfl) (by rfl) (there_alloc_new wo _ _ (by rfl)) (by kernel_rfl) HONE ?_;rw [alloc_setCells wo _ _ _ (by rfl),hw3])
     | fail)
    clear hw3 hrg
    go_wp2_with (first
     | (refine wpList_load_mid rfl 84 (.tmp 7) rfl wo.heap.size 0 (by rfl) _ _ hrg3 Try.underlying84 rfl (by kernel_rfl) ?_)
     | (at_builtin;go_must (refine wp_gapp1 elemWait wtE_kept HG3.out (show wtE _ [.int .i64 p.1,.int .i64 p.2.kind,.int .i64 p.2.ch,.int .i64 p.2.n,.int .i64 p.2.v,.slice ac2 p.2.cases.length cc2,.bool p.2.els] p U from HE3.out) rfl HD.out (by simp [Value.oneCell']) (by have:=HLL.out;have:=HB.out;omega) ?_))
     | fail)
    intro ao7 cap7 w7 T7 r7 k7 s7;have KW:Hid (Keeps [] w w7):=Lib.hid ((HKP.out.then K3.out).trans k7 (fun x hx=>.inr (HT.out x hx)));have HN:Hid (WO w S (keepsG gi (l.take (k + 1))) (.slice ao7 (L.length + 1) cap7) w7):=Lib.hid (by
     rw [keepsG_more HX.out hc,HLQ.out];exact ⟨T7,S2 ++ U,r7,KW.out,fun x hx=>(by
      rcases s7 x hx with h | h
      ·exact HT.out x h
      ·have:=HZ3.out;have:=HSZ.out;omega),fun x hx=>(by
      rcases List.mem_append.1 hx with h | h
      ·exact HS2.out x h
      ·exact HU.out x h),KW.out.size⟩)
    clear r7 k7 s7 x0 hrg3
    go_wp2_with fail
    go_roundw
    case rel=>exact ⟨k + 1,by have:=HLT.out;omega,by go_num,HN⟩
    case measure=>have:=HLT.out;simp [intOf];omega
  ·obtain rfl:k=l.length:=by omega
   have HGV:=Lib.hid HG.out.gv;have HEQ:Hid (L=keepsG gi l):=Lib.hid (by rw [← HLQ.out,List.take_length])
   go_wp2_with fail
   go_ret
   exact ⟨_,_,rfl,by rw [← HEQ.out];exact HGV.out,HKP.out,fun x hx=>by
    rcases List.mem_append.1 hx with h | h
    ·exact .inr (HT.out x h)
    ·exact .inl (HS2.out x h)⟩
open Go.RowKit
theorem elemRChan:Elem Try.prog 32 45 3 40 (.agg #[.int .i64 0,.slice none 0 0,.bool false]):=⟨Try.underlying32,by kernel_rfl,rfl,by decide,by decide⟩
def MRto (w:World) (r:Mr.St) (R:Nat→Prop) (v:Value) (w':World):Prop :=
 ∃ vc vw S,v=.agg #[vc,vw]∧MR w' vc vw r S∧Keeps [] w w'∧(∀ x∈S,R x∨w.heap.size≤x)∧∀ x∈S,x < w'.heap.size
theorem MR.lt {w:World} {vc vw:Value} {r:Mr.St} {S:List Nat} (h:MR w vc vw r S):∀ x∈S,x < w.heap.size:=h.1.lt
set_option maxRecDepth 100000 in
set_option maxHeartbeats 1600000 in
theorem ref20_with (w:World) (vc vw vb:Value) (r:Mr.St) (S:List Nat) (k:Nat) (c:Md.Ch) (U:List Nat) (gi:Int) (h:MR w vc vw r S) (hk:k < r.chans.length) (hb:GV rawE 1 w vb c.buf U) (hn1:r.chans.length≤100000) (hn2:r.waits.length≤100000) :
  Calls Try.prog 79 #[.agg #[vc,vw],.int .i64 ((k:Int) + 1),.agg #[.int .i64 c.cap,vb,.bool c.closed],.int .i64 gi] w fun e w'=>∃ v,e=.returned v∧MRto w ⟨r.chans.set k c,keepsG gi r.waits⟩ (fun x=>x∈S∨x∈U) v w':=by
 obtain ⟨ac,cc,rfl⟩:=h.1.shape;obtain ⟨aw,cw,rfl⟩:=h.2.shape;obtain ⟨ab,cb,rfl⟩:=hb.shape;have HC:=Lib.hid h.1;have HW:=Lib.hid h.2;have HSL:=Lib.hid h.lt;have HB:=Lib.hid hb;have HUL:=Lib.hid hb.lt;have HN1:=Lib.hid hn1;have HN2:=Lib.hid hn2;have hle:=h.1.le;unfold maxLen at hle;clear h hb hn1 hn2;obtain ⟨w0,hw0⟩:∃ w0,((w.alloc (.cells #[.slice ac r.chans.length cc,.slice aw r.waits.length cw] 35)).alloc (.cells #[.int .i64 c.cap,.slice ab c.buf.length cb,.bool c.closed] 45)).alloc (.cells #[.slice none 0 0,.slice none 0 0] 35)=w0:=⟨_,rfl⟩
 have K0:Hid (Keeps [] w w0):=Lib.hid (hw0 ▸ (((Keeps.refl [] w).alloc _).alloc _).alloc _);have HMB:Hid (Blk w0 w.heap.size [.slice ac r.chans.length cc,.slice aw r.waits.length cw] 35):=Lib.hid (hw0 ▸ ((Blk.fresh w [.slice ac r.chans.length cc,.slice aw r.waits.length cw] _ _ rfl).alloc _).alloc _);have HCB:Hid (Blk w0 (w.heap.size + 1) [.int .i64 c.cap,.slice ab c.buf.length cb,.bool c.closed] 45):=Lib.hid (hw0 ▸ (Blk.fresh _ [.int .i64 c.cap,.slice ab c.buf.length cb,.bool c.closed] _ _ (by simp)).alloc _);have HRB:Hid (Blk w0 (w.heap.size + 1 + 1) [.slice none 0 0,.slice none 0 0] 35):=Lib.hid (hw0 ▸ Blk.fresh _ [.slice none 0 0,.slice none 0 0] _ _ (by simp));have HZ0:Hid (w0.heap.size=w.heap.size + 3):=Lib.hid (by rw [← hw0];simp);have m0:∀ x:Obj,(w0.alloc x).cell? ⟨w.heap.size,0,none⟩=some (.slice ac r.chans.length cc):=fun x=>(HMB.out.alloc x).cell 0
 go_enter Try.func79,Try.ntmps79
 go_upto_region 1 with fail
 clear hw0
 go_wp2_with (at_builtin;go_must (refine wp_gapps elemRChan chE_kept (GR.lit chE 3 w0 45 _ rfl) (HC.out.then chE_kept (K0.out.alloc _)) (fun y hy=>by have:=HSL.out y hy;have:=HZ0.out;simp;omega) (by have:=HN1.out;simp;omega) ?_))
 intro ao7 cap7 w7 T7 r7' k7 s7;have r7:GR chE 3 w7 (.slice ao7 r.chans.length cap7) 45 r.chans T7 S:=by simpa using r7'
 clear r7';have HS7:Hid (∀ x∈T7,w.heap.size + 3≤x):=Lib.hid (fun x hx=>by
  have:=HZ0.out;rcases s7 x hx with h | h
  ·first | omega | (simp at h;omega)
  ·first | omega | (simp at h;omega))
 obtain ⟨g7,o7,rfl,rfl,hg7⟩:=r7.addr (by omega);have HG7:Hid (w.heap.size + 3≤g7):=Lib.hid (HS7.out g7 (by simp));have K7:Hid (Keeps [] w w7):=Lib.hid ((K0.out.alloc _).trans k7 (fun x hx=>by simp at hx;have:=HZ0.out;exact .inr (by omega)));have kk7:Keeps [w0.heap.size] w0 w7:=((Keeps.refl _ w0).alloc _).trans k7 (fun x hx=>.inl hx);have HMB7:=Lib.hid (HMB.out.keep kk7 (by have:=HZ0.out;simp;omega));have HCB7:=Lib.hid (HCB.out.keep kk7 (by have:=HZ0.out;simp;omega));have HRB7:=Lib.hid (HRB.out.keep kk7 (by have:=HZ0.out;simp;omega));have hbu:GV rawE 1 w7 (.slice ab c.buf.length cb) c.buf U:=HB.out.then rawE_kept K7.out;obtain ⟨r8,k8,th8⟩:=GR.puts chE_kept r7 k hk (cs:=[.int .i64 c.cap,.slice ab c.buf.length cb,.bool c.closed]) (a:=c) (U:=U) rfl ⟨_,rfl,hbu⟩ (fun y hy hm=>by simp at hm;subst hm;have:=HUL.out _ hy;have:=HG7.out;omega) (by simp [Value.oneCell']);obtain ⟨w8,hw8⟩:∃ w8,w7.setCells g7 (o7 + k * 3) (#[.int .i64 c.cap,.slice ab c.buf.length cb,.bool c.closed]:Array Value).toList=w8:=⟨_,rfl⟩
 have R8:Hid (GR chE 3 w8 (.slice (some ⟨g7,o7,none⟩) r.chans.length cap7) 45 (r.chans.set k c) [g7] (S ++ U)):=Lib.hid (hw8 ▸ r8);have K78:Hid (Keeps [g7] w7 w8):=Lib.hid (hw8 ▸ k8);have K8:Hid (Keeps [] w w8):=Lib.hid (K7.out.trans K78.out (fun x hx=>by simp at hx;subst hx;exact .inr (by have:=HG7.out;omega)));have HMB8:=Lib.hid (HMB7.out.keep K78.out (by have:=HG7.out;simp;omega));have HRB8:=Lib.hid (HRB7.out.keep K78.out (by have:=HG7.out;simp;omega));have m81:w8.cell? ⟨w.heap.size,1,none⟩=some (.slice aw r.waits.length cw):=HMB8.out.cell 1;obtain ⟨⟨c0,c1,c2⟩,_⟩:=Blk.three HCB7.out;clear r7 k7 s7 kk7 hbu r8 k8 m0
 go_wp2_with (first
  | (refine wpList_store_mid rfl 45 (.tmp 18) (.tmp 17) rfl g7 (o7 + k * 3) #[.int .i64 c.cap,.slice ab c.buf.length cb,.bool c.closed] (by rfl) (by rfl) th8 (by kernel_rfl) (by kernel_rfl) ?_;rw [hw8])
  | fail)
 refine (ref20_without _ _ r.waits S gi (HW.out.then wtE_kept K8.out) HN2.out).mono ?_
 rintro e w9 ⟨v9,S9,rfl,gv9,k9,s9⟩
 obtain ⟨a9,c9,rfl⟩:=gv9.shape;have R9:=Lib.hid (R8.out.then chE_kept k9);have HRB9:=Lib.hid (HRB8.out.keep k9 (by simp));have G9:=Lib.hid gv9;have K9:=Lib.hid (K8.out.then k9);have S9':Hid (∀ x∈S9,x∈S∨w.heap.size + 3≤x):=Lib.hid (fun x hx=>by
  rcases s9 x hx with h | h
  ·exact .inl h
  ·exact .inr (by have:=K78.out.size;have:=HG7.out;omega))
 have b0:w9.cell? ⟨w.heap.size + 1 + 1,0,none⟩=some (.slice none 0 0):=HRB9.out.cell 0;have b1:w9.cell? ⟨w.heap.size + 1 + 1,1,none⟩=some (.slice none 0 0):=HRB9.out.cell 1;have f0:w9.frozen? ⟨w.heap.size + 1 + 1,0,none⟩=false:=HRB9.out.free 0;have f1:w9.frozen? ⟨w.heap.size + 1 + 1,1,none⟩=false:=HRB9.out.free 1;clear gv9 k9 s9 m81 c0 c1 c2 hw8
 go_wp2_with fail
 have kf:Keeps [w.heap.size + 1 + 1] w9 ((w9.setCell ⟨w.heap.size + 1 + 1,0,none⟩ (.slice (some ⟨g7,o7,none⟩) r.chans.length cap7)).setCell ⟨w.heap.size + 1 + 1,1,none⟩ (.slice a9 (keepsG gi r.waits).length c9)):=((Keeps.refl _ w9).setCell (by simp) _).setCell (by simp) _;have HF:=Lib.hid kf;refine bodyPost_ret (v:=.agg #[.slice (some ⟨g7,o7,none⟩) r.chans.length cap7,.slice a9 (keepsG gi r.waits).length c9]) (by simp [results,Try.results79,go_sem, *]) rfl ?_;refine ⟨_,rfl,_,_,g7 :: (S ++ U) ++ S9,rfl,⟨?_,?_⟩,?_,?_,?_⟩
 ·exact (R9.out.gv.mono (fun x hx=>by simp at hx ⊢;rcases hx with h | h | h <;> simp [h]) (fun x hx=>by
   simp at hx;rcases hx with h | h | h | h
   ·subst h;exact R9.out.lt.1 _ (by simp)
   ·exact R9.out.lt.2 x (by simp [h])
   ·exact R9.out.lt.2 x (by simp [h])
   ·exact G9.out.lt x h)).keep chE_kept HF.out (fun x hx hm=>by
   simp at hx hm;subst hm;rcases hx with h | h | h | h
   ·have:=HG7.out;omega
   ·have:=HSL.out _ h;omega
   ·have:=HUL.out _ h;omega
   ·rcases S9'.out _ h with h | h
    ·have:=HSL.out _ h;omega
    ·omega)
 ·exact (G9.out.mono (fun x hx=>by simp [hx]) (fun x hx=>by
   simp at hx;rcases hx with h | h | h | h
   ·subst h;exact R9.out.lt.1 _ (by simp)
   ·exact R9.out.lt.2 x (by simp [h])
   ·exact R9.out.lt.2 x (by simp [h])
   ·exact G9.out.lt x h)).keep wtE_kept HF.out (fun x hx hm=>by
   simp at hx hm;subst hm;rcases hx with h | h | h | h
   ·have:=HG7.out;omega
   ·have:=HSL.out _ h;omega
   ·have:=HUL.out _ h;omega
   ·rcases S9'.out _ h with h | h
    ·have:=HSL.out _ h;omega
    ·omega)
 ·exact K9.out.trans HF.out (fun x hx=>by simp at hx;subst hx;exact .inr (by omega))
 ·intro x hx;simp at hx;rcases hx with h | h | h | h
  ·right;have:=HG7.out;omega
  ·exact .inl (.inl h)
  ·exact .inl (.inr h)
  ·rcases S9'.out _ h with h | h
   ·exact .inl (.inl h)
   ·right;omega
 ·intro x hx;have hz:=HF.out.size;simp only [List.mem_append,List.mem_cons] at hx;rcases hx with (h | h | h) | h
  ·subst h;exact Nat.lt_of_lt_of_le (R9.out.lt.1 _ (by simp)) hz
  ·exact Nat.lt_of_lt_of_le (R9.out.lt.2 x (by simp [h])) hz
  ·exact Nat.lt_of_lt_of_le (R9.out.lt.2 x (by simp [h])) hz
  ·exact Nat.lt_of_lt_of_le (G9.out.lt x h) hz
open Go.RowKit
theorem elemCases:Elem Try.prog 26 87 3 24 (.agg #[.bool false,.int .i64 0,.int .i64 0]):=⟨Try.underlying26,by kernel_rfl,rfl,by decide,by decide⟩
theorem GR.flat3 {w:World} {v:Value} {e:TypeId} {l:List Pn.Cs} {T S:List Nat} (h:GR caseE 3 w v e l T S):GV caseE 3 w v l T:=by
 obtain ⟨xs,h1,h2,h3,h4,h5⟩:=h;exact ⟨xs,T,h1.view,fun i a hi=>by obtain ⟨U,⟨hc,rfl⟩,_⟩:=h2 i a hi;exact ⟨[],⟨hc,rfl⟩,by simp⟩,fun x hx=>hx,h1.lt,h5⟩
def ClonedPost (l:List Pn.Cs) (w:World) (e:Ending) (w':World):Prop:=∃ v U,e=.returned v∧GV caseE 3 w' v l U∧(∀ x∈U,w.heap.size≤x)∧Keeps [] w w'
set_option maxRecDepth 100000 in
set_option maxHeartbeats 400000 in
theorem clone_cases (w:World) (v:Value) (l:List Pn.Cs) (U:List Nat) (h:GV caseE 3 w v l U) (hb:l.length≤1000) :
  Calls Try.prog 32 #[v] w (ClonedPost l w):=by
 have HV:=Lib.hid h;have HB:=Lib.hid hb;have hle:=h.le;unfold maxLen at hle;obtain ⟨av,cv,rfl⟩:=h.shape;clear hb
 cases av with
 | none =>
  have h0:l.length=0:=by
   by_cases hp:0 < l.length
   ·obtain ⟨g,off,e,_⟩:=h.addr hp;cases e
   ·omega
  obtain rfl:=List.eq_nil_of_length_eq_zero h0;clear h;have hnil:∀ w:World,(binOp .eql 26 (.slice none ([]:List Pn.Cs).length cv) (.slice none 0 0)).run Try.prog w=.ok (.bool true) w:=fun _=>rfl
  have hnil2:∀ w:World,(binOp .eql 26 (.slice none 0 cv) (.slice none 0 0)).run Try.prog w=.ok (.bool true) w:=fun _=>rfl
  go_enter Try.func32,Try.ntmps32
  go_wp2_with fail
  go_ret
  exact ⟨_,[],rfl,GV.nil _ _ _,by simp,Keeps.refl _ _⟩
 | some a =>
  have HR:=Lib.hid (GR.lit caseE 3 w 87 _ rfl);have HU:=Lib.hid h.lt;clear h;have hnil:∀ w:World,(binOp .eql 26 (.slice (some a) l.length cv) (.slice none 0 0)).run Try.prog w=.ok (.bool false) w:=fun _=>rfl
  go_enter Try.func32,Try.ntmps32
  go_wp2_with (at_builtin;go_must (refine wp_gapps elemCases caseE_kept HR.out (HV.out.then caseE_kept ((Keeps.refl [] w).alloc _)) (fun y hy=>by have:=HU.out y hy;simp;omega) (by have:=HB.out;simp;omega) ?_))
  intro ao7 cap7 w7 T7 r7 k7 s7;have r7':GV caseE 3 w7 (.slice ao7 l.length cap7) l T7:=r7.flat3;have K7:Hid (Keeps [] w w7):=Lib.hid (((Keeps.refl [] w).alloc _).trans k7 (fun x hx=>by simp at hx;subst hx;exact .inr (Nat.le_refl _)));have R7:=Lib.hid r7';have S7:Hid (∀ x∈T7,w.heap.size≤x):=Lib.hid (fun x hx=>by
   rcases s7 x hx with h | h
   ·first | omega | (simp at h;omega)
   ·first | omega | (simp at h;omega))
  clear r7 k7 s7 r7'
  go_wp2_with fail
  go_ret
  exact ⟨_,T7,rfl,R7.out,S7.out,K7.out⟩
theorem model_there (w:World) (p:Value) (st:Md.St) (N:Nat) (S:List Nat) (i:Int) (s:Md.Sd) (c:Nat) (h:Mo w p st N S) (hc:w.cell? ⟨c,0,none⟩=some p) :
  Calls Try.prog 35 #[.int .i64 i,.agg (sdV s),.pointer (some ⟨c,0,none⟩)] w fun e w'=>e=.returned (.bool (Md.chan st.chans s.ch).isSome)∧Keeps [] w w':=by
 obtain ⟨b,bm,vh,T,Us,SW,f,col,rfl,hm⟩:=h;obtain ⟨ao,cap,rfl⟩:=hm.chans.shape;have hle:=hm.chans.le;have HM:=Lib.hid hm;have A1:∀ x:Obj,(w.alloc x).cell? ⟨c,0,none⟩=some (.pointer (some ⟨b,0,none⟩)):=fun x=>((Keeps.refl [] w).alloc x).cell hc (by simp)
 clear hc hm;obtain ⟨sc,ss,sv⟩:=s;unfold sdV;simp only
 by_cases hin:1≤sc∧sc≤(st.chans.length:Int)
 ·obtain ⟨k,rfl⟩:∃ k:Nat,sc=(k:Int) + 1:=⟨(sc - 1).toNat,by omega⟩
  have hk:k < st.chans.length:=by omega
  obtain ⟨ch,hch,hc2⟩:=Md.chan_some hin.1 hin.2;rw [show ((k:Int) + 1 - 1).toNat=k by omega] at hc2;obtain ⟨gc,off,_,_,rfl,_⟩:=HM.out.chans.get hc2;rw [hch];clear hch hc2
  go_enter Try.func35,Try.ntmps35
  go_wp2_with fail
  refine (model_channel _ b _ _ gc off k _ (HM.out.blk.alloc _) hle hk).mono ?_
  rintro e w1 ⟨rfl,rfl⟩
  go_wp2_with fail
  go_ret
  exact ⟨rfl,(Keeps.refl [] w).alloc _⟩
 ·have hout:sc < 1∨(st.chans.length:Int) < sc:=by omega
  rw [Md.chan_none hout]
  go_enter Try.func35,Try.ntmps35
  go_wp2_with fail
  refine (model_channel_no _ b _ _ _ _ _ (HM.out.blk.alloc _) hle hout).mono ?_
  rintro e w1 ⟨rfl,rfl⟩
  go_wp2_with fail
  go_ret
  exact ⟨rfl,(Keeps.refl [] w).alloc _⟩
theorem isNone {α:Type} {x:Option α} (h:x.isSome=false):x=none:=by cases x with | none=>rfl | some _=>cases h
theorem MoAt.up1 {w:World} {b bm:Nat} {vc:Value} {st:Md.St} {N:Nat} {S T SW:List Nat} {Us:List (List Nat)} {f:Int→Option Value} {col:Nat→Nat} (h:MoAt w b bm vc st N S T Us SW f col):MoAt w b bm vc st (N + 1) S T Us SW f col :=
 ⟨h.blk,h.chans.mono (Nat.le_succ N),h.map.mono (Nat.le_succ N),h.wm,h.cb,h.cm,h.cw,h.sb,h.sm,h.st,h.su,h.sw,h.lt⟩
def WaitPost (S:List Nat) (w:World) (p:Value) (D:Md.St × Bool) (N:Nat) (e:Ending) (w':World):Prop:=e=.returned (.bool D.2)∧MoTo S w w' p D.1 N
theorem wait_no {S:List Nat} {w W:World} {p:Value} {st:Md.St} {D:Md.St × Bool} {N:Nat} (h:D=(st,false)) (hm:Mo w p st N S) (k:Keeps [] w W):WaitPost S w p D (N + 1) (.returned (.bool false)) W:=by
 subst h;obtain ⟨b,bm,vc,T,Us,SW,f,col,h1,h2⟩:=hm;exact ⟨rfl,MoTo.refl ⟨b,bm,vc,T,Us,SW,f,col,h1,(h2.then k).up1⟩ k⟩
set_option maxRecDepth 100000 in
set_option maxHeartbeats 3200000 in
theorem model_wait2 (w:World) (p:Value) (st:Md.St) (N:Nat) (S:List Nat) (g:Int) (o:Pn.Op) (vc:Value) (U:List Nat) (h:Mo w p st N S) (hv:GV caseE 3 w vc o.cases U) (hN:N≤100000) (hgw:wf64L g) (hb:o.cases.length≤1000) (e2:o.kind=2) :
  Calls Try.prog 17 #[p,.int .i64 g,.agg (opV o vc)] w (WaitPost S w p (Md.wait st g o) (N + 1)):=by
 have hmf:∀ (fn:Fn) (first cap:Array Value) (w:World),(Instr.makeFunc fn first cap).run Try.prog w=.ok (.func fn first cap) w:=fun _ _ _ _=>rfl
 have HM:=Lib.hid h;have HV:=Lib.hid hv;have HCB:=Lib.hid hb;obtain ⟨b,_,_,_,_,_,_,_,rfl,_⟩:=h;obtain ⟨av,cv,rfl⟩:=hv.shape;obtain ⟨D,hD⟩:∃ D,Md.wait st g o=D:=⟨_,rfl⟩
 rw [hD];have HD:=Lib.hid hD;obtain ⟨w0,hw0⟩:∃ w0,(w.alloc (.cells #[.pointer (some ⟨b,0,none⟩)] 29)).alloc (.cells (opV o (.slice av o.cases.length cv)) 28)=w0:=⟨_,rfl⟩
 have K0:Hid (Keeps [] w w0):=Lib.hid (hw0 ▸ ((Keeps.refl [] w).alloc _).alloc _);have HC:Hid (w0.cell? ⟨w.heap.size,0,none⟩=some (.pointer (some ⟨b,0,none⟩))):=Lib.hid (hw0 ▸ ((Blk.fresh w [.pointer (some ⟨b,0,none⟩)] _ _ rfl).alloc _).cell 0);have HOB:Hid (Blk w0 (w.heap.size + 1) [.int .i64 o.kind,.int .i64 o.ch,.int .i64 o.n,.int .i64 o.v,.slice av o.cases.length cv,.bool o.els] 28):=Lib.hid (hw0 ▸ Blk.fresh _ [.int .i64 o.kind,.int .i64 o.ch,.int .i64 o.n,.int .i64 o.v,.slice av o.cases.length cv,.bool o.els] _ _ (by simp));have HSZ:Hid (w.heap.size + 2≤w0.heap.size):=Lib.hid (by rw [← hw0];simp);obtain ⟨⟨b0,b1,b2,b3,b4,b5⟩,_⟩:=Blk.six HOB.out;have c0:=HC.out;clear hv hD hb;have hk2:(o.kind == 2)=true:=by simp [e2]
 have hk3:(o.kind == 3)=false:=by simp [e2]
 have hk9:(o.kind == 9)=false:=by simp [e2]
 have HBG:Hid (Md.begins o=true):=Lib.hid (by unfold Md.begins;rw [decide_eq_true_iff];exact .inl e2);clear e2;unfold opV at hw0;unfold opV
 go_enter Try.func17,Try.ntmps17
 go_wp2_with fail
 refine (model_anyW _ _ o _ U (fun _ s=>(Md.chan st.chans s.ch).isSome) (HV.out.then caseE_kept K0.out) (fun i s w' _ k=>model_there w' _ st N S i s _ (HM.out.then (K0.out.then k)) (k.cell HC.out (by simp)))).mono ?_
 rintro e w1 ⟨rfl,k1⟩
 have K1:=Lib.hid k1;clear k1 c0 b0 b1 b2 b3 b4 b5 hw0;have c0:=K1.out.cell HC.out (by simp);obtain ⟨⟨b0,b1,b2,b3,b4,b5⟩,_⟩:=Blk.six (HOB.out.keep K1.out (by simp))
 cases hq1:Md.any o (fun _ s=>(Md.chan st.chans s.ch).isSome) with
 | false =>
  have HE:Hid (D=(st,false)):=Lib.hid (by rw [← HD.out];unfold Md.wait;rw [if_neg (by rw [hq1];simp)])
  go_wp2_with fail
  go_ret
  exact wait_no HE.out HM.out (K0.out.then K1.out)
 | true =>
  have HQ1:=Lib.hid hq1;clear hq1
  go_wp2_with fail
  refine (model_waits _ _ st N S g (HM.out.then (K0.out.then K1.out)) hgw).mono ?_
  rintro e w2 ⟨rfl,k2⟩
  have K2:=Lib.hid (K1.out.then k2);clear k2 c0 b0 b1 b2 b3 b4 b5;have c0:=K2.out.cell HC.out (by simp);obtain ⟨⟨b0,b1,b2,b3,b4,b5⟩,_⟩:=Blk.six (HOB.out.keep K2.out (by simp))
  cases hq2:(st.waits g).isSome with
  | true =>
   have HE:Hid (D=(st,false)):=Lib.hid (by rw [← HD.out];unfold Md.wait;rw [if_neg (by rintro ⟨_,_,h,_⟩;rw [h] at hq2;cases hq2)])
   go_wp2_with fail
   go_ret
   exact wait_no HE.out HM.out (K0.out.then K2.out)
  | false =>
   have HQ2:=Lib.hid hq2;clear hq2
   go_wp2_with fail
   refine (model_Any _ _ st N S g o _ U (HM.out.then (K0.out.then K2.out)) (HV.out.then caseE_kept (K0.out.then K2.out))).mono ?_
   rintro e w3 ⟨rfl,k3⟩
   have K3:=Lib.hid (K2.out.then k3);clear k3 c0 b0 b1 b2 b3 b4 b5;have c0:=K3.out.cell HC.out (by simp);obtain ⟨⟨b0,b1,b2,b3,b4,b5⟩,f0,f1,f2,f3,f4,f5⟩:=Blk.six (HOB.out.keep K3.out (by simp))
   cases hq3:Md.anyMay st g o with
   | true =>
    have HE:Hid (D=(st,false)):=Lib.hid (by rw [← HD.out];unfold Md.wait;rw [if_neg (by rintro ⟨_,_,_,h⟩;rw [hq3] at h;cases h)])
    go_wp2_with fail
    go_ret
    exact wait_no HE.out HM.out (K0.out.then K3.out)
   | false =>
    have HE:Hid (D=(⟨st.chans,fun c=>if c=g then some o else st.waits c⟩,true)):=Lib.hid (by
     rw [← HD.out];unfold Md.wait;rw [if_pos ⟨HBG.out,HQ1.out,isNone HQ2.out,hq3⟩])
    clear hq3
    go_wp2_with fail
    refine (clone_cases _ _ o.cases U (HV.out.then caseE_kept (K0.out.then K3.out)) HCB.out).mono ?_
    rintro e w4 ⟨v4,U4,rfl,g4,u4,k4⟩
    obtain ⟨a4,c4,rfl⟩:=g4.shape;have K4:=Lib.hid (K3.out.then k4);clear c0 b0 b1 b2 b3 b4 b5 f0 f1 f2 f3 f4 f5;obtain ⟨b',bm,vh,T,Us,SW,f,col,hpe,hm⟩:=HM.out;obtain rfl:b=b':=by simpa using hpe
    have HMA:=Lib.hid hm;have hob4:=HOB.out.keep K4.out (by simp);obtain ⟨⟨b0,b1,b2,b3,b4,b5⟩,f0,f1,f2,f3,f4,f5⟩:=Blk.six hob4;obtain ⟨w5,hw5⟩:∃ w5,w4.setCell ⟨w.heap.size + 1,4,none⟩ (.slice a4 o.cases.length c4)=w5:=⟨_,rfl⟩
    have K45:Hid (Keeps [w.heap.size + 1] w4 w5):=Lib.hid (by rw [← hw5];exact (Keeps.refl _ w4).setCell (by simp) _);have hob5:Blk w5 (w.heap.size + 1) [.int .i64 o.kind,.int .i64 o.ch,.int .i64 o.n,.int .i64 o.v,.slice a4 o.cases.length c4,.bool o.els] 28:=by
     rw [← hw5];have:=hob4.set 4 (.slice a4 o.cases.length c4);simpa only [List.set_cons_succ,List.set_cons_zero] using this
    have K05:Hid (Keeps [] w w5):=Lib.hid ((K0.out.then K4.out).trans K45.out (by simp));have HM5:=Lib.hid (HMA.out.then K05.out);have G5:=Lib.hid (g4.keep caseE_kept K45.out (fun x hx hm2=>by simp at hm2;have:=u4 x hx;have:=(K0.out.then K3.out).size;have:=HSZ.out;have:=K3.out.size;omega));have HU4:Hid (∀ x∈U4,w.heap.size≤x):=Lib.hid (fun x hx=>by have:=u4 x hx;have:=(K0.out.then K3.out).size;omega);have HC5:=Lib.hid (K45.out.cell (K4.out.cell HC.out (by simp)) (by simp));have HOB5:=Lib.hid hob5;clear g4 u4 k4 hm hpe hob4 hob5
    go_upto_region 6 with fail
    clear hw5 b0 b1 b2 b3 b4 b5 f0 f1 f2 f3 f4 f5;have c0:=HC5.out;have m1:=HM5.out.cells.2.1;obtain ⟨⟨b0,b1,b2,b3,b4,b5⟩,_⟩:=Blk.six HOB5.out
    go_still_tail 6,(by kernel_rfl)
    change wpList _ _ _ _ _ w5.drew
    have kd:Keeps [] w5 w5.drew:=(Keeps.refl [] w5).drew;refine wp_mapSet (f:=f) (u:=.agg (opV o (.slice a4 o.cases.length c4))) Try.underlying3 Try.underlying78 hgw (HM5.out.map.then kd) (by simp [maxLen];omega) ?_;intro w6 m6 k6;obtain ⟨S2,SW2,col2,hM6,kS6,sS6⟩:=HMA.out.add (o:=o) (K05.out.then kd) g hgw m6 k6 (G5.out.then caseE_kept kd) HU4.out;have HM6:=Lib.hid hM6;have HK6:=Lib.hid kS6;have HS6:=Lib.hid sS6;clear m6 k6 hM6 kS6 sS6 kd b0 b1 b2 b3 b4 b5 c0 m1
    go_wp2_with fail
    go_ret
    rw [HE.out];exact ⟨rfl,S2,⟨b,bm,_,_,_,_,_,_,rfl,HM6.out⟩,HK6.out,HS6.out⟩
set_option maxRecDepth 100000 in
set_option maxHeartbeats 3200000 in
theorem model_wait3 (w:World) (p:Value) (st:Md.St) (N:Nat) (S:List Nat) (g:Int) (o:Pn.Op) (vc:Value) (U:List Nat) (h:Mo w p st N S) (hv:GV caseE 3 w vc o.cases U) (hN:N≤100000) (hgw:wf64L g) (hb:o.cases.length≤1000) (e3:o.kind=3) :
  Calls Try.prog 17 #[p,.int .i64 g,.agg (opV o vc)] w (WaitPost S w p (Md.wait st g o) (N + 1)):=by
 have hmf:∀ (fn:Fn) (first cap:Array Value) (w:World),(Instr.makeFunc fn first cap).run Try.prog w=.ok (.func fn first cap) w:=fun _ _ _ _=>rfl
 have HM:=Lib.hid h;have HV:=Lib.hid hv;have HCB:=Lib.hid hb;obtain ⟨b,_,_,_,_,_,_,_,rfl,_⟩:=h;obtain ⟨av,cv,rfl⟩:=hv.shape;obtain ⟨D,hD⟩:∃ D,Md.wait st g o=D:=⟨_,rfl⟩
 rw [hD];have HD:=Lib.hid hD;obtain ⟨w0,hw0⟩:∃ w0,(w.alloc (.cells #[.pointer (some ⟨b,0,none⟩)] 29)).alloc (.cells (opV o (.slice av o.cases.length cv)) 28)=w0:=⟨_,rfl⟩
 have K0:Hid (Keeps [] w w0):=Lib.hid (hw0 ▸ ((Keeps.refl [] w).alloc _).alloc _);have HC:Hid (w0.cell? ⟨w.heap.size,0,none⟩=some (.pointer (some ⟨b,0,none⟩))):=Lib.hid (hw0 ▸ ((Blk.fresh w [.pointer (some ⟨b,0,none⟩)] _ _ rfl).alloc _).cell 0);have HOB:Hid (Blk w0 (w.heap.size + 1) [.int .i64 o.kind,.int .i64 o.ch,.int .i64 o.n,.int .i64 o.v,.slice av o.cases.length cv,.bool o.els] 28):=Lib.hid (hw0 ▸ Blk.fresh _ [.int .i64 o.kind,.int .i64 o.ch,.int .i64 o.n,.int .i64 o.v,.slice av o.cases.length cv,.bool o.els] _ _ (by simp));have HSZ:Hid (w.heap.size + 2≤w0.heap.size):=Lib.hid (by rw [← hw0];simp);obtain ⟨⟨b0,b1,b2,b3,b4,b5⟩,_⟩:=Blk.six HOB.out;have c0:=HC.out;clear hv hD hb;have hk2:(o.kind == 2)=false:=by simp [e3]
 have hk3:(o.kind == 3)=true:=by simp [e3]
 have hk9:(o.kind == 9)=false:=by simp [e3]
 have HBG:Hid (Md.begins o=true):=Lib.hid (by unfold Md.begins;rw [decide_eq_true_iff];exact .inr (.inl e3));clear e3;unfold opV at hw0;unfold opV
 go_enter Try.func17,Try.ntmps17
 go_wp2_with fail
 refine (model_anyW _ _ o _ U (fun _ s=>(Md.chan st.chans s.ch).isSome) (HV.out.then caseE_kept K0.out) (fun i s w' _ k=>model_there w' _ st N S i s _ (HM.out.then (K0.out.then k)) (k.cell HC.out (by simp)))).mono ?_
 rintro e w1 ⟨rfl,k1⟩
 have K1:=Lib.hid k1;clear k1 c0 b0 b1 b2 b3 b4 b5 hw0;have c0:=K1.out.cell HC.out (by simp);obtain ⟨⟨b0,b1,b2,b3,b4,b5⟩,_⟩:=Blk.six (HOB.out.keep K1.out (by simp))
 cases hq1:Md.any o (fun _ s=>(Md.chan st.chans s.ch).isSome) with
 | false =>
  have HE:Hid (D=(st,false)):=Lib.hid (by rw [← HD.out];unfold Md.wait;rw [if_neg (by rw [hq1];simp)])
  go_wp2_with fail
  go_ret
  exact wait_no HE.out HM.out (K0.out.then K1.out)
 | true =>
  have HQ1:=Lib.hid hq1;clear hq1
  go_wp2_with fail
  refine (model_waits _ _ st N S g (HM.out.then (K0.out.then K1.out)) hgw).mono ?_
  rintro e w2 ⟨rfl,k2⟩
  have K2:=Lib.hid (K1.out.then k2);clear k2 c0 b0 b1 b2 b3 b4 b5;have c0:=K2.out.cell HC.out (by simp);obtain ⟨⟨b0,b1,b2,b3,b4,b5⟩,_⟩:=Blk.six (HOB.out.keep K2.out (by simp))
  cases hq2:(st.waits g).isSome with
  | true =>
   have HE:Hid (D=(st,false)):=Lib.hid (by rw [← HD.out];unfold Md.wait;rw [if_neg (by rintro ⟨_,_,h,_⟩;rw [h] at hq2;cases hq2)])
   go_wp2_with fail
   go_ret
   exact wait_no HE.out HM.out (K0.out.then K2.out)
  | false =>
   have HQ2:=Lib.hid hq2;clear hq2
   go_wp2_with fail
   refine (model_Any _ _ st N S g o _ U (HM.out.then (K0.out.then K2.out)) (HV.out.then caseE_kept (K0.out.then K2.out))).mono ?_
   rintro e w3 ⟨rfl,k3⟩
   have K3:=Lib.hid (K2.out.then k3);clear k3 c0 b0 b1 b2 b3 b4 b5;have c0:=K3.out.cell HC.out (by simp);obtain ⟨⟨b0,b1,b2,b3,b4,b5⟩,f0,f1,f2,f3,f4,f5⟩:=Blk.six (HOB.out.keep K3.out (by simp))
   cases hq3:Md.anyMay st g o with
   | true =>
    have HE:Hid (D=(st,false)):=Lib.hid (by rw [← HD.out];unfold Md.wait;rw [if_neg (by rintro ⟨_,_,_,h⟩;rw [hq3] at h;cases h)])
    go_wp2_with fail
    go_ret
    exact wait_no HE.out HM.out (K0.out.then K3.out)
   | false =>
    have HE:Hid (D=(⟨st.chans,fun c=>if c=g then some o else st.waits c⟩,true)):=Lib.hid (by
     rw [← HD.out];unfold Md.wait;rw [if_pos ⟨HBG.out,HQ1.out,isNone HQ2.out,hq3⟩])
    clear hq3
    go_wp2_with fail
    refine (clone_cases _ _ o.cases U (HV.out.then caseE_kept (K0.out.then K3.out)) HCB.out).mono ?_
    rintro e w4 ⟨v4,U4,rfl,g4,u4,k4⟩
    obtain ⟨a4,c4,rfl⟩:=g4.shape;have K4:=Lib.hid (K3.out.then k4);clear c0 b0 b1 b2 b3 b4 b5 f0 f1 f2 f3 f4 f5;obtain ⟨b',bm,vh,T,Us,SW,f,col,hpe,hm⟩:=HM.out;obtain rfl:b=b':=by simpa using hpe
    have HMA:=Lib.hid hm;have hob4:=HOB.out.keep K4.out (by simp);obtain ⟨⟨b0,b1,b2,b3,b4,b5⟩,f0,f1,f2,f3,f4,f5⟩:=Blk.six hob4;obtain ⟨w5,hw5⟩:∃ w5,w4.setCell ⟨w.heap.size + 1,4,none⟩ (.slice a4 o.cases.length c4)=w5:=⟨_,rfl⟩
    have K45:Hid (Keeps [w.heap.size + 1] w4 w5):=Lib.hid (by rw [← hw5];exact (Keeps.refl _ w4).setCell (by simp) _);have hob5:Blk w5 (w.heap.size + 1) [.int .i64 o.kind,.int .i64 o.ch,.int .i64 o.n,.int .i64 o.v,.slice a4 o.cases.length c4,.bool o.els] 28:=by
     rw [← hw5];have:=hob4.set 4 (.slice a4 o.cases.length c4);simpa only [List.set_cons_succ,List.set_cons_zero] using this
    have K05:Hid (Keeps [] w w5):=Lib.hid ((K0.out.then K4.out).trans K45.out (by simp));have HM5:=Lib.hid (HMA.out.then K05.out);have G5:=Lib.hid (g4.keep caseE_kept K45.out (fun x hx hm2=>by simp at hm2;have:=u4 x hx;have:=(K0.out.then K3.out).size;have:=HSZ.out;have:=K3.out.size;omega));have HU4:Hid (∀ x∈U4,w.heap.size≤x):=Lib.hid (fun x hx=>by have:=u4 x hx;have:=(K0.out.then K3.out).size;omega);have HC5:=Lib.hid (K45.out.cell (K4.out.cell HC.out (by simp)) (by simp));have HOB5:=Lib.hid hob5;clear g4 u4 k4 hm hpe hob4 hob5
    go_upto_region 6 with fail
    clear hw5 b0 b1 b2 b3 b4 b5 f0 f1 f2 f3 f4 f5;have c0:=HC5.out;have m1:=HM5.out.cells.2.1;obtain ⟨⟨b0,b1,b2,b3,b4,b5⟩,_⟩:=Blk.six HOB5.out
    go_still_tail 6,(by kernel_rfl)
    change wpList _ _ _ _ _ w5.drew
    have kd:Keeps [] w5 w5.drew:=(Keeps.refl [] w5).drew;refine wp_mapSet (f:=f) (u:=.agg (opV o (.slice a4 o.cases.length c4))) Try.underlying3 Try.underlying78 hgw (HM5.out.map.then kd) (by simp [maxLen];omega) ?_;intro w6 m6 k6;obtain ⟨S2,SW2,col2,hM6,kS6,sS6⟩:=HMA.out.add (o:=o) (K05.out.then kd) g hgw m6 k6 (G5.out.then caseE_kept kd) HU4.out;have HM6:=Lib.hid hM6;have HK6:=Lib.hid kS6;have HS6:=Lib.hid sS6;clear m6 k6 hM6 kS6 sS6 kd b0 b1 b2 b3 b4 b5 c0 m1
    go_wp2_with fail
    go_ret
    rw [HE.out];exact ⟨rfl,S2,⟨b,bm,_,_,_,_,_,_,rfl,HM6.out⟩,HK6.out,HS6.out⟩
set_option maxRecDepth 100000 in
set_option maxHeartbeats 3200000 in
theorem model_wait9 (w:World) (p:Value) (st:Md.St) (N:Nat) (S:List Nat) (g:Int) (oc on ov:Int) (ocs:List Pn.Cs) (vc:Value) (U:List Nat) (h:Mo w p st N S) (hv:GV caseE 3 w vc ocs U) (hN:N≤100000) (hgw:wf64L g) (hb:ocs.length≤1000) :
  Calls Try.prog 17 #[p,.int .i64 g,.agg (opV ⟨9,oc,on,ov,ocs,false⟩ vc)] w (WaitPost S w p (Md.wait st g ⟨9,oc,on,ov,ocs,false⟩) (N + 1)):=by
 have hmf:∀ (fn:Fn) (first cap:Array Value) (w:World),(Instr.makeFunc fn first cap).run Try.prog w=.ok (.func fn first cap) w:=fun _ _ _ _=>rfl
 have HM:=Lib.hid h;have HV:=Lib.hid hv;have HCB:=Lib.hid hb;obtain ⟨b,_,_,_,_,_,_,_,rfl,_⟩:=h;obtain ⟨av,cv,rfl⟩:=hv.shape;obtain ⟨D,hD⟩:∃ D,Md.wait st g ⟨9,oc,on,ov,ocs,false⟩=D:=⟨_,rfl⟩
 rw [hD];have HD:=Lib.hid hD;obtain ⟨w0,hw0⟩:∃ w0,(w.alloc (.cells #[.pointer (some ⟨b,0,none⟩)] 29)).alloc (.cells (opV ⟨9,oc,on,ov,ocs,false⟩ (.slice av ocs.length cv)) 28)=w0:=⟨_,rfl⟩
 have K0:Hid (Keeps [] w w0):=Lib.hid (hw0 ▸ ((Keeps.refl [] w).alloc _).alloc _);have HC:Hid (w0.cell? ⟨w.heap.size,0,none⟩=some (.pointer (some ⟨b,0,none⟩))):=Lib.hid (hw0 ▸ ((Blk.fresh w [.pointer (some ⟨b,0,none⟩)] _ _ rfl).alloc _).cell 0);have HOB:Hid (Blk w0 (w.heap.size + 1) [.int .i64 9,.int .i64 oc,.int .i64 on,.int .i64 ov,.slice av ocs.length cv,.bool false] 28):=Lib.hid (hw0 ▸ Blk.fresh _ [.int .i64 9,.int .i64 oc,.int .i64 on,.int .i64 ov,.slice av ocs.length cv,.bool false] _ _ (by simp));have HSZ:Hid (w.heap.size + 2≤w0.heap.size):=Lib.hid (by rw [← hw0];simp);obtain ⟨⟨b0,b1,b2,b3,b4,b5⟩,_⟩:=Blk.six HOB.out;have c0:=HC.out;clear hv hD hb;have HBG:Hid (Md.begins ⟨9,oc,on,ov,ocs,false⟩=true):=Lib.hid (by unfold Md.begins;rw [decide_eq_true_iff];exact .inr (.inr ⟨rfl,rfl⟩));unfold opV at hw0;unfold opV;simp only at hw0 ⊢
 go_enter Try.func17,Try.ntmps17
 go_wp2_with fail
 refine (model_anyW _ _ ⟨9,oc,on,ov,ocs,false⟩ _ U (fun _ s=>(Md.chan st.chans s.ch).isSome) (HV.out.then caseE_kept K0.out) (fun i s w' _ k=>model_there w' _ st N S i s _ (HM.out.then (K0.out.then k)) (k.cell HC.out (by simp)))).mono ?_
 rintro e w1 ⟨rfl,k1⟩
 have K1:=Lib.hid k1;clear k1 c0 b0 b1 b2 b3 b4 b5 hw0;have c0:=K1.out.cell HC.out (by simp);obtain ⟨⟨b0,b1,b2,b3,b4,b5⟩,_⟩:=Blk.six (HOB.out.keep K1.out (by simp))
 cases hq1:Md.any ⟨9,oc,on,ov,ocs,false⟩ (fun _ s=>(Md.chan st.chans s.ch).isSome) with
 | false =>
  have HE:Hid (D=(st,false)):=Lib.hid (by rw [← HD.out];unfold Md.wait;rw [if_neg (by rw [hq1];simp)])
  go_wp2_with fail
  go_ret
  exact wait_no HE.out HM.out (K0.out.then K1.out)
 | true =>
  have HQ1:=Lib.hid hq1;clear hq1
  go_wp2_with fail
  refine (model_waits _ _ st N S g (HM.out.then (K0.out.then K1.out)) hgw).mono ?_
  rintro e w2 ⟨rfl,k2⟩
  have K2:=Lib.hid (K1.out.then k2);clear k2 c0 b0 b1 b2 b3 b4 b5;have c0:=K2.out.cell HC.out (by simp);obtain ⟨⟨b0,b1,b2,b3,b4,b5⟩,_⟩:=Blk.six (HOB.out.keep K2.out (by simp))
  cases hq2:(st.waits g).isSome with
  | true =>
   have HE:Hid (D=(st,false)):=Lib.hid (by rw [← HD.out];unfold Md.wait;rw [if_neg (by rintro ⟨_,_,h,_⟩;rw [h] at hq2;cases hq2)])
   go_wp2_with fail
   go_ret
   exact wait_no HE.out HM.out (K0.out.then K2.out)
  | false =>
   have HQ2:=Lib.hid hq2;clear hq2
   go_wp2_with fail
   refine (model_Any _ _ st N S g ⟨9,oc,on,ov,ocs,false⟩ _ U (HM.out.then (K0.out.then K2.out)) (HV.out.then caseE_kept (K0.out.then K2.out))).mono ?_
   rintro e w3 ⟨rfl,k3⟩
   have K3:=Lib.hid (K2.out.then k3);clear k3 c0 b0 b1 b2 b3 b4 b5;have c0:=K3.out.cell HC.out (by simp);obtain ⟨⟨b0,b1,b2,b3,b4,b5⟩,f0,f1,f2,f3,f4,f5⟩:=Blk.six (HOB.out.keep K3.out (by simp))
   cases hq3:Md.anyMay st g ⟨9,oc,on,ov,ocs,false⟩ with
   | true =>
    have HE:Hid (D=(st,false)):=Lib.hid (by rw [← HD.out];unfold Md.wait;rw [if_neg (by rintro ⟨_,_,_,h⟩;rw [hq3] at h;cases h)])
    go_wp2_with fail
    go_ret
    exact wait_no HE.out HM.out (K0.out.then K3.out)
   | false =>
    have HE:Hid (D=(⟨st.chans,fun c=>if c=g then some ⟨9,oc,on,ov,ocs,false⟩ else st.waits c⟩,true)):=Lib.hid (by
     rw [← HD.out];unfold Md.wait;rw [if_pos ⟨HBG.out,HQ1.out,isNone HQ2.out,hq3⟩])
    clear hq3
    go_wp2_with fail
    refine (clone_cases _ _ ocs U (HV.out.then caseE_kept (K0.out.then K3.out)) HCB.out).mono ?_
    rintro e w4 ⟨v4,U4,rfl,g4,u4,k4⟩
    obtain ⟨a4,c4,rfl⟩:=g4.shape;have K4:=Lib.hid (K3.out.then k4);clear c0 b0 b1 b2 b3 b4 b5 f0 f1 f2 f3 f4 f5;obtain ⟨b',bm,vh,T,Us,SW,f,col,hpe,hm⟩:=HM.out;obtain rfl:b=b':=by simpa using hpe
    have HMA:=Lib.hid hm;have hob4:=HOB.out.keep K4.out (by simp);obtain ⟨⟨b0,b1,b2,b3,b4,b5⟩,f0,f1,f2,f3,f4,f5⟩:=Blk.six hob4;obtain ⟨w5,hw5⟩:∃ w5,w4.setCell ⟨w.heap.size + 1,4,none⟩ (.slice a4 ocs.length c4)=w5:=⟨_,rfl⟩
    have K45:Hid (Keeps [w.heap.size + 1] w4 w5):=Lib.hid (by rw [← hw5];exact (Keeps.refl _ w4).setCell (by simp) _);have hob5:Blk w5 (w.heap.size + 1) [.int .i64 9,.int .i64 oc,.int .i64 on,.int .i64 ov,.slice a4 ocs.length c4,.bool false] 28:=by
     rw [← hw5];have:=hob4.set 4 (.slice a4 ocs.length c4);simpa only [List.set_cons_succ,List.set_cons_zero] using this
    have K05:Hid (Keeps [] w w5):=Lib.hid ((K0.out.then K4.out).trans K45.out (by simp));have HM5:=Lib.hid (HMA.out.then K05.out);have G5:=Lib.hid (g4.keep caseE_kept K45.out (fun x hx hm2=>by simp at hm2;have:=u4 x hx;have:=(K0.out.then K3.out).size;have:=HSZ.out;have:=K3.out.size;omega));have HU4:Hid (∀ x∈U4,w.heap.size≤x):=Lib.hid (fun x hx=>by have:=u4 x hx;have:=(K0.out.then K3.out).size;omega);have HC5:=Lib.hid (K45.out.cell (K4.out.cell HC.out (by simp)) (by simp));have HOB5:=Lib.hid hob5;clear g4 u4 k4 hm hpe hob4 hob5
    go_upto_region 6 with fail
    clear hw5 b0 b1 b2 b3 b4 b5 f0 f1 f2 f3 f4 f5;have c0:=HC5.out;have m1:=HM5.out.cells.2.1;obtain ⟨⟨b0,b1,b2,b3,b4,b5⟩,_⟩:=Blk.six HOB5.out
    go_still_tail 6,(by kernel_rfl)
    change wpList _ _ _ _ _ w5.drew
    have kd:Keeps [] w5 w5.drew:=(Keeps.refl [] w5).drew;refine wp_mapSet (f:=f) (u:=.agg (opV ⟨9,oc,on,ov,ocs,false⟩ (.slice a4 ocs.length c4))) Try.underlying3 Try.underlying78 hgw (HM5.out.map.then kd) (by simp [maxLen];omega) ?_;intro w6 m6 k6;obtain ⟨S2,SW2,col2,hM6,kS6,sS6⟩:=HMA.out.add (o:=⟨9,oc,on,ov,ocs,false⟩) (K05.out.then kd) g hgw m6 k6 (G5.out.then caseE_kept kd) HU4.out;have HM6:=Lib.hid hM6;have HK6:=Lib.hid kS6;have HS6:=Lib.hid sS6;clear m6 k6 hM6 kS6 sS6 kd b0 b1 b2 b3 b4 b5 c0 m1
    go_wp2_with fail
    go_ret
    rw [HE.out];exact ⟨rfl,S2,⟨b,bm,_,_,_,_,_,_,rfl,HM6.out⟩,HK6.out,HS6.out⟩
set_option maxRecDepth 100000 in
set_option maxHeartbeats 3200000 in
theorem model_wait9e (w:World) (p:Value) (st:Md.St) (N:Nat) (S:List Nat) (g:Int) (o:Pn.Op) (vc:Value) (U:List Nat) (h:Mo w p st N S) (hv:GV caseE 3 w vc o.cases U) (hN:N≤100000) (hgw:wf64L g) (hb:o.cases.length≤1000) (e9:o.kind=9) (els:o.els=true) :
  Calls Try.prog 17 #[p,.int .i64 g,.agg (opV o vc)] w (WaitPost S w p (Md.wait st g o) (N + 1)):=by
 have hmf:∀ (fn:Fn) (first cap:Array Value) (w:World),(Instr.makeFunc fn first cap).run Try.prog w=.ok (.func fn first cap) w:=fun _ _ _ _=>rfl
 have HM:=Lib.hid h;have HV:=Lib.hid hv;have HCB:=Lib.hid hb;obtain ⟨b,_,_,_,_,_,_,_,rfl,_⟩:=h;obtain ⟨av,cv,rfl⟩:=hv.shape;obtain ⟨D,hD⟩:∃ D,Md.wait st g o=D:=⟨_,rfl⟩
 rw [hD];have HD:=Lib.hid hD;obtain ⟨w0,hw0⟩:∃ w0,(w.alloc (.cells #[.pointer (some ⟨b,0,none⟩)] 29)).alloc (.cells (opV o (.slice av o.cases.length cv)) 28)=w0:=⟨_,rfl⟩
 have K0:Hid (Keeps [] w w0):=Lib.hid (hw0 ▸ ((Keeps.refl [] w).alloc _).alloc _);have HC:Hid (w0.cell? ⟨w.heap.size,0,none⟩=some (.pointer (some ⟨b,0,none⟩))):=Lib.hid (hw0 ▸ ((Blk.fresh w [.pointer (some ⟨b,0,none⟩)] _ _ rfl).alloc _).cell 0);have HOB:Hid (Blk w0 (w.heap.size + 1) [.int .i64 o.kind,.int .i64 o.ch,.int .i64 o.n,.int .i64 o.v,.slice av o.cases.length cv,.bool o.els] 28):=Lib.hid (hw0 ▸ Blk.fresh _ [.int .i64 o.kind,.int .i64 o.ch,.int .i64 o.n,.int .i64 o.v,.slice av o.cases.length cv,.bool o.els] _ _ (by simp));have HSZ:Hid (w.heap.size + 2≤w0.heap.size):=Lib.hid (by rw [← hw0];simp);obtain ⟨⟨b0,b1,b2,b3,b4,b5⟩,_⟩:=Blk.six HOB.out;have c0:=HC.out;clear hv hD hb;rw [els] at b5;have hk2:(o.kind == 2)=false:=by simp [e9]
 have hk3:(o.kind == 3)=false:=by simp [e9]
 have hk9:(o.kind == 9)=true:=by simp [e9]
 have HE:Hid (D=(st,false)):=Lib.hid (by rw [← HD.out];unfold Md.wait;rw [if_neg (by rintro ⟨h,_⟩;unfold Md.begins at h;rw [decide_eq_true_iff] at h;rcases h with h | h | ⟨_,h⟩;omega;omega;rw [els] at h;cases h)]);clear e9 els;unfold opV at hw0;unfold opV
 go_enter Try.func17,Try.ntmps17
 go_wp2_with fail
 go_ret
 exact wait_no HE.out HM.out K0.out
set_option maxRecDepth 100000 in
set_option maxHeartbeats 3200000 in
theorem model_wait0 (w:World) (p:Value) (st:Md.St) (N:Nat) (S:List Nat) (g:Int) (o:Pn.Op) (vc:Value) (U:List Nat) (h:Mo w p st N S) (hv:GV caseE 3 w vc o.cases U) (hN:N≤100000) (hgw:wf64L g) (hb:o.cases.length≤1000) (e2:o.kind≠2) (e3:o.kind≠3) (e9:o.kind≠9) :
  Calls Try.prog 17 #[p,.int .i64 g,.agg (opV o vc)] w (WaitPost S w p (Md.wait st g o) (N + 1)):=by
 have hmf:∀ (fn:Fn) (first cap:Array Value) (w:World),(Instr.makeFunc fn first cap).run Try.prog w=.ok (.func fn first cap) w:=fun _ _ _ _=>rfl
 have HM:=Lib.hid h;have HV:=Lib.hid hv;have HCB:=Lib.hid hb;obtain ⟨b,_,_,_,_,_,_,_,rfl,_⟩:=h;obtain ⟨av,cv,rfl⟩:=hv.shape;obtain ⟨D,hD⟩:∃ D,Md.wait st g o=D:=⟨_,rfl⟩
 rw [hD];have HD:=Lib.hid hD;obtain ⟨w0,hw0⟩:∃ w0,(w.alloc (.cells #[.pointer (some ⟨b,0,none⟩)] 29)).alloc (.cells (opV o (.slice av o.cases.length cv)) 28)=w0:=⟨_,rfl⟩
 have K0:Hid (Keeps [] w w0):=Lib.hid (hw0 ▸ ((Keeps.refl [] w).alloc _).alloc _);have HC:Hid (w0.cell? ⟨w.heap.size,0,none⟩=some (.pointer (some ⟨b,0,none⟩))):=Lib.hid (hw0 ▸ ((Blk.fresh w [.pointer (some ⟨b,0,none⟩)] _ _ rfl).alloc _).cell 0);have HOB:Hid (Blk w0 (w.heap.size + 1) [.int .i64 o.kind,.int .i64 o.ch,.int .i64 o.n,.int .i64 o.v,.slice av o.cases.length cv,.bool o.els] 28):=Lib.hid (hw0 ▸ Blk.fresh _ [.int .i64 o.kind,.int .i64 o.ch,.int .i64 o.n,.int .i64 o.v,.slice av o.cases.length cv,.bool o.els] _ _ (by simp));have HSZ:Hid (w.heap.size + 2≤w0.heap.size):=Lib.hid (by rw [← hw0];simp);obtain ⟨⟨b0,b1,b2,b3,b4,b5⟩,_⟩:=Blk.six HOB.out;have c0:=HC.out;clear hv hD hb;have hk2:(o.kind == 2)=false:=by simp [e2,e3,e9]
 have hk3:(o.kind == 3)=false:=by simp [e2,e3,e9]
 have hk9:(o.kind == 9)=false:=by simp [e2,e3,e9]
 have HE:Hid (D=(st,false)):=Lib.hid (by rw [← HD.out];unfold Md.wait;rw [if_neg (by rintro ⟨h,_⟩;unfold Md.begins at h;rw [decide_eq_true_iff] at h;rcases h with h | h | ⟨h,_⟩;exact e2 h;exact e3 h;exact e9 h)]);clear e2 e3 e9;unfold opV at hw0;unfold opV
 go_enter Try.func17,Try.ntmps17
 go_wp2_with fail
 go_ret
 exact wait_no HE.out HM.out K0.out
theorem model_wait (w:World) (p:Value) (st:Md.St) (N:Nat) (S:List Nat) (g:Int) (o:Pn.Op) (vc:Value) (U:List Nat) (h:Mo w p st N S) (hv:GV caseE 3 w vc o.cases U) (hN:N≤100000) (hgw:wf64L g) (hb:o.cases.length≤1000) :
  Calls Try.prog 17 #[p,.int .i64 g,.agg (opV o vc)] w (WaitPost S w p (Md.wait st g o) (N + 1)):=by
 by_cases e2:o.kind=2
 ·exact model_wait2 w p st N S g o vc U h hv hN hgw hb e2
 by_cases e3:o.kind=3
 ·exact model_wait3 w p st N S g o vc U h hv hN hgw hb e3
 by_cases e9:o.kind=9
 ·by_cases els:o.els=true
  ·exact model_wait9e w p st N S g o vc U h hv hN hgw hb e9 els
  ·obtain ⟨k,c,n,v,cs,e⟩:=o;simp only at e9 els;subst e9;have he:e=false:=by simpa using els
   subst he;exact model_wait9 w p st N S g c n v cs vc U h hv hN hgw hb
 exact model_wait0 w p st N S g o vc U h hv hN hgw hb e2 e3 e9
end Go.Proofs.Ytdibmkjoaghafaa
