/-
  What the laws need, part Q16.
  Conditions: none.
-/
import Derived.Test.YtdibmkjoaghafaaQ15
import Derived.Deep.DrawnRows
set_option linter.unusedVariables false
set_option linter.unusedSimpArgs false
set_option linter.unnecessarySimpa false
set_option maxHeartbeats 2000000
namespace Go.Proofs.Ytdibmkjoaghafaa
open Go.RowKit
theorem KR.raw {w:World} {v:Value} {e:TypeId} {l:List Int} {S:List Nat} (h:KR .i64 w v e l S):GV rawE 1 w v l S:=by
 unfold KR at h;refine ⟨_,S,Row.view h,fun k a hk=>⟨[],⟨?_,rfl⟩,by simp⟩,fun x hx=>hx,h.lt,fun y hy=>?_⟩
 ·unfold chunk;have hkl:=(List.getElem?_eq_some_iff.1 hk).1;rw [Nat.mul_one,List.drop_eq_getElem_cons (by simpa using hkl)];simp [List.getElem?_eq_getElem hkl] at hk ⊢;exact hk
 ·obtain ⟨n,_,rfl⟩:=List.mem_map.1 hy;rfl
theorem CR.gv {w:World} {v:Value} {cs:List Md.Ch} {N:Nat} {T:List Nat} {Us:List (List Nat)} {col:Nat→Nat} (h:CR w v cs N T Us col):GV chE 3 w v cs (T ++ Us.flatten):=by
 have hlt:=h.lt;obtain ⟨⟨xs,hr,hp⟩,h3,_⟩:=h;have hlen:=hr.len;have hk:∀ k,k < cs.length→∃ c U bv,cs[k]?=some c∧xs[k * 3]?=some (.int .i64 c.cap)∧xs[k * 3 + 1]?=some bv∧xs[k * 3 + 2]?=some (.bool c.closed)∧KR .i64 w bv 2 c.buf U∧U∈Us:=fun k hk=>by
  have h1:cs[k]?=some cs[k]:=List.getElem?_eq_getElem hk;have h2:Us[k]?=some (Us[k]'(by omega)):=List.getElem?_eq_getElem (by omega);obtain ⟨bv,x0,x1,x2,x3,_⟩:=hp k _ _ h1 h2;exact ⟨_,_,bv,h1,x0,x1,x2,x3,List.mem_of_getElem? h2⟩
 refine ⟨xs,T,hr.view,fun k a hka=>?_,fun x hx=>by simp [hx],fun x hx=>?_,fun y hy=>?_⟩
 ·have hkl:=(List.getElem?_eq_some_iff.1 hka).1;obtain ⟨c,U,bv,hc,x0,x1,x2,x3,x4⟩:=hk k hkl;obtain rfl:c=a:=by rw [hc] at hka;cases hka;rfl
  refine ⟨U,⟨bv,?_,x3.raw⟩,fun x hx=>by simp only [List.mem_append,List.mem_flatten];exact .inr ⟨_,x4,hx⟩⟩;apply List.ext_getElem?;intro j
  by_cases hj:j < 3
  ·rw [chunk_get hj]
   match j,hj with
   | 0,_=>exact x0
   | 1,_=>exact x1
   | 2,_=>exact x2
  ·rw [List.getElem?_eq_none (by unfold chunk;rw [List.length_take];omega),List.getElem?_eq_none (by simp;omega)]
 ·rcases List.mem_append.1 hx with h | h
  ·exact hlt.1 x h
  ·obtain ⟨U,hU,hxU⟩:=List.mem_flatten.1 h;exact hlt.2 U hU x hxU
 ·obtain ⟨j,hj⟩:=List.mem_iff_getElem?.1 hy;have hjl:=(List.getElem?_eq_some_iff.1 hj).1;have hm:j < cs.length * 3:=by omega
  obtain ⟨c,U,bv,_,x0,x1,x2,x3,_⟩:=hk (j / 3) (by omega);have hr3:j % 3=0∨j % 3=1∨j % 3=2:=by omega
  rcases hr3 with e | e | e
  ·rw [show j=j / 3 * 3 by omega,x0] at hj;cases hj;rfl
  ·rw [show j=j / 3 * 3 + 1 by omega,x1] at hj
   cases hj;obtain ⟨ao,cap,rfl⟩:=x3.shape;rfl
  ·rw [show j=j / 3 * 3 + 2 by omega,x2] at hj;cases hj;rfl
def CloneTo {α:Type} (E:World→List Value→α→List Nat→Prop) (sz:Nat) (t:TypeId) (l:List α) (S:List Nat) (w:World) (e:Ending) (w':World):Prop :=
 ∃ v T S',e=.returned v∧GR E sz w' v t l T S'∧Keeps [] w w'∧(∀ x∈T,w.heap.size≤x)∧∀ x∈S',x∈S
theorem elemI64s:Elem Try.prog 42 2 1 8 (.int .i64 0):=⟨Try.underlying42,by kernel_rfl,rfl,by decide,by decide⟩
theorem elemMChan:Elem Try.prog 40 44 3 40 (.agg #[.int .i64 0,.slice none 0 0,.bool false]):=⟨Try.underlying40,by kernel_rfl,rfl,by decide,by decide⟩
set_option maxRecDepth 100000 in
set_option maxHeartbeats 400000 in
theorem clone_i64s (w:World) (v:Value) (l:List Int) (S:List Nat) (h:GV rawE 1 w v l S) (hb:l.length≤100000) :
  Calls Try.prog 31 #[v] w (CloneTo rawE 1 2 l S w):=by
 have HV:=Lib.hid h;have HB:=Lib.hid hb;have hle:=h.le;unfold maxLen at hle;obtain ⟨av,cv,rfl⟩:=h.shape;clear hb
 cases av with
 | none =>
  have h0:l.length=0:=by
   by_cases hp:0 < l.length
   ·obtain ⟨g,off,e,_⟩:=h.addr hp;cases e
   ·omega
  obtain rfl:=List.eq_nil_of_length_eq_zero h0;clear h;have hnil:∀ w:World,(binOp .eql 42 (.slice none ([]:List Int).length cv) (.slice none 0 0)).run Try.prog w=.ok (.bool true) w:=fun _=>rfl
  have hnil2:∀ w:World,(binOp .eql 42 (.slice none 0 cv) (.slice none 0 0)).run Try.prog w=.ok (.bool true) w:=fun _=>rfl
  go_enter Try.func31,Try.ntmps31
  go_wp2_with fail
  go_ret
  exact ⟨_,[],[],rfl,GR.nil _ _ _ _,Keeps.refl _ _,by simp,by simp⟩
 | some a =>
  have HR:=Lib.hid (GR.lit rawE 1 w 2 _ rfl);have HU:=Lib.hid h.lt;clear h;have hnil:∀ w:World,(binOp .eql 42 (.slice (some a) l.length cv) (.slice none 0 0)).run Try.prog w=.ok (.bool false) w:=fun _=>rfl
  go_enter Try.func31,Try.ntmps31
  go_wp2_with (at_builtin;go_must (refine wp_gapps elemI64s rawE_kept HR.out (HV.out.then rawE_kept ((Keeps.refl [] w).alloc _)) (fun y hy=>by have:=HU.out y hy;simp;omega) (by have:=HB.out;simp;omega) ?_))
  intro ao7 cap7 w7 T7 r7 k7 s7;have R7:Hid (GR rawE 1 w7 (.slice ao7 l.length cap7) 2 l T7 S):=Lib.hid (by simpa using r7);have K7:Hid (Keeps [] w w7):=Lib.hid (((Keeps.refl [] w).alloc _).trans k7 (fun x hx=>by simp at hx;subst hx;exact .inr (Nat.le_refl _)));have S7:Hid (∀ x∈T7,w.heap.size≤x):=Lib.hid (fun x hx=>by
   rcases s7 x hx with h | h
   ·first | omega | (simp at h;omega)
   ·first | omega | (simp at h;omega))
  clear r7 k7 s7
  go_wp2_with fail
  go_ret
  exact ⟨_,T7,S,rfl,R7.out,K7.out,S7.out,fun x hx=>hx⟩
set_option maxRecDepth 100000 in
set_option maxHeartbeats 400000 in
theorem clone_chans (w:World) (v:Value) (l:List Md.Ch) (S:List Nat) (h:GV chE 3 w v l S) (hb:l.length≤100000) :
  Calls Try.prog 30 #[v] w (CloneTo chE 3 44 l S w):=by
 have HV:=Lib.hid h;have HB:=Lib.hid hb;have hle:=h.le;unfold maxLen at hle;obtain ⟨av,cv,rfl⟩:=h.shape;clear hb
 cases av with
 | none =>
  have h0:l.length=0:=by
   by_cases hp:0 < l.length
   ·obtain ⟨g,off,e,_⟩:=h.addr hp;cases e
   ·omega
  obtain rfl:=List.eq_nil_of_length_eq_zero h0;clear h;have hnil:∀ w:World,(binOp .eql 40 (.slice none ([]:List Md.Ch).length cv) (.slice none 0 0)).run Try.prog w=.ok (.bool true) w:=fun _=>rfl
  have hnil2:∀ w:World,(binOp .eql 40 (.slice none 0 cv) (.slice none 0 0)).run Try.prog w=.ok (.bool true) w:=fun _=>rfl
  go_enter Try.func30,Try.ntmps30
  go_wp2_with fail
  go_ret
  exact ⟨_,[],[],rfl,GR.nil _ _ _ _,Keeps.refl _ _,by simp,by simp⟩
 | some a =>
  have HR:=Lib.hid (GR.lit chE 3 w 44 _ rfl);have HU:=Lib.hid h.lt;clear h;have hnil:∀ w:World,(binOp .eql 40 (.slice (some a) l.length cv) (.slice none 0 0)).run Try.prog w=.ok (.bool false) w:=fun _=>rfl
  go_enter Try.func30,Try.ntmps30
  go_wp2_with (at_builtin;go_must (refine wp_gapps elemMChan chE_kept HR.out (HV.out.then chE_kept ((Keeps.refl [] w).alloc _)) (fun y hy=>by have:=HU.out y hy;simp;omega) (by have:=HB.out;simp;omega) ?_))
  intro ao7 cap7 w7 T7 r7 k7 s7;have R7:Hid (GR chE 3 w7 (.slice ao7 l.length cap7) 44 l T7 S):=Lib.hid (by simpa using r7);have K7:Hid (Keeps [] w w7):=Lib.hid (((Keeps.refl [] w).alloc _).trans k7 (fun x hx=>by simp at hx;subst hx;exact .inr (Nat.le_refl _)));have S7:Hid (∀ x∈T7,w.heap.size≤x):=Lib.hid (fun x hx=>by
   rcases s7 x hx with h | h
   ·first | omega | (simp at h;omega)
   ·first | omega | (simp at h;omega))
  clear r7 k7 s7
  go_wp2_with fail
  go_ret
  exact ⟨_,T7,S,rfl,R7.out,K7.out,S7.out,fun x hx=>hx⟩
open Go.RowKit
theorem chE_fld {w:World} {g off m cap:Nat} {e:TypeId} {l:List Md.Ch} {T S U:List Nat} (h:GR chE 3 w (.slice (some ⟨g,off,none⟩) m cap) e l T S) {k:Nat} {c:Md.Ch} (hk:l[k]?=some c) {vb:Value} (hv:GV rawE 1 w vb c.buf U) (hU:∀ y∈U,y∉T) :
  GR chE 3 (w.setCell ⟨g,off + k * 3 + 1,none⟩ vb) (.slice (some ⟨g,off,none⟩) m cap) e l T (S ++ U)∧Keeps T w (w.setCell ⟨g,off + k * 3 + 1,none⟩ vb):=by
 obtain ⟨xs,h2,h3,h4,h5,h6⟩:=h;have hlen:=h2.len;have hkl:=(List.getElem?_eq_some_iff.1 hk).1;obtain ⟨r1,r2⟩:=h2.stored (k * 3 + 1) (by omega) vb;rw [← Nat.add_assoc] at r1 r2;refine ⟨⟨xs.set (k * 3 + 1) vb,r1,?_,?_,?_,?_⟩,r2⟩
 ·intro i b hi
  by_cases ei:k=i
  ·subst ei;rw [hk] at hi
   cases hi;obtain ⟨V,⟨vo,hc,_⟩,_⟩:=h3 k _ hk;refine ⟨U,⟨vb,?_,hv.keep rawE_kept r2 hU⟩,fun y hy=>by simp [hy]⟩;apply List.ext_getElem?;intro j
   by_cases hj:j < 3
   ·rw [chunk_get hj]
    by_cases ej:j=1
    ·subst ej;rw [List.getElem?_set_self (by omega)];rfl
    ·rw [List.getElem?_set_ne (by omega),← chunk_get hj,hc]
     match j,hj with
     | 0,_=>rfl
     | 1,_=>omega
     | 2,_=>rfl
   ·rw [List.getElem?_eq_none (by unfold chunk;rw [List.length_take];omega),List.getElem?_eq_none (by simp;omega)]
  ·obtain ⟨V,v1,v2⟩:=h3 i b hi;refine ⟨V,chE_kept.keep ?_ r2 (fun y hy hT=>h5 y hT (v2 y hy)),fun y hy=>by simp [v2 y hy]⟩;have:chunk (xs.set (k * 3 + 1) vb) 3 i=chunk xs 3 i:=by
    apply List.ext_getElem?;intro j
    by_cases hj:j < 3
    ·rw [chunk_get hj,chunk_get hj,List.getElem?_set_ne (by omega)]
    ·rw [List.getElem?_eq_none (by unfold chunk;rw [List.length_take];omega),List.getElem?_eq_none (by unfold chunk;rw [List.length_take];omega)]
   rw [this];exact v1
 ·intro y hy;have hsz:=r2.size;rcases List.mem_append.1 hy with h | h
  ·have:=h4 y h;omega
  ·have:=hv.lt y h;omega
 ·intro y hy h;rcases List.mem_append.1 h with h | h
  ·exact h5 y hy h
  ·exact hU y h hy
 ·intro y hy;rcases List.mem_or_eq_of_mem_set hy with h | rfl
  ·exact h6 y h
  ·obtain ⟨ao,cp,rfl⟩:=hv.shape;rfl
theorem chE_at {w:World} {ao:Option Addr} {m cap:Nat} {e:TypeId} {l:List Md.Ch} {T S:List Nat} (h:GR chE 3 w (.slice ao m cap) e l T S) {k:Nat} {c:Md.Ch} (hk:l[k]?=some c) :
  ∃ g off ab cb U,ao=some ⟨g,off,none⟩∧T=[g]∧g < w.heap.size∧w.cell? ⟨g,off + k * 3,none⟩=some (.int .i64 c.cap)∧w.cell? ⟨g,off + k * 3 + 1,none⟩=some (.slice ab c.buf.length cb)∧w.cell? ⟨g,off + k * 3 + 2,none⟩=some (.bool c.closed)∧(∀ j,w.frozen? ⟨g,off + j,none⟩=false)∧GV rawE 1 w (.slice ab c.buf.length cb) c.buf U∧∀ x∈U,x∈S:=by
 obtain ⟨xs,h2,h3,h4,h5,h6⟩:=h;have hlen:=h2.len;have hkl:=(List.getElem?_eq_some_iff.1 hk).1;obtain ⟨g,off,rfl,rfl,hg,hc,hf⟩:=h2.cells (by omega);obtain ⟨U,⟨vb,hch,hv⟩,hU⟩:=h3 k c hk;obtain ⟨ab,cb,rfl⟩:=hv.shape;have hx:∀ j,j < 3→w.cell? ⟨g,off + k * 3 + j,none⟩=[Value.int .i64 c.cap,.slice ab c.buf.length cb,.bool c.closed][j]?:=fun j hj=>by
  rw [Nat.add_assoc,hc _ (by omega),← chunk_get hj,hch]
 exact ⟨g,off,ab,cb,U,rfl,rfl,hg,hx 0 (by omega),hx 1 (by omega),hx 2 (by omega),hf,hv,hU⟩
open Go.RowKit
attribute [local go_sem ↓] Go.wp_at_zero Go.wp_at_succ
theorem chE_get {w:World} {ao:Option Addr} {m cap k:Nat} {S:List Nat} {l:List Md.Ch} {c:Md.Ch} (h:GV chE 3 w (.slice ao m cap) l S) (hk:l[k]?=some c) :
  ∃ g off ab cb U,ao=some ⟨g,off,none⟩∧g < w.heap.size∧(w.cell? ⟨g,off + k * 3,none⟩=some (.int .i64 c.cap)∧w.cell? ⟨g,off + k * 3 + 1,none⟩=some (.slice ab c.buf.length cb)∧w.cell? ⟨g,off + k * 3 + 2,none⟩=some (.bool c.closed)) ∧
   GV rawE 1 w (.slice ab c.buf.length cb) c.buf U∧∀ x∈U,x∈S:=by
 obtain ⟨g,off,cs,U,h1,h2,h3,h4,h5,⟨vb,rfl,h6⟩,h7⟩:=h.get hk;obtain ⟨ab,cb,rfl⟩:=h6.shape;exact ⟨g,off,ab,cb,U,h1,h3,⟨h5 0 (by omega),h5 1 (by omega),h5 2 (by omega)⟩,h6,h7⟩
theorem rawE_get {w:World} {ao:Option Addr} {m cap k:Nat} {S:List Nat} {l:List Int} {n:Int} (h:GV rawE 1 w (.slice ao m cap) l S) (hk:l[k]?=some n):∃ g off,ao=some ⟨g,off,none⟩∧g < w.heap.size∧w.cell? ⟨g,off + k,none⟩=some (.int .i64 n):=by
 obtain ⟨g,off,cs,U,h1,h2,h3,h4,h5,⟨rfl,_⟩,_⟩:=h.get hk;exact ⟨g,off,h1,h3,by have:=h5 0 (by omega);simpa using this⟩
set_option maxRecDepth 100000 in
set_option maxHeartbeats 3200000 in
theorem ref20_sameChans (w:World) (va vb:Value) (l:List Md.Ch) (SA SB:List Nat) (ha:GV chE 3 w va l SA) (hb:GV chE 3 w vb l SB) :
  Calls Try.prog 13 #[va,vb] w fun e w'=>e=.returned (.bool true)∧Keeps [] w w':=by
 have HA:=Lib.hid ha;have HB:=Lib.hid hb;have hle:=ha.le;unfold maxLen at hle;obtain ⟨a1,c1,rfl⟩:=ha.shape;obtain ⟨a2,c2,rfl⟩:=hb.shape;clear ha hb
 go_enter Try.func13,Try.ntmps13
 go_wp2_with fail
 go_loopw [14] (fun u wr=>∃ k:Nat,k≤l.length∧u=.int .i64 k∧Hid (Keeps [] w wr)) (fun u _=>l.length - (intOf u).toNat)
 case atStart=>exact ⟨0,Nat.zero_le _,rfl,Lib.hid (Keeps.refl _ _)⟩
 case round =>
  obtain ⟨k,hk,rfl,HI⟩:=hrel;obtain ⟨wo,rfl⟩:∃ wo:World,wo=wr:=⟨_,rfl⟩
  by_cases hlt:k < l.length
  ·obtain ⟨c,hx⟩:∃ c,l[k]?=some c:=⟨_,List.getElem?_eq_getElem hlt⟩
   obtain ⟨g1,o1,b1,cb1,U1,rfl,hg1,⟨p0,p1,p2⟩,hv1,_⟩:=chE_get (HA.out.then chE_kept HI.out) hx;obtain ⟨g2,o2,b2,cb2,U2,rfl,hg2,⟨q0,q1,q2⟩,hv2,_⟩:=chE_get (HB.out.then chE_kept HI.out) hx;have HV1:=Lib.hid hv1;have HV2:=Lib.hid hv2;have hbl:=hv1.le;unfold maxLen at hbl;have HLT:=Lib.hid hlt;have i0:(0:Int)≤(k:Int):=by omega
   have i1:(k:Int) < (l.length:Int):=by omega
   have r0:((c.cap != c.cap):Bool)=false:=by simp
   have r1:((c.closed != c.closed):Bool)=false:=by simp
   clear hv1 hv2 hx
   go_upto_region 6 with fail
   go_region_held3 (fun w'=>w'.cell? ⟨g1,o1 + k * 3,none⟩=some (.int .i64 c.cap)∧w'.cell? ⟨g1,o1 + k * 3 + 1,none⟩=some (.slice b1 c.buf.length cb1)∧w'.cell? ⟨g1,o1 + k * 3 + 2,none⟩=some (.bool c.closed)∧w'.cell? ⟨g2,o2 + k * 3,none⟩=some (.int .i64 c.cap)∧w'.cell? ⟨g2,o2 + k * 3 + 1,none⟩=some (.slice b2 c.buf.length cb2)∧w'.cell? ⟨g2,o2 + k * 3 + 2,none⟩=some (.bool c.closed))
    (first | (with_reducible exact ⟨p0,p1,p2,q0,q1,q2⟩) | go_keep)
    (first | fail)
   have K1:Hid (Keeps [] w wo.drew):=Lib.hid (HI.out.drew);have p1d:wo.drew.cell? ⟨g1,o1 + k * 3 + 1,none⟩=some (.slice b1 c.buf.length cb1):=p1;have q1d:wo.drew.cell? ⟨g2,o2 + k * 3 + 1,none⟩=some (.slice b2 c.buf.length cb2):=q1;have P1:=Lib.hid p1d;have Q1:=Lib.hid q1d;have G1:=Lib.hid hg1;have G2:=Lib.hid hg2;clear p0 p2 q0 q2 p1 q1 p1d q1d;have p1:=P1.out
   go_wp2_with fail
   clear p1
   go_loopw [62] (fun u wr=>∃ j:Nat,j≤c.buf.length∧u=.int .i64 j∧Hid (Keeps [] wo.drew wr)) (fun u _=>c.buf.length - (intOf u).toNat)
   case atStart=>exact ⟨0,Nat.zero_le _,rfl,Lib.hid (Keeps.refl _ _)⟩
   case round =>
    obtain ⟨j,hj,rfl,HJ⟩:=hrel;obtain ⟨wi,rfl⟩:∃ wi:World,wi=wr:=⟨_,rfl⟩
    by_cases hjl:j < c.buf.length
    ·obtain ⟨n,hn⟩:∃ n,c.buf[j]?=some n:=⟨_,List.getElem?_eq_getElem hjl⟩
     obtain ⟨ga,oa,rfl,hga,ea⟩:=rawE_get ((HV1.out.then rawE_kept (Keeps.refl [] wo).drew).then rawE_kept HJ.out) hn;obtain ⟨gb,ob,rfl,hgb,eb⟩:=rawE_get ((HV2.out.then rawE_kept (Keeps.refl [] wo).drew).then rawE_kept HJ.out) hn;have p1:=HJ.out.cell P1.out (by simp);have q1:=HJ.out.cell Q1.out (by simp);have j0:(0:Int)≤(j:Int):=by omega
     have j1:(j:Int) < (c.buf.length:Int):=by omega
     have HJL:=Lib.hid hjl;clear hn
     go_upto_region 11 with fail
     go_region_held3 (fun w'=>w'.cell? ⟨g1,o1 + k * 3 + 1,none⟩=some (.slice (some ⟨ga,oa,none⟩) c.buf.length cb1)∧w'.cell? ⟨g2,o2 + k * 3 + 1,none⟩=some (.slice (some ⟨gb,ob,none⟩) c.buf.length cb2)∧w'.cell? ⟨ga,oa + j,none⟩=some (.int .i64 n)∧w'.cell? ⟨gb,ob + j,none⟩=some (.int .i64 n))
      (first | (with_reducible exact ⟨p1,q1,ea,eb⟩) | go_keep)
      (first | fail)
     have KJ:Hid (Keeps [] wo.drew wi.drew):=Lib.hid (HJ.out.drew)
     go_wp2_with fail
     go_roundw
     case rel=>exact ⟨j + 1,by have:=HJL.out;omega,by go_num,KJ⟩
     case measure=>have:=HJL.out;simp [intOf];omega
    ·obtain rfl:j=c.buf.length:=by omega
     go_wp2_with fail
     go_roundw
     case rel=>exact ⟨k + 1,by have:=HLT.out;omega,by go_num,Lib.hid (K1.out.then HJ.out)⟩
     case measure=>have:=HLT.out;simp [intOf];omega
  ·obtain rfl:k=l.length:=by omega
   go_wp2_with fail
   go_ret
   exact ⟨rfl,HI.out⟩
open Go.RowKit
set_option maxHeartbeats 1600000 in
theorem ref10_sameOp (w:World) (a b:Pn.Op) (va vb:Value) (SA SB:List Nat) (ha:GV caseE 3 w va a.cases SA) (hb:GV caseE 3 w vb b.cases SB) :
  Calls Try.prog 80 #[.agg #[.int .i64 a.kind,.int .i64 a.ch,.int .i64 a.n,.int .i64 a.v,va,.bool a.els],.agg #[.int .i64 b.kind,.int .i64 b.ch,.int .i64 b.n,.int .i64 b.v,vb,.bool b.els]] w fun e w'=>e=.returned (.bool (decide (a=b)))∧Keeps [] w w':=by
 obtain ⟨k1,c1,n1,v1,s1,e1⟩:=a;obtain ⟨k2,c2,n2,v2,s2,e2⟩:=b;simp only at ha hb ⊢;have hla:=ha.le;have hlb:=hb.le;unfold maxLen at hla hlb;obtain ⟨ao1,cap1,rfl⟩:=ha.shape;obtain ⟨ao2,cap2,rfl⟩:=hb.shape;have HA:=Lib.hid ha;have HB:=Lib.hid hb;have ka:Keeps [] w ((w.alloc (.cells #[.int .i64 k1,.int .i64 c1,.int .i64 n1,.int .i64 v1,.slice ao1 s1.length cap1,.bool e1] 28)).alloc (.cells #[.int .i64 k2,.int .i64 c2,.int .i64 n2,.int .i64 v2,.slice ao2 s2.length cap2,.bool e2] 28)):=((Keeps.refl [] w).alloc _).alloc _;have KA:=Lib.hid ka;clear ha hb ka;obtain ⟨q,hq0⟩:∃ q,decide ((⟨k1,c1,n1,v1,s1,e1⟩:Pn.Op)=⟨k2,c2,n2,v2,s2,e2⟩)=q:=⟨_,rfl⟩
 rw [hq0];have HQ0:=Lib.hid hq0;clear hq0
 by_cases heq:k1=k2∧c1=c2∧n1=n2∧v1=v2
 ·obtain ⟨rfl,rfl,rfl,rfl⟩:=heq
  by_cases hee:e1=e2
  rotate_left
  ·have hne:false=q:=by
    rw [← HQ0.out,eq_comm,decide_eq_false_iff_not];intro e;injection e with _ _ _ _ _ e6;exact hee e6
   have HN:=Lib.hid hne;clear hne
   cases e1 <;> cases e2
   ·exact absurd rfl hee
   ·clear hee
    go_enter Try.func80,Try.ntmps80
    go_wp2_with fail
    go_ret
    exact ⟨ret_bool HN.out,KA.out⟩
   ·clear hee
    go_enter Try.func80,Try.ntmps80
    go_wp2_with fail
    go_ret
    exact ⟨ret_bool HN.out,KA.out⟩
   ·exact absurd rfl hee
  subst hee;have he1:(e1 != e1)=false:=by cases e1 <;> rfl
  by_cases hl:s1.length=s2.length
  ·have HL:=Lib.hid hl;have hq:((s1.length:Int) != (s2.length:Int))=false:=by simp [hl]
   have hb2:=Blk.fresh (w.alloc (.cells #[.int .i64 k1,.int .i64 c1,.int .i64 n1,.int .i64 v1,.slice ao1 s1.length cap1,.bool e1] 28)) [.int .i64 k1,.int .i64 c1,.int .i64 n1,.int .i64 v1,.slice ao2 s2.length cap2,.bool e1] 28 (w.heap.size + 1) (by simp);have HB2:=Lib.hid hb2;have HB1:=Lib.hid ((Blk.fresh w [.int .i64 k1,.int .i64 c1,.int .i64 n1,.int .i64 v1,.slice ao1 s1.length cap1,.bool e1] 28 _ rfl).alloc (.cells #[.int .i64 k1,.int .i64 c1,.int .i64 n1,.int .i64 v1,.slice ao2 s2.length cap2,.bool e1] 28));clear hl hb2
   go_enter Try.func80,Try.ntmps80
   go_wp2_with fail
   go_loopw [51] (fun u wr=>∃ k:Nat,k≤s1.length∧u=.int .i64 k∧Hid (Keeps [] w wr∧Blk wr w.heap.size [.int .i64 k1,.int .i64 c1,.int .i64 n1,.int .i64 v1,.slice ao1 s1.length cap1,.bool e1] 28∧Blk wr (w.heap.size + 1) [.int .i64 k1,.int .i64 c1,.int .i64 n1,.int .i64 v1,.slice ao2 s2.length cap2,.bool e1] 28∧∀ j,j < k→s1[j]?=s2[j]?)) (fun u _=>s1.length - (intOf u).toNat)
   case atStart=>exact ⟨0,Nat.zero_le _,rfl,Lib.hid ⟨KA.out,HB1.out,HB2.out,fun j hj=>by omega⟩⟩
   case round =>
    obtain ⟨k,hk,rfl,HI⟩:=hrel;obtain ⟨wo,rfl⟩:∃ wo:World,wo=wr:=⟨_,rfl⟩
    by_cases hlt:k < s1.length
    ·obtain ⟨x,hx⟩:∃ x,s1[k]?=some x:=⟨_,List.getElem?_eq_getElem hlt⟩
     obtain ⟨y,hy⟩:∃ y,s2[k]?=some y:=⟨_,List.getElem?_eq_getElem (by have:=HL.out;omega)⟩
     have hlt2:k < s2.length:=by have:=HL.out;omega
     obtain ⟨g1,off1,rfl,_,hg1,a0,a1,a2⟩:=(HA.out.then caseE_kept HI.out.1).case hx;obtain ⟨g2,off2,rfl,_,hg2,b0,b1,b2⟩:=(HB.out.then caseE_kept HI.out.1).case hy;have hbx1:wo.cell? ⟨w.heap.size,4,none⟩=some (.slice (some ⟨g1,off1,none⟩) s1.length cap1):=HI.out.2.1.cell 4;have hbx:wo.cell? ⟨w.heap.size + 1,4,none⟩=some (.slice (some ⟨g2,off2,none⟩) s2.length cap2):=HI.out.2.2.1.cell 4;have HX:=Lib.hid hx;have HY:=Lib.hid hy;have KR:=Lib.hid HI.out.1;obtain ⟨x1,x2,x3⟩:=x;obtain ⟨y1,y2,y3⟩:=y;simp only at a0 a1 a2 b0 b1 b2;clear hx hy;have hgd:=case_guard
     by_cases hxy:(⟨x1,x2,x3⟩:Pn.Cs)=⟨y1,y2,y3⟩
     ·have hrn:∀ w:World,(binOp .neq 87 (.agg #[.bool x1,.int .i64 x2,.int .i64 x3]) (.agg #[.bool y1,.int .i64 y2,.int .i64 y3])).run Try.prog w=.ok (.bool false) w:=fun w=>by
       have:=run_neq_case w ⟨x1,x2,x3⟩ ⟨y1,y2,y3⟩
       rwa [decide_eq_true hxy] at this
      have HXY:=Lib.hid hxy;clear hxy
      go_upto_region 6 with fail
      go_quiet (fail)
      go_wp2_with fail
      go_roundw
      case rel=>exact ⟨k + 1,by omega,by go_num,Lib.hid ⟨KR.out.drewN _,HI.out.2.1.keep ((Keeps.refl [] _).drewN _) (by simp),HI.out.2.2.1.keep ((Keeps.refl [] _).drewN _) (by simp),fun j hj=>by
       by_cases e:j=k
       ·subst e;rw [HX.out,HY.out,HXY.out]
       ·exact HI.out.2.2.2 j (by omega)⟩⟩
      case measure=>simp [intOf];omega
     ·have hrn:∀ w:World,(binOp .neq 87 (.agg #[.bool x1,.int .i64 x2,.int .i64 x3]) (.agg #[.bool y1,.int .i64 y2,.int .i64 y3])).run Try.prog w=.ok (.bool true) w:=fun w=>by
       have:=run_neq_case w ⟨x1,x2,x3⟩ ⟨y1,y2,y3⟩
       rwa [decide_eq_false hxy] at this
      have HN:Hid (false=q):=Lib.hid (by
       rw [← HQ0.out,eq_comm,decide_eq_false_iff_not];intro e
       injection e with _ _ _ _ e5;have h1:=HX.out;rw [e5,HY.out] at h1;exact hxy (Option.some.inj h1).symm)
      clear hxy
      go_upto_region 6 with fail
      go_quiet (fail)
      go_wp2_with fail
      go_ret
      exact ⟨ret_bool HN.out,KR.out.drewN _⟩
    ·obtain rfl:k=s1.length:=by omega
     have HN:Hid (true=q):=Lib.hid (by
      rw [← HQ0.out,eq_comm,decide_eq_true_iff,list_same HL.out HI.out.2.2.2])
     go_wp2_with fail
     go_ret
     exact ⟨ret_bool HN.out,HI.out.1⟩
  ·have hq:((s1.length:Int) != (s2.length:Int))=true:=by simp;omega
   have hne:false=q:=by
    rw [← HQ0.out,eq_comm,decide_eq_false_iff_not];intro e;injection e with _ _ _ _ e5;exact hl (by rw [e5])
   have HN:=Lib.hid hne;clear hne hl
   go_enter Try.func80,Try.ntmps80
   go_wp2_with fail
   go_ret
   exact ⟨ret_bool HN.out,KA.out⟩
 ·have hne:false=q:=by
   rw [← HQ0.out,eq_comm,decide_eq_false_iff_not];intro e;injection e with h1 h2 h3 h4 h5 h6;exact heq ⟨h1,h2,h3,h4⟩
  have HN:=Lib.hid hne;have HQ:=Lib.hid heq;clear hne heq
  go_enter Try.func80,Try.ntmps80
  go_upto_if 47 with fail
  ·exfalso;exact HQ.out ⟨by assumption,by assumption,by assumption,by assumption⟩
  all_goals
   go_wp2_with fail
   go_ret
   exact ⟨ret_bool HN.out,((Keeps.refl [] w).alloc _).alloc _⟩
open Go.RowKit
set_option maxRecDepth 100000 in
set_option maxHeartbeats 1600000 in
theorem ref20_agrees (w:World) (vc vw vo:Value) (st:Md.St) (r:Mr.St) (S:List Nat) (gi:Int) (a:Pn.Op) (UA:List Nat) (h:MR w vc vw r S) (hr:Mr.Rel st r) (ha:GV caseE 3 w vo a.cases UA) :
  Calls Try.prog 68 #[.agg #[vc,vw],.int .i64 gi,.agg (opV a vo)] w fun e w'=>e=.returned (.bool (Md.agrees st gi a))∧Keeps [] w w':=by
 obtain ⟨q,hq⟩:∃ q,Md.agrees st gi a=q:=⟨_,rfl⟩
 rw [hq];have HY:Hid ((∀ o,(gi,o)∈r.waits→decide (o=a)=true)→q=true):=Lib.hid (fun hy=>by
  rw [← hq];unfold Md.agrees
  cases hw:st.waits gi with
  | none=>rfl
  | some o=>exact hy o ((hr.2 gi o).1 hw))
 have HNO:Hid (∀ o,(gi,o)∈r.waits→decide (o=a)=false→q=false):=Lib.hid (fun o ho hn=>by
  rw [← hq];unfold Md.agrees;rw [(hr.2 gi o).2 ho];exact hn)
 obtain ⟨ac,cc,rfl⟩:=h.1.shape;obtain ⟨ao,cap,rfl⟩:=h.2.shape;obtain ⟨aa,ca,rfl⟩:=ha.shape;have HA:=Lib.hid ha;have HV:=Lib.hid h.2;have hle:=h.2.le;unfold maxLen at hle;obtain ⟨l,hl⟩:∃ l,r.waits=l:=⟨_,rfl⟩
 rw [hl] at HV HY HNO hle ⊢;obtain ⟨lc,hlc⟩:∃ lc,r.chans.length=lc:=⟨_,rfl⟩
 rw [hlc];clear h hr hq hl hlc ha;obtain ⟨w0,hw0⟩:∃ w0,(w.alloc (.cells #[.slice ac lc cc,.slice ao l.length cap] 35)).alloc (.cells #[.int .i64 a.kind,.int .i64 a.ch,.int .i64 a.n,.int .i64 a.v,.slice aa a.cases.length ca,.bool a.els] 28)=w0:=⟨_,rfl⟩
 have K0:Hid (Keeps [] w w0):=Lib.hid (hw0 ▸ ((Keeps.refl [] w).alloc _).alloc _);have HOB:Hid (Blk w0 (w.heap.size + 1) [.int .i64 a.kind,.int .i64 a.ch,.int .i64 a.n,.int .i64 a.v,.slice aa a.cases.length ca,.bool a.els] 28):=Lib.hid (hw0 ▸ Blk.fresh _ [.int .i64 a.kind,.int .i64 a.ch,.int .i64 a.n,.int .i64 a.v,.slice aa a.cases.length ca,.bool a.els] _ _ (by simp));have HMB:Hid (Blk w0 w.heap.size [.slice ac lc cc,.slice ao l.length cap] 35):=Lib.hid (hw0 ▸ (Blk.fresh w [.slice ac lc cc,.slice ao l.length cap] _ _ rfl).alloc _);have m1:w0.cell? ⟨w.heap.size,1,none⟩=some (.slice ao l.length cap):=HMB.out.cell 1;unfold opV
 go_enter Try.func68,Try.ntmps68
 go_wp2_with fail
 clear hw0 m1
 go_loopw [12] (fun u wr=>∃ k:Nat,k≤l.length∧u=.int .i64 k∧Hid (Keeps [] w0 wr∧∀ (j:Nat) p,j < k→l[j]?=some p→p.1=gi→decide (p.2=a)=true)) (fun u _=>l.length - (intOf u).toNat)
 case atStart=>exact ⟨0,Nat.zero_le _,rfl,Lib.hid ⟨Keeps.refl _ _,fun j p hj=>by omega⟩⟩
 case round =>
  obtain ⟨k,hk,rfl,HI⟩:=hrel;obtain ⟨wo,rfl⟩:∃ wo:World,wo=wr:=⟨_,rfl⟩
  by_cases hlt:k < l.length
  ·obtain ⟨p,hx⟩:∃ p,l[k]?=some p:=⟨_,List.getElem?_eq_getElem hlt⟩
   obtain ⟨g,off,ac2,cc2,U,rfl,hg,hrg,hgv,hU⟩:=wt_var (HV.out.then wtE_kept (K0.out.then HI.out.1)) hx;obtain ⟨w3,hw3⟩:∃ w3,wo.alloc (.cells (wtC p (.slice ac2 p.2.cases.length cc2)).toArray 84)=w3:=⟨_,rfl⟩
   have K3:Hid (Keeps [] w0 w3):=Lib.hid (HI.out.1.then (hw3 ▸ (Keeps.refl [] wo).alloc _));have HB3:Hid (Blk w3 wo.heap.size (wtC p (.slice ac2 p.2.cases.length cc2)) 84):=Lib.hid (hw3 ▸ Blk.fresh wo _ _ _ rfl);have HGV:Hid (GV caseE 3 w3 (.slice ac2 p.2.cases.length cc2) p.2.cases U):=Lib.hid (hgv.then caseE_kept (hw3 ▸ (Keeps.refl [] wo).alloc _));have HONE:=wtC_one p ac2 p.2.cases.length cc2;have HLT:=Lib.hid hlt;have HX:=Lib.hid hx;clear hgv hU hx
   go_upto_region 4 with (first
     | (refine wpList_load_mid rfl 84 (.tmp 14) rfl g (off + k * 7) (by rfl) _ _ hrg Try.underlying84 rfl (by kernel_rfl) ?_)
     | (refine wpList_store_mid rfl 84 (.tmp 8) (.tmp 15) rfl wo.heap.size 0 _ (by rfl) (by rfl) (there_alloc_new wo _ _ (by rfl)) (by kernel_rfl) HONE ?_;rw [alloc_setCells wo _ _ _ (by rfl),hw3])
     | fail)
   clear hw3 hrg;obtain ⟨x0,x1,x2,x3,x4,x5,x6⟩:=HB3.out.wt;obtain ⟨⟨b0,b1,b2,b3,b4,b5⟩,_⟩:=Blk.six (HOB.out.keep K3.out (by simp))
   cases hc:(p.1 == gi) with
   | false =>
    go_wp2_with fail
    go_roundw
    case rel =>
     refine ⟨k + 1,by have:=HLT.out;omega,by go_num,Lib.hid ⟨K3.out,fun j p2 hj hp hg2=>?_⟩⟩
     by_cases e:j=k
     ·subst e;rw [HX.out] at hp
      cases hp;rw [hg2] at hc;simp at hc
     ·exact HI.out.2 j p2 (by omega) hp hg2
    case measure=>have:=HLT.out;simp [intOf];omega
   | true =>
    have HC:Hid (p.1=gi):=Lib.hid (by simpa using hc)
    go_wp2_with fail
    refine (ref10_sameOp _ p.2 a _ _ U UA HGV.out (HA.out.then caseE_kept (K0.out.then K3.out))).mono ?_;obtain ⟨b,hb⟩:∃ b,decide (p.2=a)=b:=⟨_,rfl⟩
    rw [hb]
    rintro e w5 ⟨rfl,k5⟩
    have HB:=Lib.hid hb;have K5:=Lib.hid (K3.out.then k5);clear k5 x0 x1 x2 x3 x4 x5 x6 b0 b1 b2 b3 b4 b5 hb
    cases b with
    | false =>
     have HN:Hid (q=false):=Lib.hid (HNO.out p.2 (by have:=List.mem_of_getElem? HX.out;rw [← HC.out];exact this) HB.out)
     go_wp2_with fail
     go_ret
     exact ⟨by rw [HN.out];rfl,K0.out.then K5.out⟩
    | true =>
     go_wp2_with fail
     go_roundw
     case rel =>
      refine ⟨k + 1,by have:=HLT.out;omega,by go_num,Lib.hid ⟨K5.out,fun j p2 hj hp hg2=>?_⟩⟩
      by_cases e:j=k
      ·subst e;rw [HX.out] at hp
       cases hp;exact HB.out
      ·exact HI.out.2 j p2 (by omega) hp hg2
     case measure=>have:=HLT.out;simp [intOf];omega
  ·obtain rfl:k=l.length:=by omega
   have hn:q=true:=HY.out (fun o ho=>by
    obtain ⟨j,hj⟩:=List.mem_iff_getElem?.1 ho;exact HI.out.2 j _ (List.getElem?_eq_some_iff.1 hj).1 hj rfl)
   go_wp2_with fail
   go_ret
   exact ⟨by rw [hn];rfl,K0.out.then HI.out.1⟩
end Go.Proofs.Ytdibmkjoaghafaa
