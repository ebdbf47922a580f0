/-
  What the laws need, part Q23.
  Conditions: none.
-/
import Derived.Test.YtdibmkjoaghafaaQ22
import Derived.Laws.StructEq
set_option linter.unusedVariables false
set_option linter.unusedSimpArgs false
set_option linter.unnecessarySimpa false
set_option maxHeartbeats 2000000
namespace Go.Proofs.Ytdibmkjoaghafaa
open Go.RowKit
set_option maxRecDepth 100000
set_option maxHeartbeats 1600000
def ChD (w:World) (S:List Nat) (l:List Md.Ch) (k:Nat) (v:Value) (wr:World):Prop:=∃ T S',GR chE 3 wr v 44 l T S'∧Keeps [] w wr∧(∀ x∈T,w.heap.size≤x)∧(∀ x∈S',x∈S∨w.heap.size≤x) ∧
 ∀ j c,j < k→l[j]?=some c→∃ g off n cap vb U,v=.slice (some ⟨g,off,none⟩) n cap∧wr.cell? ⟨g,off + j * 3 + 1,none⟩=some vb∧GV rawE 1 wr vb c.buf U∧∀ x∈U,w.heap.size≤x∧x≠g
theorem ChD.gv {w wr:World} {S:List Nat} {l:List Md.Ch} {v:Value} (h:ChD w S l l.length v wr):∃ S',GV chE 3 wr v l S'∧∀ x∈S',w.heap.size≤x:=by
 obtain ⟨T,S',hg,hk,hT,hS',hd⟩:=h;obtain ⟨ao,cap,rfl⟩:=hg.shape;obtain ⟨xs,h2,h3,h4,h5,h6⟩:=hg;have hlen:=h2.len;have key:∀ k c,l[k]?=some c→∃ U,chE wr (chunk xs 3 k) c U∧∀ x∈U,w.heap.size≤x∧x < wr.heap.size:=fun k c hc=>by
  have hkl:=(List.getElem?_eq_some_iff.1 hc).1;obtain ⟨g,off,n,cp,vb,U,e1,e2,e3,e4⟩:=hd k c hkl hc;obtain ⟨g',off',rfl,rfl,hgz,hcl,hf⟩:=h2.cells (by omega);simp at e1;obtain ⟨⟨rfl,rfl⟩,_,_⟩:=e1;obtain ⟨U0,⟨vb0,hch,hv0⟩,hU0⟩:=h3 k c hc;have:wr.cell? ⟨g',off' + k * 3 + 1,none⟩=some vb0:=by
   rw [Nat.add_assoc,hcl _ (by omega),← chunk_get (by omega),hch];rfl
  rw [this] at e2;obtain rfl:=Option.some.inj e2;exact ⟨U,⟨vb0,hch,e3⟩,fun x hx=>⟨(e4 x hx).1,e3.lt x hx⟩⟩
 have hch:∃ V:List Nat,(∀ x∈V,w.heap.size≤x∧x < wr.heap.size)∧∀ k c,l[k]?=some c→∃ U,chE wr (chunk xs 3 k) c U∧∀ x∈U,x∈V:=by
  have:∀ n,n≤l.length→∃ V:List Nat,(∀ x∈V,w.heap.size≤x∧x < wr.heap.size)∧∀ k c,k < n→l[k]?=some c→∃ U,chE wr (chunk xs 3 k) c U∧∀ x∈U,x∈V:=by
   intro n
   induction n with
   | zero=>exact fun _=>⟨[],by simp,fun k c hk=>by omega⟩
   | succ n ih =>
    intro hn;obtain ⟨V,v1,v2⟩:=ih (by omega);obtain ⟨U,u1,u2⟩:=key n l[n] (List.getElem?_eq_getElem (by omega));refine ⟨V ++ U,fun x hx=>(List.mem_append.1 hx).elim (v1 x) (u2 x),fun k c hk hc=>?_⟩;rcases Nat.lt_succ_iff_lt_or_eq.1 hk with h | rfl
    ·obtain ⟨U',q1,q2⟩:=v2 k c h hc;exact ⟨U',q1,fun x hx=>List.mem_append_left _ (q2 x hx)⟩
    ·obtain rfl:l[k]=c:=by rw [List.getElem?_eq_getElem (by omega)] at hc;exact Option.some.inj hc
     exact ⟨U,u1,fun x hx=>List.mem_append_right _ hx⟩
  obtain ⟨V,v1,v2⟩:=this l.length (Nat.le_refl _);exact ⟨V,v1,fun k c hc=>v2 k c (List.getElem?_eq_some_iff.1 hc).1 hc⟩
 obtain ⟨V,v1,v2⟩:=hch;have hvw:=h2.view;exact ⟨T ++ V,⟨xs,T,hvw,fun k c hc=>by
  obtain ⟨U,u1,u2⟩:=v2 k c hc;exact ⟨U,u1,fun x hx=>List.mem_append_right _ (u2 x hx)⟩,fun x hx=>List.mem_append_left _ hx,fun x hx=>(List.mem_append.1 hx).elim (fun h=>h2.lt x h) (fun h=>(v1 x h).2),h6⟩,fun x hx=>(List.mem_append.1 hx).elim (hT x) (fun h=>(v1 x h).1)⟩
theorem model_chans2 (w:World) (p:Value) (st:Md.St) (N:Nat) (S:List Nat) (h:Mo w p st N S) (hN:N≤100000) (hc:st.chans.length≤100000) :
  Calls Try.prog 10 #[p] w fun e w'=>∃ v S',e=.returned v∧GV chE 3 w' v st.chans S'∧Keeps [] w w'∧∀ x∈S',w.heap.size≤x:=by
 obtain ⟨b,bm,vh,T,Us,SW,f,col,rfl,hm⟩:=h;have HG:=Lib.hid hm.chans.gv;have HSS:Hid (∀ x∈T ++ Us.flatten,x∈S):=Lib.hid (fun x hx=>by
  rcases List.mem_append.1 hx with h | h
  ·exact hm.st x h
  ·obtain ⟨U,hU,hxU⟩:=List.mem_flatten.1 h;exact hm.su U hU x hxU)
 have HSL:=Lib.hid hm.lt;have HLB:Hid (∀ c∈st.chans,c.buf.length≤100000):=Lib.hid (fun c hcm=>by
  obtain ⟨ao,cap,hv⟩:=hm.chans.shape;obtain ⟨k,hk⟩:=List.mem_iff_getElem?.1 hcm;have hh:=hm.chans;rw [hv] at hh;obtain ⟨g,off,bv,U,_,_,_,_,_,_,_,_,_,h9⟩:=hh.get hk;omega)
 obtain ⟨c0,_,_,_⟩:=hm.cells;have HC:=Lib.hid hc;have hle:=hm.chans.le;unfold maxLen at hle;obtain ⟨l,hl⟩:∃ l,st.chans=l:=⟨_,rfl⟩
 rw [hl] at HG HLB HC hle ⊢;clear hm hl hc hN
 go_enter Try.func10,Try.ntmps10
 go_wp2_with fail
 refine (clone_chans _ _ l _ HG.out HC.out).mono ?_
 rintro e w1 ⟨v1,T1,S1,rfl,g1,k1,t1,s1⟩
 obtain ⟨ao1,cap1,rfl⟩:=g1.shape;have HI1:Hid (ChD w S l 0 (.slice ao1 l.length cap1) w1):=Lib.hid ⟨T1,S1,g1,k1,t1,fun x hx=>.inl (HSS.out x (s1 x hx)),fun j c hj=>by omega⟩;clear g1 k1 t1 s1 c0
 go_wp2_with fail
 go_loopw [12] (fun u wr=>∃ k:Nat,k≤l.length∧u=.int .i64 k∧Hid (ChD w S l k (.slice ao1 l.length cap1) wr)) (fun u _=>l.length - (intOf u).toNat)
 case atStart=>exact ⟨0,Nat.zero_le _,rfl,HI1⟩
 case round =>
  obtain ⟨k,hk,rfl,HI⟩:=hrel;obtain ⟨wo,rfl⟩:∃ wo:World,wo=wr:=⟨_,rfl⟩
  have HID:=HI;obtain ⟨T,S',hg,hkp,hT,hS',hdn⟩:=HI.out;have HGR:=Lib.hid hg;have HKP:=Lib.hid hkp;have HT:=Lib.hid hT;have HS':=Lib.hid hS';have HDN:=Lib.hid hdn;clear HI1 HI hS' hdn
  by_cases hlt:k < l.length
  ·obtain ⟨c,hx⟩:∃ c,l[k]?=some c:=⟨_,List.getElem?_eq_getElem hlt⟩
   obtain ⟨g,off,ab,cb,U,rfl,rfl,hgz,e0,e1,e2,hf,hv,hU⟩:=chE_at hg hx;have HX:=Lib.hid hx;have HV:=Lib.hid hv;have HLT:=Lib.hid hlt;have i1:(k:Int) < (l.length:Int):=by omega
   have HUS:=Lib.hid hU;have HUN:Hid (g∉U):=Lib.hid (fun hm=>by
    obtain ⟨xs,_,_,_,h5,_⟩:=hg;exact h5 g (by simp) (hU g hm))
   have HGZ:=Lib.hid hgz;clear hg hkp hT hv hU e0 e2 hx HID
   go_wp2_with fail
   refine (clone_i64s _ _ c.buf U HV.out (HLB.out c (List.mem_of_getElem? HX.out))).mono ?_
   rintro e w5 ⟨v5,T5,S5,rfl,g5,k5,t5,s5⟩
   have hg5:=HGR.out.then chE_kept k5;obtain ⟨g',off',ab',cb',U',q1,q2,q3,e0,e1,e2,hf,_,_⟩:=chE_at hg5 HX.out;obtain ⟨rfl,rfl⟩:=by simpa using q1
   have f1:w5.frozen? ⟨g,off + k * 3 + 1,none⟩=false:=by rw [Nat.add_assoc];exact hf _
   have hn:=chE_fld hg5 HX.out g5.gv (fun y hy hm=>by
    simp only [List.mem_singleton] at hm;subst hm;rcases List.mem_append.1 hy with h | h
    ·have:=t5 _ h;have:=HGZ.out;omega
    ·exact HUN.out (s5 _ h))
   have hnew:GV rawE 1 w5 v5 c.buf T5:=by
    obtain ⟨ys,r1,r2,r3,r4,r5⟩:=g5;exact ⟨ys,T5,r1.view,fun j a ha=>by
     obtain ⟨U1,⟨u1,rfl⟩,_⟩:=r2 j a ha;exact ⟨[],⟨u1,rfl⟩,by simp⟩,fun x hx=>hx,r1.lt,r5⟩
   have hT5:∀ x∈T5,w.heap.size≤x∧x≠g:=fun x hx=>by
    have:=t5 x hx;have:=HGZ.out;have:=HKP.out.size;exact ⟨by omega,by omega⟩
   have HN:Hid (ChD w S l (k + 1) (.slice (some ⟨g,off,none⟩) l.length cap1) (w5.setCell ⟨g,off + k * 3 + 1,none⟩ v5)):=Lib.hid ⟨_,_,hn.1,(HKP.out.then k5).trans hn.2 (fun x hx=>.inr (HT.out x hx)),HT.out,fun x hx=>by
    have:=HKP.out.size;rcases List.mem_append.1 hx with h | h
    ·exact HS'.out x h
    ·rcases List.mem_append.1 h with h | h
     ·right;have:=t5 x h;omega
     ·exact HS'.out x (HUS.out x (s5 x h)),fun j d hj hd=>by
    by_cases hjk:j=k
    ·subst hjk;have:d=c:=by rw [HX.out] at hd;exact (Option.some.inj hd).symm
     subst this;exact ⟨g,off,_,_,v5,T5,rfl,World.cell?_setCell_same _ _ _ e1,hnew.keep rawE_kept hn.2 (fun x hx hm=>by simp at hm;exact (hT5 x hx).2 hm),hT5⟩
    ·obtain ⟨g2,off2,n2,c2,vb2,U2,q1,q2,q3,q4⟩:=HDN.out j d (by omega) hd;simp at q1;obtain ⟨⟨rfl,rfl⟩,rfl,rfl⟩:=q1;refine ⟨g,off,_,_,vb2,U2,rfl,?_,(q3.then rawE_kept k5).keep rawE_kept hn.2 (fun x hx hm=>by simp at hm;exact (q4 x hx).2 hm),q4⟩;rw [World.cell?_setCell_other _ _ _ _ (by first | omega | (simp;omega) | simp)];exact k5.cell q2 (by simp)⟩
   obtain ⟨a5,c5,rfl⟩:=g5.shape;clear hg5 hn g5 k5 t5 s5 e0 e2 hf q1 q2 q3 hnew hT5
   go_wp2_with fail
   go_roundw
   case rel=>exact ⟨k + 1,by have:=HLT.out;omega,by go_num,HN⟩
   case measure=>have:=HLT.out;simp [intOf];omega
  ·obtain rfl:k=l.length:=by omega
   clear hg hkp hT
   go_wp2_with fail
   go_ret
   obtain ⟨S2,g2,n2⟩:=HID.out.gv;exact ⟨_,_,rfl,g2,HKP.out,n2⟩
namespace Fl
def eCh (c:Md.Ch):List A:=[nI c.cap,.r 1 (nums c.buf),bI c.closed]
def eWt (p:Int × Pn.Op):List A:=nI p.1 :: eOp p.2
def eMr (r:Mr.St):List A:=[.r 3 (r.chans.map eCh),.r 7 (r.waits.map eWt)]
def eSd (s:Md.Sd):List A:=[nI s.ch,bI s.send,nI s.v]
def eSc (s:Md.Sd):List A:=[bI s.send,nI s.ch,nI s.v]
theorem si_raw:Si (fun n:Int=>[nI n]) rawE:=fun ok w cs n U r _=>by
 obtain ⟨rfl,_⟩:=r;exact RC.cons (RA.w rfl) RC.nil
theorem si_ch:Si eCh chE:=fun ok w cs c U r h=>by
 obtain ⟨vb,rfl,g⟩:=r;exact RC.cons (RA.w rfl) (RC.cons (si_raw.ra g h) (RC.cons (RA.w rfl) RC.nil))
theorem si_cs:Si eCs caseE:=fun ok w cs c U r _=>by
 obtain ⟨rfl,_⟩:=r;exact RC.cons (RA.w rfl) (RC.cons (RA.w rfl) (RC.cons (RA.w rfl) RC.nil))
theorem si_wt:Si eWt wtE:=fun ok w cs c U r h=>by
 obtain ⟨vb,rfl,g⟩:=r;exact RC.cons (RA.w rfl) (RC.cons (RA.w rfl) (RC.cons (RA.w rfl) (RC.cons (RA.w rfl) (RC.cons (RA.w rfl) (RC.cons (si_cs.ra g h) (RC.cons (RA.w rfl) RC.nil))))))
theorem is_ch:Is eCh chE:=fun ok w cs c r=>by
 obtain ⟨y1,e1,r1⟩:=RC.c1 (as_:=[.r 1 (nums c.buf),bI c.closed]) r;unfold RC at r1;obtain ⟨x,y5,e5,r5,r6⟩:=r1;obtain ⟨y6,e6,r7⟩:=r6.c1;have e7:=r7.n0;obtain ⟨S,s1,s2⟩:=is_num.gv r5;subst e7 e6 e5;exact ⟨S,⟨x,e1,s1⟩,s2⟩
theorem is_wt:Is eWt wtE:=fun ok w cs c r=>by
 obtain ⟨y1,e1,r1⟩:=RC.c1 (as_:=eOp c.2) r;obtain ⟨S,⟨va,h1,h2⟩,s2⟩:=is_op ok w y1 c.2 r1;subst h1;exact ⟨S,⟨va,e1,h2⟩,s2⟩
theorem mr_of {ok:Nat→Prop} {w:World} {r:Mr.St} {vs:List Value} (h:RC ok w (eMr r) vs):∃ vc vw S,vs=[vc,vw]∧MR w vc vw r S∧∀ x∈S,ok x:=by
 unfold eMr RC at h;obtain ⟨x,y5,e5,r5,r6⟩:=h;unfold RC at r6;obtain ⟨z,y6,e6,r7,r8⟩:=r6;have e7:=r8.n0;subst e7 e6 e5;obtain ⟨S,s1,s2⟩:=is_ch.gv r5;obtain ⟨T,t1,t2⟩:=is_wt.gv r7;refine ⟨x,z,S ++ T,rfl,⟨s1.mono (fun x hx=>List.mem_append_left _ hx) ?_,t1.mono (fun x hx=>List.mem_append_right _ hx) ?_⟩,?_⟩
 all_goals
  intro x hx;rcases List.mem_append.1 hx with h | h
 all_goals first | exact (s2 x h).2 | exact (t2 x h).2 | exact (s2 x h).1 | exact (t2 x h).1
theorem of_mr {ok:Nat→Prop} {w:World} {r:Mr.St} {vc vw:Value} {S:List Nat} (h:MR w vc vw r S) (hS:∀ x∈S,ok x):RC ok w (eMr r) [vc,vw] :=
 RC.cons (si_ch.ra h.1 hS) (RC.cons (si_wt.ra h.2 hS) RC.nil)
section
variable {P:Program} {F:FuncId} {ds:List D}
theorem RDs.v {ok:Nat→Prop} {w:World} {v:Value} {xs:List Value} (h:RDs ok w (.c (.v v) :: ds) xs):∃ ys,xs=v :: ys∧RDs ok w ds ys:=by
 obtain ⟨x,ys,rfl,r,h⟩:=h.c;unfold RA at r;rw [r.1];exact ⟨ys,rfl,h⟩
theorem RDs.op {ok:Nat→Prop} {w:World} {o:Pn.Op} {xs:List Value} (h:RDs ok w (.agg (eOp o) :: ds) xs):∃ va U ys,xs=.agg (opV o va) :: ys∧GV caseE 3 w va o.cases U∧(∀ x∈U,ok x)∧RDs ok w ds ys:=by
 obtain ⟨vs,ys,rfl,r,q1⟩:=h.ag;obtain ⟨U,⟨va,h1,h2⟩,h3⟩:=is_op ok w vs o r;subst h1;exact ⟨va,U,ys,rfl,h2,fun x hx=>(h3 x hx).1,q1⟩
theorem RDs.mr {ok:Nat→Prop} {w:World} {r:Mr.St} {xs:List Value} (h:RDs ok w (.agg (eMr r) :: ds) xs):∃ vc vw S ys,xs=.agg #[vc,vw] :: ys∧MR w vc vw r S∧(∀ x∈S,ok x)∧RDs ok w ds ys:=by
 obtain ⟨vs,ys,rfl,r,q1⟩:=h.ag;obtain ⟨vc,vw,S,rfl,h1,h2⟩:=mr_of r;exact ⟨vc,vw,S,ys,rfl,h1,h2,q1⟩
theorem Con.plainI {ι:Type} {d:ι→D} (h:∀ ok e xs,RDs ok e ds xs→Calls P F xs.toArray e fun en w'=>∃ i x,en=.returned x∧Keeps [] e w'∧RD (fun g=>ok g∨e.heap.size≤g) w' (d i) x):Con P F ds [] (fun i:ι=>(d i,[])):=⟨fun ok e xs hd _ _ _=>by
 refine Calls.mono (h ok e xs hd) ?_
 rintro en w' ⟨i,x,rfl,kp,hx⟩
 refine ⟨i,x,rfl,by simpa [foots] using kp,by simp [foots],List.Pairwise.nil,by simp,?_⟩;have:okr ok e [] []=fun g=>ok g∨e.heap.size≤g:=by
  funext g;unfold okr;simp [foots]
 rw [this];exact hx⟩
end
theorem tup2 {ok:Nat→Prop} {w:World} {d1 d2:D} {x1 x2:Value} (h1:RD ok w d1 x1) (h2:RD ok w d2 x2):RD ok w (.tup [d1,d2]) (.tuple #[x1,x2]):=by
 unfold RD;exact ⟨[x1,x2],rfl,RDs.cons h1 (RDs.cons h2 RDs.nil)⟩
theorem tup3 {ok:Nat→Prop} {w:World} {d1 d2 d3:D} {x1 x2 x3:Value} (h1:RD ok w d1 x1) (h2:RD ok w d2 x2) (h3:RD ok w d3 x3):RD ok w (.tup [d1,d2,d3]) (.tuple #[x1,x2,x3]):=by
 unfold RD;exact ⟨[x1,x2,x3],rfl,RDs.cons h1 (RDs.cons h2 (RDs.cons h3 RDs.nil))⟩
theorem rd_agg {ok:Nat→Prop} {w:World} {as_:List A} {vs:List Value} (h:RC ok w as_ vs):RD ok w (.agg as_) (.agg vs.toArray):=by
 unfold RD;exact ⟨vs,rfl,h⟩
theorem rd_res {ok:Nat→Prop} {w:World} (r:Md.Res):RD ok w (.agg (eRes r)) (.agg (Go.Proofs.Ytdibmkjoaghafaa.resV r)):=rd_agg (RC.cons (RA.w rfl) (RC.cons (RA.w rfl) (RC.cons (RA.w rfl) (RC.cons (RA.w rfl) (RC.cons (RA.w rfl) RC.nil)))))
theorem rd_sd {ok:Nat→Prop} {w:World} (s:Md.Sd):RD ok w (.agg (eSd s)) (.agg (sdV s)):=rd_agg (RC.cons (RA.w rfl) (RC.cons (RA.w rfl) (RC.cons (RA.w rfl) RC.nil)))
theorem rd_sc {ok:Nat→Prop} {w:World} (s:Md.Sd):RD ok w (.agg (eSc s)) (.agg (csV s)):=rd_agg (RC.cons (RA.w rfl) (RC.cons (RA.w rfl) (RC.cons (RA.w rfl) RC.nil)))
theorem mo_thing {b N:Nat} {st:Md.St}:Thing (fun w S=>Mo w (pt b) st N S):=⟨fun h k hn=>h.keep k hn,fun h=>h.lt⟩
abbrev moT (b N:Nat) (st:Md.St) (S:List Nat):Res:=thing (fun w S=>Mo w (pt b) st N S) S
theorem mo_get {b N:Nat} {st:Md.St} {S:List Nat} {ok:Nat→Prop} {w:World} (h:∀ r∈[moT b N st S],r.holds ok w):Mo w (pt b) st N S:=(thing.holds mo_thing).1 (h _ (List.mem_singleton.2 rfl))
theorem mo_to {b N:Nat} {st0 st:Md.St} {N0:Nat} {S:List Nat} {ok:Nat→Prop} {e w':World} {d:D} {x:Value} (h:MoTo S e w' (pt b) st N) (hd:∀ ok',RD ok' w' d x):SomeR ok e [moT b N0 st0 S] (fun S':List Nat=>(d,[moT b N st S'])) (.returned x) w':=by
 obtain ⟨S',h1,h2,h3⟩:=h;refine ⟨S',x,rfl,by rw [foots_thing];exact h2,by rw [foots_thing,foots_thing];exact h3,List.pairwise_singleton _ _,fun r hr=>?_,hd _⟩;rw [List.mem_singleton.1 hr];exact (thing.holds mo_thing).2 h1
theorem mo_as {b N:Nat} {st:Md.St} {S:List Nat} {ok:Nat→Prop} {e w':World} {d:D} {x:Value} (h:Mo e (pt b) st N S) (k:Keeps [] e w') (hd:RD (okr ok e [moT b N st S] [moT b N st S]) w' d x):SomeR ok e [moT b N st S] (fun _:Unit=>(d,[moT b N st S])) (.returned x) w':=by
 refine ⟨(),x,rfl,by rw [foots_thing];exact k.mono (by simp),by rw [foots_thing];exact fun _ h=>.inl h,List.pairwise_singleton _ _,fun r hr=>?_,hd⟩;rw [List.mem_singleton.1 hr];exact (thing.holds mo_thing).2 (h.then k)
theorem m_new:Con Try.prog 15 [] [] (fun q:Nat × List Nat=>(.c (.v (pt q.1)),[moT q.1 0 Md.new q.2])):=⟨fun ok e xs hd _ _ _=>by
 rw [hd.nil_];refine (model_new e).mono ?_
 rintro en w' ⟨b,S,rfl,h1,h2,h3⟩
 refine ⟨(b,S),_,rfl,by simpa [foots] using h2,by rw [foots_thing];exact fun x hx=>.inr (h3 x hx),List.pairwise_singleton _ _,fun r hr=>?_,RD.v rfl⟩;rw [List.mem_singleton.1 hr];exact (thing.holds mo_thing).2 h1⟩
theorem m_side (o:Pn.Op) (i:Int):Pure Try.prog 42 [.agg (eOp o),.c (nI i)] (.tup [.agg (eSd ((Md.side o i).getD Md.noSide)),.c (bI (Md.side o i).isSome)]) :=
 Con.plain fun ok e xs hd=>by
  obtain ⟨va,U,ys,rfl,g,_,q1⟩:=hd.op;obtain ⟨zs,rfl,q2⟩:=q1.v;rw [q2.nil_];refine (model_sideOf e o va U i g).mono ?_
  rintro en w' ⟨rfl,k⟩
  exact ⟨_,rfl,k,tup2 (rd_sd _) (RD.v rfl)⟩
theorem m_waits (b N:Nat) (st:Md.St) (S:List Nat) (g:Int) (hg:wf64L g):Con Try.prog 11 [.c (.v (pt b)),.c (nI g)] [moT b N st S] (fun _:Unit=>(.c (bI (st.waits g).isSome),[moT b N st S])):=⟨fun ok e xs hd hr _ _=>by
 obtain ⟨ys,rfl,q1⟩:=hd.v;obtain ⟨zs,rfl,q2⟩:=q1.v;rw [q2.nil_];have hm:=mo_get hr;refine (model_waits e _ st N S g hm hg).mono ?_
 rintro en w' ⟨rfl,k⟩
 exact mo_as hm k (RD.v rfl)⟩
theorem m_no (b N:Nat) (st:Md.St) (S:List Nat) (g:Int) (o:Pn.Op):Con Try.prog 39 [.c (.v (pt b)),.c (nI g),.agg (eOp o)] [moT b N st S] (fun _:Unit=>(.c (bI (Md.no st g o)),[moT b N st S])):=⟨fun ok e xs hd hr _ _=>by
 obtain ⟨ys,rfl,q1⟩:=hd.v;obtain ⟨zs,rfl,q2⟩:=q1.v;obtain ⟨va,U,us,rfl,gv,_,q3⟩:=q2.op;rw [q3.nil_];have hm:=mo_get hr;refine (model_no e _ st N S g o va U hm gv).mono ?_
 rintro en w' ⟨rfl,k⟩
 exact mo_as hm k (RD.v rfl)⟩
theorem m_wait (b N:Nat) (st:Md.St) (S:List Nat) (g:Int) (o:Pn.Op) (hN:N≤100000) (hg:wf64L g) (ho:o.cases.length≤1000):Con Try.prog 17 [.c (.v (pt b)),.c (nI g),.agg (eOp o)] [moT b N st S] (fun S':List Nat=>(.c (bI (Md.wait st g o).2),[moT b (N + 1) (Md.wait st g o).1 S'])):=⟨fun ok e xs hd hr _ _=>by
 obtain ⟨ys,rfl,q1⟩:=hd.v;obtain ⟨zs,rfl,q2⟩:=q1.v;obtain ⟨va,U,us,rfl,gv,_,q3⟩:=q2.op;rw [q3.nil_];refine (model_wait e _ st N S g o va U (mo_get hr) gv hN hg ho).mono ?_
 rintro en w' ⟨rfl,k⟩
 exact mo_to k fun _=>RD.v rfl⟩
theorem m_fire (b N:Nat) (st:Md.St) (S:List Nat) (g:Int) (o:Pn.Op) (i:Int) (hN:N≤100000) (hg:wf64L g):Con Try.prog 40 [.c (.v (pt b)),.c (nI g),.agg (eOp o),.c (nI i)] [moT b N st S] (fun S':List Nat=>(.tup [.agg (eRes ((Md.fire st g o i).2.getD Md.noRes)),.c (bI (Md.fire st g o i).2.isSome)],[moT b (N + 1) (Md.fire st g o i).1 S'])):=⟨fun ok e xs hd hr _ _=>by
 obtain ⟨ys,rfl,q1⟩:=hd.v;obtain ⟨zs,rfl,q2⟩:=q1.v;obtain ⟨va,U,us,rfl,gv,_,q3⟩:=q2.op;obtain ⟨ts,rfl,q4⟩:=q3.v;rw [q4.nil_];refine (model_fire e _ st N S g o va U i (mo_get hr) gv hN hg).mono ?_
 rintro en w' ⟨rfl,k⟩
 exact mo_to k fun _=>tup2 (rd_res _) (RD.v rfl)⟩
theorem m_meet (b N:Nat) (st:Md.St) (S:List Nat) (g:Int) (o:Pn.Op) (i h':Int) (o2:Pn.Op) (k':Int) (hg:wf64L g) (hh:wf64L h'):Con Try.prog 43 [.c (.v (pt b)),.c (nI g),.agg (eOp o),.c (nI i),.c (nI h'),.agg (eOp o2),.c (nI k')] [moT b N st S] (fun S':List Nat=>(.tup [.c (nI ((Md.meet st g o i h' o2 k').2.getD 0)),.c (bI (Md.meet st g o i h' o2 k').2.isSome)],[moT b N (Md.meet st g o i h' o2 k').1 S'])):=⟨fun ok e xs hd hr _ _=>by
 obtain ⟨ys,rfl,q1⟩:=hd.v;obtain ⟨zs,rfl,q2⟩:=q1.v;obtain ⟨va,U,us,rfl,gv,_,q3⟩:=q2.op;obtain ⟨ts,rfl,q4⟩:=q3.v;obtain ⟨ps,rfl,q5⟩:=q4.v;obtain ⟨vb,V,qs,rfl,gw,_,q6⟩:=q5.op;obtain ⟨ns,rfl,q7⟩:=q6.v;rw [q7.nil_];refine (model_meet e _ st N S g o va U i h' o2 vb V k' (mo_get hr) gv gw hg hh).mono ?_
 rintro en w' ⟨rfl,k⟩
 exact mo_to k fun _=>tup2 (RD.v rfl) (RD.v rfl)⟩
theorem m_chans (b N:Nat) (st:Md.St) (S:List Nat) (hN:N≤100000) (hc:st.chans.length≤100000):Con Try.prog 10 [.c (.v (pt b))] [moT b N st S] (fun _:Unit=>(.c (.r 3 (st.chans.map eCh)),[moT b N st S])):=⟨fun ok e xs hd hr _ _=>by
 obtain ⟨ys,rfl,q1⟩:=hd.v;rw [q1.nil_];have hm:=mo_get hr;refine (model_chans2 e _ st N S hm hN hc).mono ?_
 rintro en w' ⟨v,S',rfl,gv,k,hs⟩
 refine mo_as hm k ?_;unfold RD;exact si_ch.ra gv fun x hx=>⟨.inr (.inr (hs x hx)),by rw [foots_thing];exact fun hm'=>by have:=hm.lt x hm';have:=hs x hx;omega⟩⟩
theorem mr_to {ok:Nat→Prop} {e w':World} {st:Md.St} {n:Nat} {v:Value} (h:RTo e st n ok v w'):∃ r:{ r:Mr.St // Mr.Rel st r∧r.waits.length≤n },Keeps [] e w'∧RD (fun g=>ok g∨e.heap.size≤g) w' (.agg (eMr r.1)) v:=by
 obtain ⟨r,h1,h2,vc,vw,S,rfl,h3,h4,h5,_⟩:=h;exact ⟨⟨r,h1,h2⟩,h4,rd_agg (of_mr h3 h5)⟩
theorem r_side (o:Pn.Op) (i:Int):Pure Try.prog 49 [.agg (eOp o),.c (nI i)] (.tup [.agg (eSc ((Md.side o i).getD Md.noSide)),.c (bI (Md.side o i).isSome)]) :=
 Con.plain fun ok e xs hd=>by
  obtain ⟨va,U,ys,rfl,g,_,q1⟩:=hd.op;obtain ⟨zs,rfl,q2⟩:=q1.v;rw [q2.nil_];refine (ref20_side e o va U i g).mono ?_
  rintro en w' ⟨rfl,k⟩
  exact ⟨_,rfl,k,tup2 (rd_sc _) (RD.v rfl)⟩
theorem r_made (r:Mr.St) (ch:Int):Pure Try.prog 50 [.agg (eMr r),.c (nI ch)] (.c (bI (Md.chan r.chans ch).isSome)) :=
 Con.plain fun ok e xs hd=>by
  obtain ⟨vc,vw,S,ys,rfl,g,_,q1⟩:=hd.mr;obtain ⟨zs,rfl,q2⟩:=q1.v;rw [q2.nil_];refine (ref20_made e vc vw r S ch g).mono ?_
  rintro en w' ⟨rfl,k⟩
  exact ⟨_,rfl,k,RD.v rfl⟩
theorem r_waits (st:Md.St) (r:Mr.St) (hr:Mr.Rel st r) (g:Int):Pure Try.prog 12 [.agg (eMr r),.c (nI g)] (.c (bI (st.waits g).isSome)) :=
 Con.plain fun ok e xs hd=>by
  obtain ⟨vc,vw,S,ys,rfl,gv,_,q1⟩:=hd.mr;obtain ⟨zs,rfl,q2⟩:=q1.v;rw [q2.nil_];refine (ref20_waits e vc vw st r S g gv hr).mono ?_
  rintro en w' ⟨rfl,k⟩
  exact ⟨_,rfl,k,RD.v rfl⟩
theorem r_no (st:Md.St) (r:Mr.St) (hr:Mr.Rel st r) (g:Int) (o:Pn.Op):Pure Try.prog 47 [.agg (eMr r),.c (nI g),.agg (eOp o)] (.c (bI (Md.no st g o))) :=
 Con.plain fun ok e xs hd=>by
  obtain ⟨vc,vw,S,ys,rfl,gv,_,q1⟩:=hd.mr;obtain ⟨zs,rfl,q2⟩:=q1.v;obtain ⟨va,U,us,rfl,go,_,q3⟩:=q2.op;rw [q3.nil_];refine (ref20_no e vc vw va st r S g o U gv hr go).mono ?_
  rintro en w' ⟨rfl,k⟩
  exact ⟨_,rfl,k,RD.v rfl⟩
theorem r_put (st:Md.St) (r:Mr.St) (hr:Mr.Rel st r) (g:Int) (o:Pn.Op) (n:Nat) (hn:r.waits.length≤n) (hb:n≤100000):Con Try.prog 46 [.agg (eMr r),.c (nI g),.agg (eOp o)] [] (fun q:{ q:Mr.St // Mr.Rel (Md.wait st g o).1 q∧q.waits.length≤n + 1 }=>(.tup [.agg (eMr q.1),.c (bI (Md.wait st g o).2)],[])) :=
 Con.plainI fun ok e xs hd=>by
  obtain ⟨vc,vw,S,ys,rfl,gv,h1,q1⟩:=hd.mr;obtain ⟨zs,rfl,q2⟩:=q1.v;obtain ⟨va,U,us,rfl,go,h2,q3⟩:=q2.op;rw [q3.nil_];refine (ref20_putWait e vc vw va st r S g o U gv hr go (by omega) ok h1 h2).mono ?_
  rintro en w' ⟨v,rfl,k⟩
  obtain ⟨⟨q,q1,q2⟩,k1,k2⟩:=mr_to k;exact ⟨⟨q,q1,by omega⟩,_,rfl,k1,tup2 k2 (RD.v rfl)⟩
theorem r_fire (st:Md.St) (r:Mr.St) (hr:Mr.Rel st r) (g:Int) (o:Pn.Op) (i:Int) (n:Nat) (hn:r.waits.length≤n) (hb:n≤100000) (hc:st.chans.length≤100000) (hl:∀ c∈st.chans,c.buf.length≤100000):Con Try.prog 67 [.agg (eMr r),.c (nI g),.agg (eOp o),.c (nI i)] [] (fun q:{ q:Mr.St // Mr.Rel (Md.fire st g o i).1 q∧q.waits.length≤n }=>(.tup [.agg (eMr q.1),.agg (eRes ((Md.fire st g o i).2.getD Md.noRes)),.c (bI (Md.fire st g o i).2.isSome)],[])) :=
 Con.plainI fun ok e xs hd=>by
  obtain ⟨vc,vw,S,ys,rfl,gv,h1,q1⟩:=hd.mr;obtain ⟨zs,rfl,q2⟩:=q1.v;obtain ⟨va,U,us,rfl,go,h2,q3⟩:=q2.op;obtain ⟨ts,rfl,q4⟩:=q3.v;rw [q4.nil_];have h3:=hr.1;refine (ref20_fire e vc vw va st r S g o U i gv hr go (by omega) (by rw [← h3];exact hc) (by rw [← h3];exact hl) ok h1).mono ?_
  rintro en w' ⟨v,rfl,k⟩
  obtain ⟨⟨q,q1,q2⟩,k1,k2⟩:=mr_to k;exact ⟨⟨q,q1,by omega⟩,_,rfl,k1,tup3 k2 (rd_res _) (RD.v rfl)⟩
theorem r_meet (st:Md.St) (r:Mr.St) (hr:Mr.Rel st r) (g:Int) (o:Pn.Op) (i h':Int) (o2:Pn.Op) (k':Int) (n:Nat) (hn:r.waits.length≤n) (hb:n≤100000):Con Try.prog 51 [.agg (eMr r),.c (nI g),.agg (eOp o),.c (nI i),.c (nI h'),.agg (eOp o2),.c (nI k')] [] (fun q:{ q:Mr.St // Mr.Rel (Md.meet st g o i h' o2 k').1 q∧q.waits.length≤n }=>(.tup [.agg (eMr q.1),.c (nI ((Md.meet st g o i h' o2 k').2.getD 0)),.c (bI (Md.meet st g o i h' o2 k').2.isSome)],[])) :=
 Con.plainI fun ok e xs hd=>by
  obtain ⟨vc,vw,S,ys,rfl,gv,h1,q1⟩:=hd.mr;obtain ⟨zs,rfl,q2⟩:=q1.v;obtain ⟨va,U,us,rfl,go,h2,q3⟩:=q2.op;obtain ⟨ts,rfl,q4⟩:=q3.v;obtain ⟨ps,rfl,q5⟩:=q4.v;obtain ⟨vb,V,qs,rfl,gw,h3,q6⟩:=q5.op;obtain ⟨ns,rfl,q7⟩:=q6.v;rw [q7.nil_];refine (ref20_meet e vc vw va vb st r S g o U i h' o2 V k' gv hr go gw (by omega) ok h1).mono ?_
  rintro en w' ⟨v,rfl,k⟩
  obtain ⟨⟨q,q1,q2⟩,k1,k2⟩:=mr_to k;exact ⟨⟨q,q1,by omega⟩,_,rfl,k1,tup3 k2 (RD.v rfl) (RD.v rfl)⟩
theorem r_same (l:List Md.Ch):Pure Try.prog 13 [.c (.r 3 (l.map eCh)),.c (.r 3 (l.map eCh))] (.c (bI true)) :=
 Con.plain fun ok e xs hd=>by
  obtain ⟨v,ys,rfl,r1,q1⟩:=hd.c;obtain ⟨u,zs,rfl,r2,q2⟩:=q1.c;rw [q2.nil_];obtain ⟨S,s1,_⟩:=is_ch.gv r1;obtain ⟨T,t1,_⟩:=is_ch.gv r2;refine (ref20_sameChans e v u l S T s1 t1).mono ?_
  rintro en w' ⟨rfl,k⟩
  exact ⟨_,rfl,k,RD.v rfl⟩
end Fl
namespace Jg
theorem find_yes {l:List Sx.Mk} {k:Nat} {m:Sx.Mk} {g op:Int} (h:l[k]?=some m) (e:isAt g op m=true):lastOf (l.take (k + 1)) g op=m∧cnt (l.take (k + 1)) g op=cnt (l.take k) g op + 1:=by
 unfold lastOf cnt;rw [List.take_add_one,h];simp [e]
theorem find_no {l:List Sx.Mk} {k:Nat} {m:Sx.Mk} {g op:Int} (h:l[k]?=some m) (e:isAt g op m=false):lastOf (l.take (k + 1)) g op=lastOf (l.take k) g op∧cnt (l.take (k + 1)) g op=cnt (l.take k) g op:=by
 unfold lastOf cnt;rw [List.take_add_one,h];simp [e]
theorem cnt_le (l:List Sx.Mk) (g op:Int):cnt l g op≤l.length:=List.length_filter_le _ _
theorem count_snoc {l:List Sx.Mk} {k:Nat} {m:Sx.Mk} {q:Sx.Mk→Bool} (h:l[k]?=some m):(l.take (k + 1)).countP q=(l.take k).countP q + if q m=true then 1 else 0:=by
 rw [List.take_add_one,h];simp [List.countP_append,List.countP_cons]
theorem ofG_snoc {l:List Sx.Mk} {k:Nat} {m:Sx.Mk} (g:Int) (h:l[k]?=some m):ofG (l.take (k + 1)) g=ofG (l.take k) g ++ if m.g=g then [m] else []:=by
 unfold ofG;rw [List.take_add_one,h,List.filter_append]
 congr 1
 by_cases e:m.g=g
 ·simp [e]
 ·simp [e]
def lastO (l:List Sx.Mk) (op:Int):Sx.Mk:=(l.filter (fun m=>m.op == op)).getLastD mk0
def seenL (l:List Sx.Mk) (n k:Nat):List Bool:=(List.range n).map fun (j:Nat)=>(l.take k).any fun m=>m.op == (j:Int)
def rowL (l:List Sx.Mk) (n k:Nat):List Sx.Mk:=(List.range n).map fun (j:Nat)=>lastO (l.take k) (j:Int)
theorem seenL_len (l:List Sx.Mk) (n k:Nat):(seenL l n k).length=n:=by simp [seenL]
theorem rowL_len (l:List Sx.Mk) (n k:Nat):(rowL l n k).length=n:=by simp [rowL]
theorem seenL_0 (l:List Sx.Mk) (n:Nat):seenL l n 0=List.replicate n false:=by
 unfold seenL;refine List.ext_getElem (by simp) fun i h1 h2=>by simp
theorem rowL_0 (l:List Sx.Mk) (n:Nat):rowL l n 0=List.replicate n mk0:=by
 unfold rowL;refine List.ext_getElem (by simp) fun i h1 h2=>by simp [lastO]
theorem seenL_set {l:List Sx.Mk} {n k:Nat} {m:Sx.Mk} (h:l[k]?=some m) (h0:0≤m.op):seenL l n (k + 1)=(seenL l n k).set m.op.toNat true:=by
 unfold seenL;refine List.ext_getElem (by simp) fun i h1 h2=>?_
 rw [List.getElem_set];simp only [List.getElem_map,List.getElem_range];rw [List.take_add_one,h]
 by_cases e:m.op.toNat=i
 ·rw [if_pos e];have:m.op=(i:Int):=by omega
  simp [this]
 ·rw [if_neg e];have:¬ m.op=(i:Int):=by omega
  simp [this]
theorem rowL_set {l:List Sx.Mk} {n k:Nat} {m:Sx.Mk} (h:l[k]?=some m) (h0:0≤m.op):rowL l n (k + 1)=(rowL l n k).set m.op.toNat m:=by
 unfold rowL lastO;refine List.ext_getElem (by simp) fun i h1 h2=>?_
 rw [List.getElem_set];simp only [List.getElem_map,List.getElem_range];rw [List.take_add_one,h]
 by_cases e:m.op.toNat=i
 ·rw [if_pos e];have:m.op=(i:Int):=by omega
  simp [this]
 ·rw [if_neg e];have:¬ m.op=(i:Int):=by omega
  simp [this]
def was (l:List Sx.Mk) (k:Nat) (op:Int):Bool:=(l.take k).any fun m=>m.op == op
theorem seenL_at {l:List Sx.Mk} {n k:Nat} {op:Int} (h0:0≤op) (h1:op < (n:Int)):(seenL l n k)[op.toNat]?=some (was l k op):=by
 unfold seenL was;rw [List.getElem?_eq_getElem (by simp;omega)];simp only [List.getElem_map,List.getElem_range];rw [show ((op.toNat:Nat):Int)=op by omega]
def okTo (l:List Sx.Mk) (k:Nat):Prop:=(∀ m∈l.take k,m.op < (l.length:Int))∧((l.take k).map (fun m=>m.op)).Nodup
theorem okTo_0 (l:List Sx.Mk):okTo l 0:=⟨by simp,by simp⟩
theorem okTo_snoc {l:List Sx.Mk} {k:Nat} {m:Sx.Mk} (h:l[k]?=some m) (h1:m.op < (l.length:Int)) (h2:was l k m.op=false) (hk:okTo l k):okTo l (k + 1):=by
 unfold okTo;unfold was at h2;rw [List.take_add_one,h];simp only [Option.toList_some,List.map_append,List.map_cons,List.map_nil];refine ⟨fun x hx=>?_,List.nodup_append.2 ⟨hk.2,by simp,fun a ha b hb=>?_⟩⟩
 ·rcases List.mem_append.1 hx with hx | hx
  ·exact hk.1 x hx
  ·rw [List.mem_singleton.1 hx];exact h1
 ·rw [List.mem_singleton.1 hb];obtain ⟨x,hx,rfl⟩:=List.mem_map.1 ha;have:=(List.any_eq_false.1 h2) x hx;simpa using this
theorem inRow_no {l:List Sx.Mk} (h:¬ Row l):inRow l=false:=by unfold inRow;simp only [decide_eq_false_iff_not];exact h
theorem inRow_yes {l:List Sx.Mk} (h:Row l):inRow l=true:=by unfold inRow;simp only [decide_eq_true_eq];exact h
theorem inRow_row {l:List Sx.Mk} (h:inRow l=true):Row l:=by unfold inRow at h;simpa only [decide_eq_true_eq] using h
theorem fits_is {p:List (List Pn.Op)} {l:List Sx.Mk} (h:¬ (Pn.right p=true∧l.length≤128∧(∀ m∈l,inP p m=true∧steps m=true)∧∀ g:Nat,g < p.length→Row (ofG l g))):fits p l=false:=by unfold fits;simp only [decide_eq_false_iff_not];exact h
theorem fits_yes {p:List (List Pn.Op)} {l:List Sx.Mk} (h:Pn.right p=true∧l.length≤128∧(∀ m∈l,inP p m=true∧steps m=true)∧∀ g:Nat,g < p.length→Row (ofG l g)):fits p l=true:=by unfold fits;simp only [decide_eq_true_eq];exact h
theorem row_big {l:List Sx.Mk} {k:Nat} {m:Sx.Mk} (h:l[k]?=some m) (h1:¬ m.op < (l.length:Int)):inRow l=false:=by
 refine inRow_no fun r=>h1 (r.1 m (List.mem_of_getElem? h))
theorem row_twice {l:List Sx.Mk} {k:Nat} {m:Sx.Mk} (h:l[k]?=some m) (h1:was l k m.op=true):inRow l=false:=by
 refine inRow_no fun r=>?_
 have hn:=r.2.1;rw [← List.take_append_drop k l,List.map_append] at hn;have hd:=(List.nodup_append.1 hn).2.2;unfold was at h1;obtain ⟨x,hx,e⟩:=List.any_eq_true.1 h1;have hm:m∈l.drop k:=by
  rw [List.mem_iff_getElem?];exact ⟨0,by rw [List.getElem?_drop];simpa using h⟩
 exact hd x.op (List.mem_map.2 ⟨x,hx,rfl⟩) m.op (List.mem_map.2 ⟨m,hm,rfl⟩) (by simpa using e)
theorem row_at {l:List Sx.Mk} (h0:∀ m∈l,0≤m.op) (hk:okTo l l.length) {j:Nat} (hj:j < l.length):∃ m,m∈l∧m.op=(j:Int)∧(rowL l l.length l.length)[j]?=some m:=by
 unfold okTo at hk;rw [List.take_length] at hk;have ha:=all_there (l:=l.map (fun m=>m.op)) (n:=l.length) (fun x hx=>by
  obtain ⟨y,hy,rfl⟩:=List.mem_map.1 hx;exact ⟨h0 y hy,hk.1 y hy⟩) hk.2 (by simp) hj
 obtain ⟨m,hm,e⟩:=List.mem_map.1 ha;refine ⟨m,hm,e,?_⟩;unfold rowL;rw [List.getElem?_eq_getElem (by simp;omega)];simp only [List.getElem_map,List.getElem_range,List.take_length];have hc:=nodup_cnt.1 hk.2 m hm;have:=filter_one hc hm (by simp);unfold lastO;rw [← e,this];rfl
def seqTo (R:List Sx.Mk) (i:Nat):Prop:=∀ j a b,j + 1 < i→R[j]?=some a→R[j + 1]?=some b→before a b=true
theorem row_all {l:List Sx.Mk} (h0:∀ m∈l,0≤m.op) (hk:okTo l l.length) (hs:seqTo (rowL l l.length l.length) l.length):inRow l=true:=by
 refine inRow_yes ?_;have hk':=hk;unfold okTo at hk';rw [List.take_length] at hk';refine ⟨hk'.1,hk'.2,fun a ha b hb e=>?_⟩;have e0:=h0 a ha;have e1:=hk'.1 b hb;obtain ⟨a',a1,a2,a3⟩:=row_at h0 hk (j:=a.op.toNat) (by omega);obtain ⟨b',b1,b2,b3⟩:=row_at h0 hk (j:=a.op.toNat + 1) (by omega);have inj:∀ x∈l,∀ y∈l,x.op=y.op→x=y:=fun x hx y hy q=>by
  have:=filter_one (nodup_cnt.1 hk'.2 x hx) hx (by simp);have hm:y∈l.filter (fun z=>z.op == x.op):=List.mem_filter.2 ⟨hy,by simp [q]⟩;rw [this] at hm;exact (List.mem_singleton.1 hm).symm
 rw [inj a ha a' a1 (by omega),inj b hb b' b1 (by omega)];exact hs a.op.toNat a' b' (by omega) a3 b3
theorem row_not {l:List Sx.Mk} (h0:∀ m∈l,0≤m.op) (hk:okTo l l.length) {j:Nat} {a b:Sx.Mk} (ha:(rowL l l.length l.length)[j]?=some a) (hb:(rowL l l.length l.length)[j + 1]?=some b) (h:before a b=false):inRow l=false:=by
 refine inRow_no fun r=>?_
 have hj:=(List.getElem?_eq_some_iff.1 hb).1;rw [rowL_len] at hj;obtain ⟨a',a1,a2,a3⟩:=row_at h0 hk (j:=j) (by omega);obtain ⟨b',b1,b2,b3⟩:=row_at h0 hk (j:=j + 1) hj;rw [a3] at ha;rw [b3] at hb;obtain rfl:=Option.some.inj ha;obtain rfl:=Option.some.inj hb;rw [r.2.2 a' a1 b' b1 (by omega)] at h
 cases h
theorem seqTo_1 (R:List Sx.Mk):seqTo R 1:=fun j a b hj=>by omega
theorem seqTo_snoc {R:List Sx.Mk} {i:Nat} {a b:Sx.Mk} (h:seqTo R (i + 1)) (ha:R[i]?=some a) (hb:R[i + 1]?=some b) (e:before a b=true):seqTo R (i + 2):=fun j x y hj hx hy=>by
 by_cases q:j=i
 ·subst q;rw [ha] at hx;rw [hb] at hy;obtain rfl:=Option.some.inj hx;obtain rfl:=Option.some.inj hy;exact e
 ·exact h j x y (by omega) hx hy
def fitTo (p:List (List Pn.Op)) (l:List Sx.Mk) (k:Nat):Prop:=∀ m∈l.take k,inP p m=true∧steps m=true
theorem fitTo_snoc {p:List (List Pn.Op)} {l:List Sx.Mk} {k:Nat} {m:Sx.Mk} (h:l[k]?=some m) (h1:inP p m=true) (h2:steps m=true) (hk:fitTo p l k):fitTo p l (k + 1):=by
 intro x hx;rw [List.take_add_one,h] at hx;rcases List.mem_append.1 hx with hx | hx
 ·exact hk x hx
 ·have:x=m:=by simpa using hx
  rw [this];exact ⟨h1,h2⟩
theorem fits_bad {p:List (List Pn.Op)} {l:List Sx.Mk} {k:Nat} {m:Sx.Mk} (h:l[k]?=some m) (h1:(inP p m && steps m)=false):fits p l=false:=by
 refine fits_is (fun r=>?_);have:=r.2.2.1 m (List.mem_of_getElem? h);rw [this.1,this.2] at h1
 cases h1
theorem fits_row {p:List (List Pn.Op)} {l:List Sx.Mk} {g:Nat} (hg:g < p.length) (h:inRow (ofG l g)=false):fits p l=false:=by
 refine fits_is (fun r=>?_);rw [inRow_yes (r.2.2.2 g hg)] at h;cases h
theorem fits_all {p:List (List Pn.Op)} {l:List Sx.Mk} (h1:Pn.right p=true) (h2:l.length≤128) (h3:fitTo p l l.length) (h4:∀ g,g < p.length→inRow (ofG l (g:Nat))=true):fits p l=true:=by
 refine fits_yes ⟨h1,h2,fun m hm=>h3 m (by rw [List.take_length];exact hm),fun g hg=>?_⟩;exact inRow_row (h4 g hg)
theorem fits_no {p:List (List Pn.Op)} {l:List Sx.Mk} (h:Pn.right p=false∨128 < l.length):fits p l=false:=by
 refine fits_is (fun r=>?_);rcases h with h | h
 ·rw [r.1] at h;cases h
 ·have:=r.2.1;omega
theorem fits_goods {p:List (List Pn.Op)} {l:List Sx.Mk} (h1:Pn.right p=true) (h2:l.length≤128) (h:∀ m∈l,good1 p l m=true):fits p l=true:=by
 rw [fits_doc,h1,decide_eq_true h2,List.all_eq_true.2 h];rfl
theorem fits_ungood {p:List (List Pn.Op)} {l:List Sx.Mk} {k:Nat} {m:Sx.Mk} (h:l[k]?=some m) (h1:good1 p l m=false):fits p l=false:=by
 rw [fits_doc];have:l.all (good1 p l)=false:=List.all_eq_false.2 ⟨m,List.mem_of_getElem? h,by simp [h1]⟩;rw [this,Bool.and_false]
theorem foldl_snoc {α β:Type} {f:β→α→β} {z:β} {l:List α} {k:Nat} {m:α} (h:l[k]?=some m):(l.take (k + 1)).foldl f z=f ((l.take k).foldl f z) m:=by
 rw [List.take_add_one,h,List.foldl_append];rfl
end Jg
open Go.RowKit
namespace Fl
set_option maxRecDepth 100000
set_option maxHeartbeats 4000000
section
variable {P:Program} {c:Cx} {f:Fm} {L:List Res} {T:TypeId} {ps:String} {af:Array Edge} {gd:Option (Nat × Bool)} {t:Nat} {F:FuncId}
theorem Con.onRow {v:Value} {e sz:Nat} {ll:List (List A)} {y:Value} (h:Pure P F [.c (.r sz ll)] (.c (.v y))):Con P F [.c (.v v)] [.row v e sz ll] (fun _:Unit=>(.c (.v y),[.row v e sz ll])):=⟨fun ok w xs hd hr ha ho=>by
 obtain ⟨ys,rfl,q⟩:=hd.v;rw [q.nil_];have hw:=hr _ (List.mem_singleton.2 rfl);have hw2:=hw;obtain ⟨zs,r1,r2⟩:=hw2;have rv:RA (fun _=>True) w (.r sz ll) v:=RA.of_view r1.view (RX.mon ⟨Nat.le_refl _,fun g _ _=>⟨trivial,rfl⟩⟩ _ _ r2) (fun g hg=>trivial);refine Calls.mono (h.go (fun _=>True) w [v] (RDs.cons (by unfold RD;exact rv) RDs.nil) (by simp) List.Pairwise.nil (by simp [foots])) ?_
 rintro en w' ⟨_,x,rfl,kp,g1,g2,g3,g4⟩
 have kp':Keeps [] w w':=by simpa [foots] using kp
 refine ⟨(),x,rfl,kp'.mono (by simp),fun y hy=>.inl hy,List.pairwise_singleton _ _,fun r hr'=>?_,?_⟩
 ·rw [List.mem_singleton.1 hr'];exact hw.mon kp' (Mon.of_keeps kp' fun g hg hok=>⟨⟨.inl hok,fun hx=>ho g hx hok⟩,by simp⟩) (by simp)
 ·unfold RD RA at g4 ⊢;exact g4⟩
theorem Qt.eqT {x y:Operand} {X Y:Nat} {b:Bool} (zs us:List Value) (h:evD f x=some (.agg (vs zs))) (hy:evD f y=some (.agg (vs us))) (hr:∀ w,(binOp .eql X (.agg zs.toArray) (.agg us.toArray)).run P w=.ok (.bool b) w) (hg:P.eqGuardType P.depth X=false):Qt P c [] ⟨t,.binOp .eql X x y Y,T,ps,af,gd⟩ f L (.c (.v (.bool b))):=⟨fun a w s=>by
 have rx:=s.ev h;have ry:=s.ev hy;unfold RD at rx ry;obtain ⟨v1,e1,r1⟩:=rx;obtain ⟨v2,e2,r2⟩:=ry;rw [rc_vsT r1] at e1;rw [rc_vsT r2] at e2;refine ⟨.bool b,by unfold RD RA;exact ⟨rfl,rfl⟩,fun w' k=>?_⟩;simp [execOp,e1,e2,hr,Sem.run_bind,run_eqGuard_agg _ _ _ _ _ _ _ hg]⟩
end
theorem eqRsJ_fields:Try.prog.underlying 50=some (.struct (Try.prog.fieldsOf 50)):=by kernel_rfl
theorem eqRsJ_held:Try.prog.stoodInHeld 50=false:=by kernel_rfl
theorem eqRsJ_guard:Try.prog.eqGuardType Try.prog.depth 50=false:=by kernel_rfl
theorem eqRsJ_flds:∃ f0 f1 f2 f3 f4:Field,(Try.prog.fieldsOf 50).toList=[f0,f1,f2,f3,f4]∧(f0.name≠"_"∧f1.name≠"_"∧f2.name≠"_"∧f3.name≠"_"∧f4.name≠"_")∧(f0.type=3∧f1.type=3∧f2.type=2∧f3.type=4∧f4.type=3)∧f0.offset=0∧f1.offset=1∧f2.offset=2∧f3.offset=3∧f4.offset=4:=by
 unfold Program.fieldsOf;rw [Try.underlying50];exact ⟨_,_,_,_,_,rfl,⟨by decide,by decide,by decide,by decide,by decide⟩,⟨rfl,rfl,rfl,rfl,rfl⟩,rfl,rfl,rfl,rfl,rfl⟩
theorem run_eq_RsJ (w:World) (a b:Md.Res):(binOp .eql 50 (.agg #[.int .i64 a.code,.int .i64 a.cs,.int .i64 a.v,.bool a.ok,.int .i64 a.n]) (.agg #[.int .i64 b.code,.int .i64 b.cs,.int .i64 b.v,.bool b.ok,.int .i64 b.n])).run Try.prog w=.ok (.bool (Jg.resEq a b)) w:=by
 obtain ⟨f0,f1,f2,f3,f4,hf,⟨n0,n1,n2,n3,n4⟩,⟨t0,t1,t2,t3,t4⟩,o0,o1,o2,o3,o4⟩:=eqRsJ_flds;rw [run_eql_struct,run_equalIn_struct _ _ _ _ _ eqRsJ_fields eqRsJ_held,hf];have hi:=Try.underlying3;have hi2:=Try.underlying2;have hb:=Try.underlying4;unfold Jg.resEq
 by_cases c0:a.code=b.code
 ·by_cases c1:a.cs=b.cs
  ·by_cases c2:a.v=b.v
   ·by_cases c3:a.ok=b.ok
    ·by_cases c4:a.n=b.n
     ·simp [Op.eqFields,n0,n1,n2,n3,n4,t0,t1,t2,t3,t4,o0,o1,o2,o3,o4,go_sem,hi,hi2,hb,c0,c1,c2,c3,c4]
     ·simp [Op.eqFields,n0,n1,n2,n3,n4,t0,t1,t2,t3,t4,o0,o1,o2,o3,o4,go_sem,hi,hi2,hb,c0,c1,c2,c3,c4]
    ·simp [Op.eqFields,n0,n1,n2,n3,n4,t0,t1,t2,t3,t4,o0,o1,o2,o3,o4,go_sem,hi,hi2,hb,c0,c1,c2,c3]
   ·simp [Op.eqFields,n0,n1,n2,n3,n4,t0,t1,t2,t3,t4,o0,o1,o2,o3,o4,go_sem,hi,hi2,hb,c0,c1,c2]
  ·simp [Op.eqFields,n0,n1,n2,n3,n4,t0,t1,t2,t3,t4,o0,o1,o2,o3,o4,go_sem,hi,hi2,hb,c0,c1]
 ·simp [Op.eqFields,n0,n1,n2,n3,n4,t0,t1,t2,t3,t4,o0,o1,o2,o3,o4,go_sem,hi,hi2,hb,c0]
def rsV (a:Md.Res):List Value:=[.int .i64 a.code,.int .i64 a.cs,.int .i64 a.v,.bool a.ok,.int .i64 a.n]
theorem t_agrees (m:Sx.Mk) (r:Md.Res):Pure Try.prog 41 [.agg (eM m),.agg (eRes r)] (.c (bI (Jg.agr m r))):=by
 refine Con.intro Try.func41 rfl rfl rfl (fun ok e=>?_);have ev:Jg.agr m r=((decide (m.re=0) && decide (m.res.code=0)) || Jg.resEq m.res r):=rfl;have b1:decide (m.re=0)=(m.re == 0):=rfl;have b2:decide (m.res.code=0)=(m.res.code == 0):=rfl;rw [ev,b1,b2]
 cases t1:(m.re == 0) <;> cases t2:(m.res.code == 0)
 all_goals
  repeat (first | (refine K.binOp ?_;refine jq rfl rfl rfl (Qt.eqT (rsV m.res) (rsV r) rfl rfl (fun w=>run_eq_RsJ w m.res r) eqRsJ_guard) ?_) | refine gmQ ?_ | intro _)
  exact rtQ Try.func41
theorem t_refAgrees (m:Sx.Mk) (r:Md.Res):Pure Try.prog 52 [.agg (eM m),.agg (eRes r)] (.c (bI (Jg.agr m r))):=by
 refine Con.intro Try.func52 rfl rfl rfl (fun ok e=>?_);have ev:Jg.agr m r=((decide (m.re=0) && decide (m.res.code=0)) || Jg.resEq m.res r):=rfl;have b1:decide (m.re=0)=(m.re == 0):=rfl;have b2:decide (m.res.code=0)=(m.res.code == 0):=rfl;rw [ev,b1,b2]
 cases t1:(m.re == 0) <;> cases t2:(m.res.code == 0)
 all_goals
  repeat (first | (refine K.binOp ?_;refine jq rfl rfl rfl (Qt.eqT (rsV m.res) (rsV r) rfl rfl (fun w=>run_eq_RsJ w m.res r) eqRsJ_guard) ?_) | refine gmQ ?_ | intro _)
  exact rtQ Try.func52
theorem t_cut (c n:Int):Pure Try.prog 45 [.c (nI c),.c (nI n)] (.c (nI (Jg.cut c n))):=by
 refine Con.intro Try.func45 rfl rfl rfl (fun ok e=>?_);have ev:Jg.cut c n=if decide (c > n)=true then 0 else c:=by unfold Jg.cut;simp
 rw [ev]
 cases t1:decide (c > n)
 all_goals
  repeat (refine gn ?_)
  exact rtQ Try.func45
theorem t_find (l:List Sx.Mk) (g op:Int) (hs:l.length≤400):Pure Try.prog 29 [.c (.r 13 (l.map eM)),.c (nI g),.c (nI op)] (.tup [.agg (eM (Jg.lastOf l g op)),.c (nI (Jg.cnt l g op))]):=by
 refine Con.intro Try.func29 rfl rfl rfl (fun ok e=>?_)
 repeat (first | (refine K.store ?_;refine JO.ld (Ld.storeW rfl rfl rfl (by exact rfl) (by exact rfl)) rfl (fun _=>?_)) | refine gmQ ?_ | intro _)
 rename_i b6 b8 _;refine J.loop (ι:={ k:Nat // k≤l.length }) (fun q=>[(15,.c (nI q.1)),(14,.c (nI l.length)),(13,.c (.r 13 (l.map eM))),(9,.c (nI (Jg.cnt (l.take q.1) g op))),(8,.c (.v (.pointer (some ⟨b8,0,none⟩)))),(6,.c (.v (.pointer (some ⟨b6,0,none⟩)))),(2,.c (nI op)),(1,.c (nI g))]) (fun q=>[.box b8 52 (eM (Jg.lastOf (l.take q.1) g op)),.box b6 52 (eM Jg.mk0)]) (fun q=>l.length - q.1) ⟨0,Nat.zero_le _⟩ (fun X h=>h.weak ⟨rfl,rfl,rfl,rfl,rfl,rfl,rfl,rfl,trivial⟩) (fun q ih=>?_);obtain ⟨k,hk'⟩:=q;simp only at hk' ih ⊢
 by_cases hk:k < l.length
 ·have t1:decide ((k:Int) < (l.length:Int))=true:=decide_eq_true (by omega);obtain ⟨m,hm⟩:∃ m,l[k]?=some m:=⟨_,List.getElem?_eq_getElem hk⟩
  have AX:=s_at (enc:=eM) hm;have hc:=Jg.cnt_le (l.take k) g op;have ft:=List.length_take_le k l;have ih1:=ih ⟨k + 1,by omega⟩ (by simp only;omega);clear ih;simp only at ih1;have ev:Jg.isAt g op m=((m.g == g) && (m.op == op)):=rfl
  cases t2:(m.g == g) <;> cases t3:(m.op == op)
  case true.true =>
   obtain ⟨f1,f2⟩:=Jg.find_yes hm (by rw [ev,t2,t3];rfl);rw [f1,f2] at ih1;generalize Jg.cnt (l.take k) g op=n at hc ih1 ⊢
   repeat (first | (refine K.store ?_;refine JO.ld (Ld.storeW rfl rfl rfl (by exact rfl) (by exact rfl)) rfl (fun _=>?_)) | refine gmQ ?_ | intro _)
   refine J.dropN 0 ?_;exact ih1.weak ⟨rfl,rfl,rfl,rfl,rfl,rfl,rfl,rfl,trivial⟩
  all_goals
   obtain ⟨f1,f2⟩:=Jg.find_no hm (by rw [ev,t2,t3];rfl);rw [f1,f2] at ih1
   repeat (first | (refine K.store ?_;refine JO.ld (Ld.storeW rfl rfl rfl (by exact rfl) (by exact rfl)) rfl (fun _=>?_)) | refine gmQ ?_ | intro _)
   refine J.dropN 0 ?_;exact ih1.weak ⟨rfl,rfl,rfl,rfl,rfl,rfl,rfl,rfl,trivial⟩
 ·obtain rfl:k=l.length:=by omega
  have t1:decide ((l.length:Int) < (l.length:Int))=false:=decide_eq_false (by omega);rw [List.take_length]
  repeat (first | (refine K.store ?_;refine JO.ld (Ld.storeW rfl rfl rfl (by exact rfl) (by exact rfl)) rfl (fun _=>?_)) | refine gn ?_)
  exact rtQ Try.func29
end Fl
open Go.RowKit
namespace Fl
set_option maxRecDepth 100000
set_option maxHeartbeats 4000000
theorem before_is (a b:Sx.Mk):((a.re != 0) && decide (a.re < b.call))=Jg.before a b:=by
 unfold Jg.before
 by_cases h:a.re=0
 ·simp [h]
 ·simp [h]
theorem t_inRow (l:List Sx.Mk) (hs:l.length≤400) (h0:∀ m∈l,0≤m.op):Pure Try.prog 26 [.c (.r 13 (l.map eM))] (.c (bI (Jg.inRow l))):=by
 refine Con.intro Try.func26 rfl rfl rfl (fun ok e=>?_)
 repeat (first | (refine K.make ?_;refine JO.ld (Ld.make (l.length) (qb rfl) rfl rfl (by (rfl)) (by omega)) rfl (fun _=>?_)) | refine gn ?_)
 rename_i b3 b4;refine J.loop (ι:={ k:Nat // k≤l.length∧Jg.okTo l k }) (fun q=>[(16,.c (nI q.1)),(15,.c (nI l.length)),(14,.c (.r 13 (l.map eM))),(4,.c (.v (.slice (some ⟨b4,0,none⟩) l.length l.length))),(3,.c (.v (.slice (some ⟨b3,0,none⟩) l.length l.length))),(0,.c (.r 13 (l.map eM)))])
  (fun q=>[.row (.slice (some ⟨b4,0,none⟩) l.length l.length) 4 1 ((Jg.seenL l l.length q.1).map fun b=>[bI b]),.row (.slice (some ⟨b3,0,none⟩) l.length l.length) 52 13 ((Jg.rowL l l.length q.1).map eM)]) (fun q=>l.length - q.1) ⟨0,Nat.zero_le _,Jg.okTo_0 l⟩
  (fun X h=>J.congL (by rw [Jg.seenL_0,Jg.rowL_0,List.map_replicate,List.map_replicate];rfl) (h.weak ⟨rfl,rfl,rfl,rfl,rfl,rfl,trivial⟩)) (fun q ih=>?_)
 obtain ⟨k,hk',hok⟩:=q;simp only at hk' ih ⊢
 by_cases hk:k < l.length
 ·have t1:decide ((k:Int) < (l.length:Int))=true:=decide_eq_true (by omega);obtain ⟨m,hm⟩:∃ m,l[k]?=some m:=⟨_,List.getElem?_eq_getElem hk⟩
  have AX:=s_at (enc:=eM) hm;have i0:=h0 m (List.mem_of_getElem? hm)
  by_cases hb:m.op < (l.length:Int)
  ·have t2:decide (m.op ≥ (l.length:Int))=false:=decide_eq_false (by omega);have e1:((Jg.seenL l l.length k).map fun b=>[bI b]).length=l.length:=by rw [List.length_map,Jg.seenL_len]
   have e2:((Jg.rowL l l.length k).map eM).length=l.length:=by rw [List.length_map,Jg.rowL_len]
   have i1:m.op < (((Jg.seenL l l.length k).map fun b=>[bI b]).length:Int):=by rw [e1];exact hb
   have j1:m.op < (((Jg.rowL l l.length k).map eM).length:Int):=by rw [e2];exact hb
   have q1:m.op.toNat < ((Jg.rowL l l.length k).map eM).length:=by omega
   have SA:((Jg.seenL l l.length k).map fun b=>[bI b])[m.op.toNat]?=some [bI (Jg.was l k m.op)]:=by
    rw [List.getElem?_map,Jg.seenL_at i0 hb];rfl
   cases hw:Jg.was l k m.op
   ·rw [hw] at SA;have ih1:=ih ⟨k + 1,by omega,Jg.okTo_snoc hm hb hw hok⟩ (by simp only;omega);clear ih;simp only at ih1;have g1:(Jg.seenL l l.length (k + 1)).map (fun b=>[bI b])=((Jg.seenL l l.length k).map fun b=>[bI b]).set m.op.toNat [bI true]:=by rw [Jg.seenL_set hm i0,List.map_set]
    have g2:(Jg.rowL l l.length (k + 1)).map eM=((Jg.rowL l l.length k).map eM).set m.op.toNat (eM m):=by rw [Jg.rowL_set hm i0,List.map_set]
    rw [g1,g2] at ih1;generalize (Jg.seenL l l.length k).map (fun b=>[bI b])=S at i1 SA ih1 e1 ⊢;generalize (Jg.rowL l l.length k).map eM=R at j1 q1 ih1 e2 ⊢
    repeat (first | (refine K.load ?_;((refine jq rfl rfl rfl (Qt.load1o rfl (SA) (by exact rfl)) ?_))) | (refine K.store ?_;first | refine JO.ld (Ld.storeO1 rfl rfl (by exact rfl) (SA)) rfl (fun _=>?_) | refine JO.ld (Ld.storeOW rfl rfl rfl (by exact rfl) (by exact q1)) rfl (fun _=>?_) | refine JO.ld (Ld.storeW rfl rfl rfl (by exact rfl) (by exact rfl)) rfl (fun _=>?_)) | (refine K.indexAddr ?_;first | refine jq rfl rfl rfl (Qt.indexO rfl rfl i0 i1) ?_ | refine jq rfl rfl rfl (Qt.indexO rfl rfl i0 j1) ?_) | refine gmQ ?_ | intro _)
    refine J.dropN 0 ?_;exact ih1.weak ⟨rfl,rfl,rfl,rfl,rfl,rfl,trivial⟩
   ·rw [hw] at SA;rw [Jg.row_twice hm hw]
    repeat (first | (refine K.load ?_;((refine jq rfl rfl rfl (Qt.load1o rfl (SA) (by exact rfl)) ?_))) | (refine K.store ?_;refine JO.ld (Ld.storeW rfl rfl rfl (by exact rfl) (by exact rfl)) rfl (fun _=>?_)) | (refine K.indexAddr ?_;refine jq rfl rfl rfl (Qt.indexO rfl rfl i0 i1) ?_) | refine gmQ ?_ | intro _)
    exact rtQ Try.func26
  ·have t2:decide (m.op ≥ (l.length:Int))=true:=decide_eq_true (by omega);rw [Jg.row_big hm hb]
   repeat (first | (refine K.store ?_;refine JO.ld (Ld.storeW rfl rfl rfl (by exact rfl) (by exact rfl)) rfl (fun _=>?_)) | refine gmQ ?_ | intro _)
   exact rtQ Try.func26
 ·obtain rfl:k=l.length:=by omega
  have t1:decide ((l.length:Int) < (l.length:Int))=false:=decide_eq_false (by omega);clear ih hk hk'
  repeat (refine gn ?_)
  refine J.dropN 0 ?_;refine J.loop (ι:={ i:Nat // i≤l.length + 1∧1≤i∧Jg.seqTo (Jg.rowL l l.length l.length) i }) (fun q=>[(7,.c (nI q.1)),(3,.c (.v (.slice (some ⟨b3,0,none⟩) l.length l.length)))])
   (fun q=>[.row (.slice (some ⟨b3,0,none⟩) l.length l.length) 52 13 ((Jg.rowL l l.length l.length).map eM)]) (fun q=>l.length + 1 - q.1) ⟨1,by omega,Nat.le_refl _,Jg.seqTo_1 _⟩
   (fun X h=>h.weak ⟨rfl,rfl,trivial⟩) (fun q ih=>?_)
  obtain ⟨i,hi',hi1,hq⟩:=q;simp only at hi' ih ⊢;have e2:(((Jg.rowL l l.length l.length).map eM).length:Int)=(l.length:Int):=by rw [List.length_map,Jg.rowL_len]
  by_cases hi:i < l.length
  ·have t2:decide ((i:Int) < (l.length:Int))=true:=decide_eq_true (by omega);obtain ⟨a,a1,a2,ha⟩:=Jg.row_at h0 hok (j:=i - 1) (by omega);obtain ⟨b,b1,b2,hb⟩:=Jg.row_at h0 hok (j:=i) hi;have z0:(0:Int)≤((i - 1:Nat):Int):=by omega
   have z1:(0:Int)≤(i:Int):=by omega
   have c0:((i - 1:Nat):Int) < (((Jg.rowL l l.length l.length).map eM).length:Int):=by omega
   have c1:(i:Int) < (((Jg.rowL l l.length l.length).map eM).length:Int):=by omega
   have A1:=s_at (enc:=eM) ha;have B1:=s_at (enc:=eM) hb;have w1:IntKind.i64.wrap ((i:Int) - 1)=((i - 1:Nat):Int):=by rw [w64 (by omega) (by omega)];omega
   have TB:=t_before a b;rw [before_is] at TB;have hb':(Jg.rowL l l.length l.length)[i - 1 + 1]?=some b:=by rw [show i - 1 + 1=i by omega];exact hb
   generalize hR:(Jg.rowL l l.length l.length).map eM=R at c0 c1 A1 B1 ih ⊢
   cases hbf:Jg.before a b
   ·rw [hbf] at TB;rw [Jg.row_not h0 hok ha hb' hbf]
    repeat (refine gn ?_)
    refine J.draw (by kernel_rfl) rfl ?_;refine JW.base none ?_;refine tk 0 ?_;refine tk 1 ?_;refine JD.take 2 rfl rfl (by kernel_rfl) rfl (qb rfl) (Qt.ari rfl rfl rfl w1) rfl ?_;refine JD.take 3 rfl rfl (by kernel_rfl) rfl (qb rfl) (Qt.indexO rfl rfl z0 c0) rfl ?_;refine JD.take 4 rfl rfl (by kernel_rfl) rfl (qb rfl) (Qt.loadWo rfl A1 rfl) rfl ?_;refine tk 5 ?_;refine tk 6 ?_;refine JD.take 7 rfl rfl (by kernel_rfl) rfl (qb rfl) (Qt.indexO rfl rfl z1 c1) rfl ?_;refine JD.take 8 rfl rfl (by kernel_rfl) rfl (qb rfl) (Qt.loadWo rfl B1 rfl) rfl ?_;refine jl 9 rfl rfl rfl rfl (Ld.pure (TB) (qb rfl) rfl (by repeat (first | exact LeDs.nil | refine LeDs.cons (LeD.agg (by repeat (first | exact .nil | refine .cons .refl ?_))) ?_))) .none (fun _=>?_);refine jk 10 rfl rfl rfl rfl (Qt.not rfl) ?_;refine dnQ ?_
    repeat (refine gn ?_)
    exact rtQ Try.func26
   ·rw [hbf] at TB;have hq2:=Jg.seqTo_snoc (i:=i - 1) (by rw [show i - 1 + 1=i by omega];exact hq) ha hb' hbf;have ih1:=ih ⟨i + 1,by omega,by omega,by rw [show i - 1 + 2=i + 1 by omega] at hq2;exact hq2⟩ (by simp only;omega);clear ih;simp only at ih1
    repeat (refine gn ?_)
    refine J.draw (by kernel_rfl) rfl ?_;refine JW.base none ?_;refine tk 0 ?_;refine tk 1 ?_;refine JD.take 2 rfl rfl (by kernel_rfl) rfl (qb rfl) (Qt.ari rfl rfl rfl w1) rfl ?_;refine JD.take 3 rfl rfl (by kernel_rfl) rfl (qb rfl) (Qt.indexO rfl rfl z0 c0) rfl ?_;refine JD.take 4 rfl rfl (by kernel_rfl) rfl (qb rfl) (Qt.loadWo rfl A1 rfl) rfl ?_;refine tk 5 ?_;refine tk 6 ?_;refine JD.take 7 rfl rfl (by kernel_rfl) rfl (qb rfl) (Qt.indexO rfl rfl z1 c1) rfl ?_;refine JD.take 8 rfl rfl (by kernel_rfl) rfl (qb rfl) (Qt.loadWo rfl B1 rfl) rfl ?_;refine jl 9 rfl rfl rfl rfl (Ld.pure (TB) (qb rfl) rfl (by repeat (first | exact LeDs.nil | refine LeDs.cons (LeD.agg (by repeat (first | exact .nil | refine .cons .refl ?_))) ?_))) .none (fun _=>?_);refine jk 10 rfl rfl rfl rfl (Qt.not rfl) ?_;refine dnQ ?_
    repeat (refine gn ?_)
    exact ih1.weak ⟨rfl,rfl,trivial⟩
  ·have t2:decide ((i:Int) < (l.length:Int))=false:=decide_eq_false (by omega);rw [Jg.row_all h0 hok (fun j a b hj ha hb=>hq j a b (by omega) ha hb)]
   repeat (refine gn ?_)
   exact rtQ Try.func26
end Fl
end Go.Proofs.Ytdibmkjoaghafaa
