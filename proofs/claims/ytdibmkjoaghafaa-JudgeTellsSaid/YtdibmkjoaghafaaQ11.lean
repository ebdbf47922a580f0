/-
  What the laws need, part Q11.
  Conditions: none.
-/
import Derived.Test.YtdibmkjoaghafaaQ10
import Derived.Deep.DrawnRows
set_option linter.unusedVariables false
set_option linter.unusedSimpArgs false
set_option linter.unnecessarySimpa false
set_option maxHeartbeats 2000000
namespace Go.Proofs.Ytdibmkjoaghafaa
open Go.RowKit
def optV (r:Option Md.Res):Value:=.tuple #[.agg (resV (r.getD Md.noRes)),.bool r.isSome]
def DoPost (S:List Nat) (w:World) (p:Value) (st:Md.St) (N:Nat) (r:Option Md.Res) (e:Ending) (w':World):Prop:=e=.returned (optV r)∧MoTo S w w' p st N
theorem do_some {S:List Nat} {w w':World} {p:Value} {st st':Md.St} {N:Nat} {r:Option Md.Res} (r':Md.Res) (hr:r=some r') (hs:st=st') (h:MoTo S w w' p st' N):DoPost S w p st N r (.returned (.tuple #[.agg #[.int .i64 r'.code,.int .i64 r'.cs,.int .i64 r'.v,.bool r'.ok,.int .i64 r'.n],.bool true])) w':=by
 subst hr hs;exact ⟨rfl,h⟩
theorem do_none {S:List Nat} {w w':World} {p:Value} {st st':Md.St} {N:Nat} {r:Option Md.Res} (hr:r=none) (hs:st=st') (h:MoTo S w w' p st' N):DoPost S w p st N r (.returned (.tuple #[.agg #[.int .i64 0,.int .i64 0,.int .i64 0,.bool false,.int .i64 0],.bool false])) w':=by
 subst hr hs;exact ⟨rfl,h⟩
theorem MoAt.more1 {w:World} {b bm:Nat} {vc:Value} {st:Md.St} {N:Nat} {S T SW:List Nat} {Us:List (List Nat)} {f:Int→Option Value} {col:Nat→Nat} (h:MoAt w b bm vc st N S T Us SW f col):MoAt w b bm vc st (N + 1) S T Us SW f col :=
 ⟨h.blk,h.chans.mono (Nat.le_succ N),h.map.mono (Nat.le_succ N),h.wm,h.cb,h.cm,h.cw,h.sb,h.sm,h.st,h.su,h.sw,h.lt⟩
theorem free_keep {S:List Nat} {w w':World} {g j:Nat} (k:Keeps S w w') (hf:w.frozen? ⟨g,j,none⟩=false) (hg:g < w.heap.size) (hn:g∉S):w'.frozen? ⟨g,j,none⟩=false:=by
 have:=k.block g hg hn;simp only [World.frozen?] at hf ⊢;rw [this];exact hf
theorem row_cap {w:World} {ao:Option Addr} {n cap:Nat} {l:List Int} {e:TypeId} {q:IntKind} {V:List Nat} (h:KR q w (.slice ao n cap) e l V):l.length≤cap∧cap≤maxLen:=by
 obtain ⟨_,ao',cap',e1,h1,h2,_⟩:=h
 cases e1;exact ⟨h1,h2⟩
section
variable {P:Program} {t e:TypeId} {bytes:Nat} {z:Value} {k:IntKind}
theorem step_appi (E:Elem P t e 1 bytes z) {w:World} {ops:Array Oper} {o:Oper} {a:Act} {K:Act→World→Prop} {Q:Exit→Act→World→Prop} {F:Prop} {s x:Operand}
  {v:Value} {l:List Int} {n:Int} {bx:Nat} {S:List Nat} (h:KR k w v e l S) (hb:(l.length + 1) * bytes≤140737488355328)
  (hK:∀ ao cap w' S',KR k w' (.slice ao (l.length + 1) cap) e (l ++ [n]) S'→Keeps S w w'→(∀ k∈S',k∈S∨w.heap.size≤k)→K (a.put o.dst (.slice ao (l.length + 1) cap)) w')
  (hg:o.guard=none:=by rfl) (hop:o.op=Op.call { callee:=Callee.builtin Builtin.append,args:=#[s,x],argTypes:=#[t,t] }:=by rfl) (hs:a.eval s=v:=by rfl) (hx:a.eval x=.slice (some ⟨bx,0,none⟩) 1 1:=by rfl) (hbx:bx=w.heap.size:=by first | rfl | simp) :
  if Region.wanted o (yielded ops a.tmps)=true then Oper.wp P o a (w.alloc (.cells #[.int k n] e)) K Q else F :=
 step_app1 E (m:=1) (ys:=[.int k n]) h rfl one_le_max oc_int hb (fun ao cap w' S' r1 r2 r3=>hK ao cap w' S' (by unfold KR;simpa using r1) r2 r3) hg hop hs hx hbx
end
theorem do_fin {S:List Nat} {w w1 w8 W:World} {p:Value} {st:Md.St} {N:Nat} (K1:Keeps [] w w1) (hn:w.heap.size + 1 < w1.heap.size) (h:MoTo S w1 w8 p st N) (hS:∀ x∈S,x < w.heap.size) (kW:Keeps [w.heap.size + 1] w8 W):MoTo S w W p st N:=by
 obtain ⟨S2,h1,h2,h3⟩:=h;refine ⟨S2,h1.keep kW (fun x hx=>?_),((K1.mono (by simp)).trans h2 (fun x hx=>.inl hx)).trans kW (by simp),fun x hx=>?_⟩
 ·rcases h3 x hx with h | h
  ·have:=hS x h;simp;omega
  ·simp;omega
 ·rcases h3 x hx with h | h
  ·exact .inl h
  ·exact .inr (by omega)
set_option maxRecDepth 100000 in
set_option maxHeartbeats 3200000 in
theorem model_side (w:World) (p:Value) (st:Md.St) (N:Nat) (S:List Nat) (o:Pn.Op) (vc:Value) (U:List Nat) (i:Int) (h:Mo w p st N S) (hv:GV caseE 3 w vc o.cases U) (hN:N≤100000) :
  Calls Try.prog 64 #[p,.agg (opV o vc),.int .i64 i] w (DoPost S w p ⟨(Md.does st.chans o i).1,st.waits⟩ (N + 1) (Md.does st.chans o i).2):=by
 obtain ⟨b,bm,vh,T,Us,SW,f,col,rfl,hm⟩:=h;obtain ⟨ao,cap,rfl⟩:=hm.chans.shape;have hle:=hm.chans.le;have HM:=Lib.hid hm;have HLT:=Lib.hid hm.lt;clear hm;obtain ⟨D,hD⟩:∃ D,Md.does st.chans o i=D:=⟨_,rfl⟩
 rw [hD];have HD:=Lib.hid hD;clear hD;obtain ⟨w0,hw0⟩:∃ w0,(w.alloc (.cells (opV o vc) 28)).alloc (.cells #[.int .i64 0,.int .i64 0,.int .i64 0,.bool false,.int .i64 0] 50)=w0:=⟨_,rfl⟩
 have K0:Hid (Keeps [] w w0):=Lib.hid (hw0 ▸ ((Keeps.refl [] w).alloc _).alloc _);have HZ0:Hid (Blk w0 (w.heap.size + 1) ZR 50):=Lib.hid (hw0 ▸ Blk.fresh _ ZR _ _ (by simp));have HOB:Hid (Blk w0 w.heap.size [.int .i64 o.kind,.int .i64 o.ch,.int .i64 o.n,.int .i64 o.v,vc,.bool o.els] 28):=Lib.hid (hw0 ▸ (Blk.fresh w [.int .i64 o.kind,.int .i64 o.ch,.int .i64 o.n,.int .i64 o.v,vc,.bool o.els] _ _ rfl).alloc _);have HV:=Lib.hid (hv.then caseE_kept K0.out);obtain ⟨av,cv,rfl⟩:=hv.shape;obtain ⟨⟨b0,b1,b2,b3,b4,b5⟩,_⟩:=Blk.six HOB.out;clear hv;unfold opV at hw0;unfold opV
 go_enter Try.func64,Try.ntmps64
 go_wp2_with fail
 refine (model_sideOf _ o _ U i HV.out).mono ?_
 rintro e w1 ⟨rfl,k1⟩
 obtain ⟨s,hs⟩:∃ s,(Md.side o i).getD Md.noSide=s:=⟨_,rfl⟩
 obtain ⟨is,his⟩:∃ is,(Md.side o i).isSome=is:=⟨_,rfl⟩
 rw [hs,his];have HS:=Lib.hid hs;have HIS:=Lib.hid his;obtain ⟨sc,ss,sv⟩:=s;unfold sdV;obtain ⟨w2,hw2⟩:∃ w2,w1.alloc (.cells #[.int .i64 sc,.bool ss,.int .i64 sv] 92)=w2:=⟨_,rfl⟩
 have K2:Hid (Keeps [] w w2):=Lib.hid (hw2 ▸ (K0.out.then k1).alloc _);have HZ2:Hid (Blk w2 (w.heap.size + 1) ZR 50):=Lib.hid (hw2 ▸ (HZ0.out.keep k1 (by simp)).alloc _);have hsd:Blk w2 w1.heap.size [.int .i64 sc,.bool ss,.int .i64 sv] 92:=hw2 ▸ Blk.fresh w1 [.int .i64 sc,.bool ss,.int .i64 sv] _ _ rfl;obtain ⟨⟨s0,s1,s2⟩,_⟩:=Blk.three hsd;have HSZ:Hid (w.heap.size + 2≤w1.heap.size∧∀ x∈S,x < w.heap.size):=Lib.hid ⟨by have h1:=HZ0.out.lt;have h2:=k1.size;omega,HLT.out⟩;have HM2:=Lib.hid (HM.out.then K2.out);clear k1 hs his hw0 b0 b1 b2 b3 b4 b5 hsd
 cases is with
 | false =>
  have HE:Hid (Md.does st.chans o i=(st.chans,none)):=Lib.hid (by
   have h:=HIS.out;unfold Md.does
   cases hq:Md.side o i with
   | none=>rfl
   | some s=>rw [hq] at h;cases h)
  have hz:=HZ2.out
  try unfold ZR at hz
  obtain ⟨⟨d0,d1,d2,d3,d4⟩,e0,e1,e2,e3,e4⟩:=Blk.res5 hz;have hzz:=((((hz.set 0 (.int .i64 0)).set 1 (.int .i64 0)).set 2 (.int .i64 0)).set 3 (.bool false)).set 4 (.int .i64 0);simp only [List.set_cons_succ,List.set_cons_zero] at hzz;have HZZ:=Lib.hid hzz;have KW:=Lib.hid ((((((Keeps.refl [w.heap.size + 1] (w2)).setCell (p:=⟨w.heap.size + 1,0,none⟩) (by simp) (.int .i64 0)).setCell (p:=⟨w.heap.size + 1,1,none⟩) (by simp) (.int .i64 0)).setCell (p:=⟨w.heap.size + 1,2,none⟩) (by simp) (.int .i64 0)).setCell (p:=⟨w.heap.size + 1,3,none⟩) (by simp) (.bool false)).setCell (p:=⟨w.heap.size + 1,4,none⟩) (by simp) (.int .i64 0));clear hz hzz
  go_wp2_with fail
  obtain ⟨⟨z0,z1,z2,z3,z4⟩,_⟩:=Blk.res5 HZZ.out;refine bodyPost_ret (v:=.tuple #[.agg #[.int .i64 0,.int .i64 0,.int .i64 0,.bool false,.int .i64 0],.bool false]) (by simp [results,Try.results64,go_sem,z0,z1,z2,z3,z4]) rfl ?_;exact do_none (by rw [← HD.out,HE.out]) (by rw [← HD.out,HE.out]) (do_fin K2.out (by have:=HZ2.out.lt;omega) ⟨S,⟨b,bm,_,_,_,_,_,_,rfl,(HM2.out).more1⟩,(Keeps.refl S w2),fun x hx=>.inl hx⟩ HLT.out KW.out)
 | true =>
  have HSS:Hid (Md.side o i=some ⟨sc,ss,sv⟩):=Lib.hid (by
   have h:=HIS.out;have h2:=HS.out
   cases hq:Md.side o i with
   | none=>rw [hq] at h;cases h
   | some s=>rw [hq] at h2;simp at h2;rw [h2])
  by_cases hin:1≤sc∧sc≤(st.chans.length:Int)
  ·obtain ⟨k,rfl⟩:∃ k:Nat,sc=(k:Int) + 1:=⟨(sc - 1).toNat,by omega⟩
   have hk:k < st.chans.length:=by omega
   obtain ⟨c,hc,hc2⟩:=Md.chan_some hin.1 hin.2;have HPC:Hid (∀ d,Md.putChan st.chans ((k:Int) + 1) d=st.chans.set k d):=Lib.hid (fun d=>by unfold Md.putChan;rw [show ((k:Int) + 1 - 1).toNat=k by omega]);rw [show ((k:Int) + 1 - 1).toNat=k by omega] at hc2;have HC:=Lib.hid hc;have HC2:=Lib.hid hc2;obtain ⟨g,off,bv,V,rfl,htg,hg,a0,a1,a2,af,hbv,hV,hbN⟩:=HM2.out.chans.get hc2;have hlb:=hbv.le;obtain ⟨ab,cb,rfl⟩:=hbv.shape;have HBV:=Lib.hid hbv;have HVV:=Lib.hid hV;have af1:=af (k * 3 + 1);rw [← Nat.add_assoc] at af1;clear hc hc2 hbv hV af
   go_wp2_with fail
   refine (model_channel _ b _ _ g off k _ HM2.out.blk hle hk).mono ?_
   rintro e w2' ⟨rfl,rfl⟩
   have HG:Hid (g < w.heap.size):=Lib.hid (HLT.out g (HM.out.st g (by rw [htg];simp)));unfold maxLen at hlb;clear hw2
   cases ss with
   | true =>
    cases hcl:c.closed with
    | true =>
     rw [hcl] at a2;have HE:Hid (Md.does st.chans o i=(st.chans,some ⟨3,i,0,false,0⟩)):=Lib.hid (by unfold Md.does;rw [HSS.out];simp only;rw [HC.out];simp [hcl]);clear hcl;have hz:=HZ2.out
     try unfold ZR at hz
     obtain ⟨⟨d0,d1,d2,d3,d4⟩,e0,e1,e2,e3,e4⟩:=Blk.res5 hz;have hzz:=((((hz.set 0 (.int .i64 3)).set 1 (.int .i64 i)).set 2 (.int .i64 0)).set 3 (.bool false)).set 4 (.int .i64 0);simp only [List.set_cons_succ,List.set_cons_zero] at hzz;have HZZ:=Lib.hid hzz;have KW:=Lib.hid ((((((Keeps.refl [w.heap.size + 1] (w2)).setCell (p:=⟨w.heap.size + 1,0,none⟩) (by simp) (.int .i64 3)).setCell (p:=⟨w.heap.size + 1,1,none⟩) (by simp) (.int .i64 i)).setCell (p:=⟨w.heap.size + 1,2,none⟩) (by simp) (.int .i64 0)).setCell (p:=⟨w.heap.size + 1,3,none⟩) (by simp) (.bool false)).setCell (p:=⟨w.heap.size + 1,4,none⟩) (by simp) (.int .i64 0));clear hz hzz
     go_wp2_with fail
     obtain ⟨⟨z0,z1,z2,z3,z4⟩,_⟩:=Blk.res5 HZZ.out;refine bodyPost_ret (v:=.tuple #[.agg #[.int .i64 3,.int .i64 i,.int .i64 0,.bool false,.int .i64 0],.bool true]) (by simp [results,Try.results64,go_sem,z0,z1,z2,z3,z4]) rfl ?_;exact do_some ⟨3,i,0,false,0⟩ (by rw [← HD.out,HE.out]) (by rw [← HD.out,HE.out]) (do_fin K2.out (by have:=HZ2.out.lt;omega) ⟨S,⟨b,bm,_,_,_,_,_,_,rfl,HM2.out.more1⟩,Keeps.refl S w2,fun x hx=>.inl hx⟩ HLT.out KW.out)
    | false =>
     rw [hcl] at a2
     by_cases hlt:(c.buf.length:Int) < c.cap
     ·have HE:Hid (Md.does st.chans o i=(st.chans.set k ⟨c.cap,c.buf ++ [sv],c.closed⟩,some ⟨1,i,0,true,0⟩)):=Lib.hid (by unfold Md.does;rw [HSS.out];simp only;rw [HC.out];simp [hcl,hlt,HPC.out]);clear hcl
      go_upto_region 9 with fail
      go_quiet (fail)
      obtain ⟨w3,hw3⟩:∃ w3,w2.drewN nq=w3:=⟨_,rfl⟩
      have K3:Hid (Keeps [] w2 w3):=Lib.hid (hw3 ▸ (Keeps.refl [] w2).drewN nq);have HM3:=Lib.hid (HM2.out.then K3.out);have HZ3:=Lib.hid (HZ2.out.keep K3.out (by simp));have t0:=K3.out.cell a0 (by simp);have t1:=K3.out.cell a1 (by simp);have t2:=K3.out.cell a2 (by simp);have q0:=K3.out.cell s0 (by simp);have q1:=K3.out.cell s1 (by simp);have q2:=K3.out.cell s2 (by simp);have tf1:w3.frozen? ⟨g,off + k * 3 + 1,none⟩=false:=hw3 ▸ af1;have HG3:Hid (g < w3.heap.size):=Lib.hid (by have:=HG.out;have:=K2.out.size;have:=K3.out.size;omega);rw [hw3];clear hw3 a0 a1 a2 s0 s1 s2 af1;have KB3:=Lib.hid (HBV.out.then K3.out);have HV3:Hid (KR .i64 w3.drew (.slice ab c.buf.length cb) 2 c.buf V):=Lib.hid (KB3.out.then (Keeps.refl [] w3).drew);have kA:Keeps [] w3 ((w3.alloc (.cells #[.int .i64 sv] 2)).drew):=((Keeps.refl [] w3).alloc _).drew;have cA:=kA.cell t1 (by simp);have fA:((w3.alloc (.cells #[.int .i64 sv] 2)).drew).frozen? ⟨g,off + k * 3 + 1,none⟩=false:=by
       have h:=(HM3.out.then kA).chans.get HC2.out;obtain ⟨g',off',_,_,hgo,_,_,_,_,_,AF,_⟩:=h;obtain ⟨rfl,rfl⟩:g=g'∧off=off':=by simpa using hgo
       have:=AF (k * 3 + 1)
       rwa [← Nat.add_assoc] at this
      have HTN:Hid (g∉V∧w.heap.size + 1∉V):=Lib.hid ⟨fun hm=>by
       have h:=HM3.out.chans.ne V (List.mem_of_getElem? HVV.out) g hm;rw [htg] at h;exact h (by simp),fun hm=>by have:=HLT.out _ (HM.out.su V (List.mem_of_getElem? HVV.out) _ hm);omega⟩
      clear kA
      go_upto_region 10 with fail
      go_region_law
       (first
        | (refine step_appi elemI64 HV3.out (by omega) ?_;intro ao7 cap7 w7 T7 r7 k7 s7;have c7:=k7.cell (w:=w3.drew) t1 HTN.out.1;have f7:w7.frozen? ⟨g,off + k * 3 + 1,none⟩=false:=free_keep (w:=w3.drew) k7 tf1 HG3.out HTN.out.1;have HK7:=Lib.hid r7;have K7:=Lib.hid k7;have S7:=Lib.hid s7;clear r7 k7 s7)
        | fail)
      all_goals
       obtain ⟨S2,Us2,col2,hM7,kS,sS⟩:=HM3.out.put HC2.out HVV.out (((Keeps.refl V w3).drew).trans K7.out (fun x hx=>.inl hx)) HK7.out S7.out (Nat.le_succ N) (by simp;omega);have HZ7:=Lib.hid ((HZ3.out.keep (((Keeps.refl V w3).drew).trans K7.out (fun x hx=>.inl hx)) HTN.out.2).other (a:=⟨g,off + k * 3 + 1,none⟩) (by have:=HG.out;simp;omega) (.slice ao7 (c.buf.length + 1) cap7));have HM7:=Lib.hid hM7;have HKS:=Lib.hid kS;have HSS7:=Lib.hid sS;clear hM7 kS sS;have hz:=HZ7.out
       try unfold ZR at hz
       obtain ⟨⟨d0,d1,d2,d3,d4⟩,e0,e1,e2,e3,e4⟩:=Blk.res5 hz;have hzz:=((((hz.set 0 (.int .i64 1)).set 1 (.int .i64 i)).set 2 (.int .i64 0)).set 3 (.bool true)).set 4 (.int .i64 0);simp only [List.set_cons_succ,List.set_cons_zero] at hzz;have HZZ:=Lib.hid hzz;have KW:=Lib.hid ((((((Keeps.refl [w.heap.size + 1] (w7.setCell ⟨g,off + k * 3 + 1,none⟩ (.slice ao7 (c.buf.length + 1) cap7))).setCell (p:=⟨w.heap.size + 1,0,none⟩) (by simp) (.int .i64 1)).setCell (p:=⟨w.heap.size + 1,1,none⟩) (by simp) (.int .i64 i)).setCell (p:=⟨w.heap.size + 1,2,none⟩) (by simp) (.int .i64 0)).setCell (p:=⟨w.heap.size + 1,3,none⟩) (by simp) (.bool true)).setCell (p:=⟨w.heap.size + 1,4,none⟩) (by simp) (.int .i64 0));clear hz hzz
       go_wp2_with fail
       obtain ⟨⟨z0,z1,z2,z3,z4⟩,_⟩:=Blk.res5 HZZ.out;refine bodyPost_ret (v:=.tuple #[.agg #[.int .i64 1,.int .i64 i,.int .i64 0,.bool true,.int .i64 0],.bool true]) (by simp [results,Try.results64,go_sem,z0,z1,z2,z3,z4]) rfl ?_;exact do_some ⟨1,i,0,true,0⟩ (by rw [← HD.out,HE.out]) (by rw [← HD.out,HE.out]) (do_fin K2.out (by have:=HZ2.out.lt;omega) ⟨S2,⟨b,bm,_,_,_,_,_,_,rfl,HM7.out⟩,((Keeps.refl S w2).then K3.out).trans HKS.out (fun x hx=>.inl hx),fun x hx=>by rcases HSS7.out x hx with h | h;exact .inl h;have:=K3.out.size;exact .inr (by omega)⟩ HLT.out KW.out)
     ·have HE:Hid (Md.does st.chans o i=(st.chans,none)):=Lib.hid (by unfold Md.does;rw [HSS.out];simp only;rw [HC.out];simp [hcl,hlt]);clear hcl
      go_upto_region 9 with fail
      go_quiet (fail)
      obtain ⟨w3,hw3⟩:∃ w3,w2.drewN nq=w3:=⟨_,rfl⟩
      have K3:Hid (Keeps [] w2 w3):=Lib.hid (hw3 ▸ (Keeps.refl [] w2).drewN nq);have HM3:=Lib.hid (HM2.out.then K3.out);have HZ3:=Lib.hid (HZ2.out.keep K3.out (by simp));have t0:=K3.out.cell a0 (by simp);have t1:=K3.out.cell a1 (by simp);have t2:=K3.out.cell a2 (by simp);have q0:=K3.out.cell s0 (by simp);have q1:=K3.out.cell s1 (by simp);have q2:=K3.out.cell s2 (by simp);have tf1:w3.frozen? ⟨g,off + k * 3 + 1,none⟩=false:=hw3 ▸ af1;have HG3:Hid (g < w3.heap.size):=Lib.hid (by have:=HG.out;have:=K2.out.size;have:=K3.out.size;omega);rw [hw3];clear hw3 a0 a1 a2 s0 s1 s2 af1;have hz:=HZ3.out
      try unfold ZR at hz
      obtain ⟨⟨d0,d1,d2,d3,d4⟩,e0,e1,e2,e3,e4⟩:=Blk.res5 hz;have hzz:=((((hz.set 0 (.int .i64 0)).set 1 (.int .i64 0)).set 2 (.int .i64 0)).set 3 (.bool false)).set 4 (.int .i64 0);simp only [List.set_cons_succ,List.set_cons_zero] at hzz;have HZZ:=Lib.hid hzz;have KW:=Lib.hid ((((((Keeps.refl [w.heap.size + 1] (w3)).setCell (p:=⟨w.heap.size + 1,0,none⟩) (by simp) (.int .i64 0)).setCell (p:=⟨w.heap.size + 1,1,none⟩) (by simp) (.int .i64 0)).setCell (p:=⟨w.heap.size + 1,2,none⟩) (by simp) (.int .i64 0)).setCell (p:=⟨w.heap.size + 1,3,none⟩) (by simp) (.bool false)).setCell (p:=⟨w.heap.size + 1,4,none⟩) (by simp) (.int .i64 0));clear hz hzz
      go_wp2_with fail
      obtain ⟨⟨z0,z1,z2,z3,z4⟩,_⟩:=Blk.res5 HZZ.out;refine bodyPost_ret (v:=.tuple #[.agg #[.int .i64 0,.int .i64 0,.int .i64 0,.bool false,.int .i64 0],.bool false]) (by simp [results,Try.results64,go_sem,z0,z1,z2,z3,z4]) rfl ?_;exact do_none (by rw [← HD.out,HE.out]) (by rw [← HD.out,HE.out]) (do_fin K2.out (by have:=HZ2.out.lt;omega) ⟨S,⟨b,bm,_,_,_,_,_,_,rfl,HM3.out.more1⟩,((Keeps.refl S w2).then K3.out),fun x hx=>.inl hx⟩ HLT.out KW.out)
   | false =>
    by_cases hlt:0 < c.buf.length
    ·have HE:Hid (Md.does st.chans o i=(st.chans.set k ⟨c.cap,c.buf.drop 1,c.closed⟩,some ⟨1,i,c.buf.getD 0 0,true,0⟩)):=Lib.hid (by unfold Md.does;rw [HSS.out];simp only;rw [HC.out];simp [hlt,HPC.out]);obtain ⟨x,hx⟩:∃ x,c.buf.getD 0 0=x:=⟨_,rfl⟩
     rw [hx] at HE;have hx2:c.buf[0]?=some x:=by rw [← hx];simp [List.getD,hlt]
     have hlt':(0:Int) < (c.buf.length:Int):=by omega
     obtain ⟨gb,ob,rfl,hVg,hgb,hbc,hbf⟩:=Row.cells HBV.out hlt;have x0:w2.cell? ⟨gb,ob,none⟩=some (.int .i64 x):=by
      have:=hbc 0 (by simpa using hlt);rw [Nat.add_zero] at this;rw [this];simp [hx2]
     have HCB:=Lib.hid (row_cap HBV.out);clear hx hx2 hbc hbf
     go_upto_region 9 with fail
     go_quiet (fail)
     obtain ⟨w3,hw3⟩:∃ w3,w2.drewN nq=w3:=⟨_,rfl⟩
     have K3:Hid (Keeps [] w2 w3):=Lib.hid (hw3 ▸ (Keeps.refl [] w2).drewN nq);have HM3:=Lib.hid (HM2.out.then K3.out);have HZ3:=Lib.hid (HZ2.out.keep K3.out (by simp));have t0:=K3.out.cell a0 (by simp);have t1:=K3.out.cell a1 (by simp);have t2:=K3.out.cell a2 (by simp);have q0:=K3.out.cell s0 (by simp);have q1:=K3.out.cell s1 (by simp);have q2:=K3.out.cell s2 (by simp);have tf1:w3.frozen? ⟨g,off + k * 3 + 1,none⟩=false:=hw3 ▸ af1;have HG3:Hid (g < w3.heap.size):=Lib.hid (by have:=HG.out;have:=K2.out.size;have:=K3.out.size;omega);rw [hw3];clear hw3 a0 a1 a2 s0 s1 s2 af1;have x3:=K3.out.cell x0 (by simp);have hcb1:=HCB.out.1;have hcb2:=HCB.out.2;have hcI:(c.buf.length:Int)≤(cb:Int):=by omega
     have hone:(1:Int)≤(c.buf.length:Int):=by omega
     unfold maxLen at hcb2;have KB3:=Lib.hid (HBV.out.then K3.out);have HTN:Hid (g∉V∧w.heap.size + 1∉V):=Lib.hid ⟨fun hm=>by
      have h:=HM3.out.chans.ne V (List.mem_of_getElem? HVV.out) g hm;rw [htg] at h;exact h (by simp),fun hm=>by have:=HLT.out _ (HM.out.su V (List.mem_of_getElem? HVV.out) _ hm);omega⟩
     go_upto_region 17 with fail
     obtain ⟨ao2,hao⟩:∃ ao2:Option Addr,(if cb=1 then some ⟨gb,ob,none⟩ else some ⟨gb,ob + 1,none⟩)=ao2:=⟨_,rfl⟩
     have hax:ao2=some ⟨gb,ob,none⟩∧cb=1∨ao2=some ⟨gb,ob + 1,none⟩∧cb≠1:=by
      by_cases e:cb=1
      ·rw [if_pos e] at hao;exact .inl ⟨hao.symm,e⟩
      ·rw [if_neg e] at hao;exact .inr ⟨hao.symm,e⟩
     have hkr:KR .i64 w3 (.slice ao2 (c.buf.length - 1) (cb - 1)) 2 (c.buf.drop 1) V:=by
      have:=Row.tail KB3.out hlt ao2 hax;unfold KR;rw [List.length_drop,List.map_drop];exact this
     obtain ⟨S2,Us2,col2,hM7,kS,sS⟩:=HM3.out.put HC2.out HVV.out (Keeps.refl V w3) hkr (fun y hy=>.inl hy) (Nat.le_succ N) (by simp;omega);have HZ7:=Lib.hid (HZ3.out.other (a:=⟨g,off + k * 3 + 1,none⟩) (by have:=HG.out;simp;omega) (.slice ao2 (c.buf.length - 1) (cb - 1)));have HM7:=Lib.hid hM7;have HKS:=Lib.hid kS;have HSS7:=Lib.hid sS;rw [hao];clear hM7 kS sS hao hax hkr;have hz:=HZ7.out
     try unfold ZR at hz
     obtain ⟨⟨d0,d1,d2,d3,d4⟩,e0,e1,e2,e3,e4⟩:=Blk.res5 hz;have hzz:=((((hz.set 0 (.int .i64 1)).set 1 (.int .i64 i)).set 2 (.int .i64 x)).set 3 (.bool true)).set 4 (.int .i64 0);simp only [List.set_cons_succ,List.set_cons_zero] at hzz;have HZZ:=Lib.hid hzz;have KW:=Lib.hid ((((((Keeps.refl [w.heap.size + 1] (w3.setCell ⟨g,off + k * 3 + 1,none⟩ (.slice ao2 (c.buf.length - 1) (cb - 1)))).setCell (p:=⟨w.heap.size + 1,0,none⟩) (by simp) (.int .i64 1)).setCell (p:=⟨w.heap.size + 1,1,none⟩) (by simp) (.int .i64 i)).setCell (p:=⟨w.heap.size + 1,2,none⟩) (by simp) (.int .i64 x)).setCell (p:=⟨w.heap.size + 1,3,none⟩) (by simp) (.bool true)).setCell (p:=⟨w.heap.size + 1,4,none⟩) (by simp) (.int .i64 0));clear hz hzz
     go_wp2_with fail
     obtain ⟨⟨z0,z1,z2,z3,z4⟩,_⟩:=Blk.res5 HZZ.out;refine bodyPost_ret (v:=.tuple #[.agg #[.int .i64 1,.int .i64 i,.int .i64 x,.bool true,.int .i64 0],.bool true]) (by simp [results,Try.results64,go_sem,z0,z1,z2,z3,z4]) rfl ?_;exact do_some ⟨1,i,x,true,0⟩ (by rw [← HD.out,HE.out]) (by rw [← HD.out,HE.out]) (do_fin K2.out (by have:=HZ2.out.lt;omega) ⟨S2,⟨b,bm,_,_,_,_,_,_,rfl,HM7.out⟩,((Keeps.refl S w2).then K3.out).trans HKS.out (fun x hx=>.inl hx),fun x hx=>by rcases HSS7.out x hx with h | h;exact .inl h;have:=K3.out.size;exact .inr (by omega)⟩ HLT.out KW.out)
    ·have h0:c.buf.length=0:=by omega
     cases hcl:c.closed with
     | true =>
      rw [hcl] at a2;have HE:Hid (Md.does st.chans o i=(st.chans,some ⟨1,i,0,false,0⟩)):=Lib.hid (by unfold Md.does;rw [HSS.out];simp only;rw [HC.out];simp [hcl,h0]);clear hcl;rw [h0] at a1
      go_upto_region 9 with fail
      go_quiet (fail)
      obtain ⟨w3,hw3⟩:∃ w3,w2.drewN nq=w3:=⟨_,rfl⟩
      have K3:Hid (Keeps [] w2 w3):=Lib.hid (hw3 ▸ (Keeps.refl [] w2).drewN nq);have HM3:=Lib.hid (HM2.out.then K3.out);have HZ3:=Lib.hid (HZ2.out.keep K3.out (by simp));have t0:=K3.out.cell a0 (by simp);have t1:=K3.out.cell a1 (by simp);have t2:=K3.out.cell a2 (by simp);have q0:=K3.out.cell s0 (by simp);have q1:=K3.out.cell s1 (by simp);have q2:=K3.out.cell s2 (by simp);have tf1:w3.frozen? ⟨g,off + k * 3 + 1,none⟩=false:=hw3 ▸ af1;have HG3:Hid (g < w3.heap.size):=Lib.hid (by have:=HG.out;have:=K2.out.size;have:=K3.out.size;omega);rw [hw3];clear hw3 a0 a1 a2 s0 s1 s2 af1;have hz:=HZ3.out
      try unfold ZR at hz
      obtain ⟨⟨d0,d1,d2,d3,d4⟩,e0,e1,e2,e3,e4⟩:=Blk.res5 hz;have hzz:=((((hz.set 0 (.int .i64 1)).set 1 (.int .i64 i)).set 2 (.int .i64 0)).set 3 (.bool false)).set 4 (.int .i64 0);simp only [List.set_cons_succ,List.set_cons_zero] at hzz;have HZZ:=Lib.hid hzz;have KW:=Lib.hid ((((((Keeps.refl [w.heap.size + 1] (w3)).setCell (p:=⟨w.heap.size + 1,0,none⟩) (by simp) (.int .i64 1)).setCell (p:=⟨w.heap.size + 1,1,none⟩) (by simp) (.int .i64 i)).setCell (p:=⟨w.heap.size + 1,2,none⟩) (by simp) (.int .i64 0)).setCell (p:=⟨w.heap.size + 1,3,none⟩) (by simp) (.bool false)).setCell (p:=⟨w.heap.size + 1,4,none⟩) (by simp) (.int .i64 0));clear hz hzz
      go_wp2_with fail
      obtain ⟨⟨z0,z1,z2,z3,z4⟩,_⟩:=Blk.res5 HZZ.out;refine bodyPost_ret (v:=.tuple #[.agg #[.int .i64 1,.int .i64 i,.int .i64 0,.bool false,.int .i64 0],.bool true]) (by simp [results,Try.results64,go_sem,z0,z1,z2,z3,z4]) rfl ?_;exact do_some ⟨1,i,0,false,0⟩ (by rw [← HD.out,HE.out]) (by rw [← HD.out,HE.out]) (do_fin K2.out (by have:=HZ2.out.lt;omega) ⟨S,⟨b,bm,_,_,_,_,_,_,rfl,HM3.out.more1⟩,((Keeps.refl S w2).then K3.out),fun x hx=>.inl hx⟩ HLT.out KW.out)
     | false =>
      rw [hcl] at a2;have HE:Hid (Md.does st.chans o i=(st.chans,none)):=Lib.hid (by unfold Md.does;rw [HSS.out];simp only;rw [HC.out];simp [hcl,h0]);clear hcl;rw [h0] at a1
      go_upto_region 9 with fail
      go_quiet (fail)
      obtain ⟨w3,hw3⟩:∃ w3,w2.drewN nq=w3:=⟨_,rfl⟩
      have K3:Hid (Keeps [] w2 w3):=Lib.hid (hw3 ▸ (Keeps.refl [] w2).drewN nq);have HM3:=Lib.hid (HM2.out.then K3.out);have HZ3:=Lib.hid (HZ2.out.keep K3.out (by simp));have t0:=K3.out.cell a0 (by simp);have t1:=K3.out.cell a1 (by simp);have t2:=K3.out.cell a2 (by simp);have q0:=K3.out.cell s0 (by simp);have q1:=K3.out.cell s1 (by simp);have q2:=K3.out.cell s2 (by simp);have tf1:w3.frozen? ⟨g,off + k * 3 + 1,none⟩=false:=hw3 ▸ af1;have HG3:Hid (g < w3.heap.size):=Lib.hid (by have:=HG.out;have:=K2.out.size;have:=K3.out.size;omega);rw [hw3];clear hw3 a0 a1 a2 s0 s1 s2 af1;have hz:=HZ3.out
      try unfold ZR at hz
      obtain ⟨⟨d0,d1,d2,d3,d4⟩,e0,e1,e2,e3,e4⟩:=Blk.res5 hz;have hzz:=((((hz.set 0 (.int .i64 0)).set 1 (.int .i64 0)).set 2 (.int .i64 0)).set 3 (.bool false)).set 4 (.int .i64 0);simp only [List.set_cons_succ,List.set_cons_zero] at hzz;have HZZ:=Lib.hid hzz;have KW:=Lib.hid ((((((Keeps.refl [w.heap.size + 1] (w3)).setCell (p:=⟨w.heap.size + 1,0,none⟩) (by simp) (.int .i64 0)).setCell (p:=⟨w.heap.size + 1,1,none⟩) (by simp) (.int .i64 0)).setCell (p:=⟨w.heap.size + 1,2,none⟩) (by simp) (.int .i64 0)).setCell (p:=⟨w.heap.size + 1,3,none⟩) (by simp) (.bool false)).setCell (p:=⟨w.heap.size + 1,4,none⟩) (by simp) (.int .i64 0));clear hz hzz
      go_wp2_with fail
      obtain ⟨⟨z0,z1,z2,z3,z4⟩,_⟩:=Blk.res5 HZZ.out;refine bodyPost_ret (v:=.tuple #[.agg #[.int .i64 0,.int .i64 0,.int .i64 0,.bool false,.int .i64 0],.bool false]) (by simp [results,Try.results64,go_sem,z0,z1,z2,z3,z4]) rfl ?_;exact do_none (by rw [← HD.out,HE.out]) (by rw [← HD.out,HE.out]) (do_fin K2.out (by have:=HZ2.out.lt;omega) ⟨S,⟨b,bm,_,_,_,_,_,_,rfl,HM3.out.more1⟩,((Keeps.refl S w2).then K3.out),fun x hx=>.inl hx⟩ HLT.out KW.out)
  ·have hout:sc < 1∨(st.chans.length:Int) < sc:=by omega
   have HE:Hid (Md.does st.chans o i=(st.chans,none)):=Lib.hid (by unfold Md.does;rw [HSS.out];simp only;rw [Md.chan_none hout])
   go_wp2_with fail
   refine (model_channel_no _ b _ _ _ _ _ HM2.out.blk hle hout).mono ?_
   rintro e w2' ⟨rfl,rfl⟩
   clear hw2;have hz:=HZ2.out
   try unfold ZR at hz
   obtain ⟨⟨d0,d1,d2,d3,d4⟩,e0,e1,e2,e3,e4⟩:=Blk.res5 hz;have hzz:=((((hz.set 0 (.int .i64 0)).set 1 (.int .i64 0)).set 2 (.int .i64 0)).set 3 (.bool false)).set 4 (.int .i64 0);simp only [List.set_cons_succ,List.set_cons_zero] at hzz;have HZZ:=Lib.hid hzz;have KW:=Lib.hid ((((((Keeps.refl [w.heap.size + 1] (w2)).setCell (p:=⟨w.heap.size + 1,0,none⟩) (by simp) (.int .i64 0)).setCell (p:=⟨w.heap.size + 1,1,none⟩) (by simp) (.int .i64 0)).setCell (p:=⟨w.heap.size + 1,2,none⟩) (by simp) (.int .i64 0)).setCell (p:=⟨w.heap.size + 1,3,none⟩) (by simp) (.bool false)).setCell (p:=⟨w.heap.size + 1,4,none⟩) (by simp) (.int .i64 0));clear hz hzz
   go_wp2_with fail
   obtain ⟨⟨z0,z1,z2,z3,z4⟩,_⟩:=Blk.res5 HZZ.out;refine bodyPost_ret (v:=.tuple #[.agg #[.int .i64 0,.int .i64 0,.int .i64 0,.bool false,.int .i64 0],.bool false]) (by simp [results,Try.results64,go_sem,z0,z1,z2,z3,z4]) rfl ?_;exact do_none (by rw [← HD.out,HE.out]) (by rw [← HD.out,HE.out]) (do_fin K2.out (by have:=HZ2.out.lt;omega) ⟨S,⟨b,bm,_,_,_,_,_,_,rfl,(HM2.out).more1⟩,(Keeps.refl S w2),fun x hx=>.inl hx⟩ HLT.out KW.out)
open Go.RowKit
theorem fire_fin {S S1:List Nat} {w w0 w1 w2 w3 W:World} {p:Value} {st:Md.St} {N:Nat} (K0:Keeps [] w w0) (hsz:w.heap.size + 3≤w0.heap.size) (k1:Keeps S w0 w1) (s1:∀ x∈S1,x∈S∨w0.heap.size≤x) (k2:Keeps [w.heap.size + 2] w1 w2) (k3:Keeps S1 w2 w3)
  (h:Mo w3 p st N S1) (hS:∀ x∈S,x < w.heap.size) (kW:Keeps [w.heap.size + 1] w3 W):MoTo S w W p st N:=by
 have hs:∀ x∈S1,x∈S∨w.heap.size≤x:=fun x hx=>by
  rcases s1 x hx with h | h
  ·exact .inl h
  ·exact .inr (by omega)
 refine ⟨S1,h.keep kW (fun x hx=>?_),(((((K0.mono (by simp)).trans k1 (fun x hx=>.inl hx)).trans k2 (by simp)).trans k3 hs).trans kW (by simp)),hs⟩;rcases s1 x hx with h | h
 ·have:=hS x h;simp;omega
 ·simp;omega
theorem MoAt.mono1 {w:World} {b bm:Nat} {vc:Value} {l:List Md.Ch} {ws:Int→Option Pn.Op} {N:Nat} {S T SW:List Nat} {Us:List (List Nat)} {f:Int→Option Value} {col:Nat→Nat} (h:MoAt w b bm vc ⟨l,ws⟩ N S T Us SW f col):MoAt w b bm vc ⟨l,ws⟩ (N + 1) S T Us SW f col:=h.more1
theorem does_none {l:List Md.Ch} {o:Pn.Op} {i:Int} (h:(Md.does l o i).2=none):(Md.does l o i).1=l:=by
 unfold Md.does at h ⊢
 repeat' split at h
 all_goals first | (cases h;done) | skip
 all_goals simp_all
 all_goals rw [if_neg (by omega)]
set_option maxRecDepth 100000 in
set_option maxHeartbeats 3200000 in
theorem model_fire (w:World) (p:Value) (st:Md.St) (N:Nat) (S:List Nat) (g:Int) (o:Pn.Op) (vc:Value) (U:List Nat) (i:Int) (h:Mo w p st N S) (hv:GV caseE 3 w vc o.cases U) (hN:N≤100000) (hgw:wf64L g) :
  Calls Try.prog 40 #[p,.int .i64 g,.agg (opV o vc),.int .i64 i] w (DoPost S w p (Md.fire st g o i).1 (N + 1) (Md.fire st g o i).2):=by
 have HLT:=Lib.hid h.lt;have HMO:=Lib.hid h;obtain ⟨b,_,_,_,_,_,_,_,rfl,_⟩:=h;obtain ⟨D,hD⟩:∃ D,Md.fire st g o i=D:=⟨_,rfl⟩
 rw [hD];have HD:=Lib.hid hD;clear hD;obtain ⟨w0,hw0⟩:∃ w0,((w.alloc (.cells (opV o vc) 28)).alloc (.cells #[.int .i64 0,.int .i64 0,.int .i64 0,.bool false,.int .i64 0] 50)).alloc (.cells #[.int .i64 0,.int .i64 0,.int .i64 0,.bool false,.int .i64 0] 50)=w0:=⟨_,rfl⟩
 have K0:Hid (Keeps [] w w0):=Lib.hid (hw0 ▸ (((Keeps.refl [] w).alloc _).alloc _).alloc _);have HSZ:Hid (w.heap.size + 3≤w0.heap.size):=Lib.hid (by rw [← hw0];simp);have HZ8:Hid (Blk w0 (w.heap.size + 1) ZR 50):=Lib.hid (hw0 ▸ (Blk.fresh _ ZR _ _ (by simp)).alloc _);have HZ10:Hid (Blk w0 (w.heap.size + 2) ZR 50):=Lib.hid (hw0 ▸ Blk.fresh _ ZR _ _ (by simp));have HOB:Hid (Blk w0 w.heap.size [.int .i64 o.kind,.int .i64 o.ch,.int .i64 o.n,.int .i64 o.v,vc,.bool o.els] 28):=Lib.hid (hw0 ▸ ((Blk.fresh w [.int .i64 o.kind,.int .i64 o.ch,.int .i64 o.n,.int .i64 o.v,vc,.bool o.els] _ _ rfl).alloc _).alloc _);have HV:=Lib.hid (hv.then caseE_kept K0.out);have HM0:=Lib.hid (HMO.out.then K0.out);obtain ⟨av,cv,rfl⟩:=hv.shape;obtain ⟨⟨b0,b1',b2,b3,b4,b5⟩,_⟩:=Blk.six HOB.out;clear hv;unfold opV at hw0;unfold opV
 go_enter Try.func40,Try.ntmps40
 by_cases hk:o.kind=1
 ·have hk1:(o.kind == 1)=true:=by simp [hk]
  have hk7:(o.kind == 7)=false:=by simp [hk]
  have hk8:(o.kind == 8)=false:=by simp [hk]
  have hk6:(o.kind == 6)=false:=by simp [hk]
  obtain ⟨⟨rc,rcs,rv,ro,rn⟩,hr⟩:∃ r:Md.Res,(Md.makes st.chans o.n).2=r:=⟨_,rfl⟩
  have HE:Hid (Md.fire st g o i=(⟨(Md.makes st.chans o.n).1,Md.drops st.waits g⟩,some ⟨rc,rcs,rv,ro,rn⟩)):=Lib.hid (by unfold Md.fire Md.fires;simp [hk,hr]);have HRR:=Lib.hid hr;clear hk hr
  go_wp2_with fail
  refine (model_makes _ _ st N S o.n HM0.out).mono ?_;rw [HRR.out]
  rintro e w1 ⟨rfl,S1,hM1,kS1,sS1⟩
  unfold resV;clear hw0 b0 b1' b2 b3 b4 b5;obtain ⟨b1,bm1,vh1,T1,Us1,SW1,f1,col1,hpe,hM1⟩:=hM1;obtain rfl:b=b1:=by simpa using hpe
  have hz10:=HZ10.out.keep kS1 (fun hm=>by have:=HLT.out _ hm;omega);have hz8:=HZ8.out.keep kS1 (fun hm=>by have:=HLT.out _ hm;omega);unfold ZR at hz10;obtain ⟨⟨d0,d1,d2,d3,d4⟩,e0,e1,e2,e3,e4⟩:=Blk.res5 hz10;obtain ⟨w2,hw2⟩:∃ w2,(((((w1.setCell ⟨w.heap.size + 2,0,none⟩ (.int .i64 rc)).setCell ⟨w.heap.size + 2,1,none⟩ (.int .i64 rcs)).setCell ⟨w.heap.size + 2,2,none⟩ (.int .i64 rv)).setCell ⟨w.heap.size + 2,3,none⟩ (.bool ro)).setCell ⟨w.heap.size + 2,4,none⟩ (.int .i64 rn))=w2:=⟨_,rfl⟩
  have K12:Hid (Keeps [w.heap.size + 2] w1 w2):=Lib.hid (by rw [← hw2];exact ((((((Keeps.refl [w.heap.size + 2] w1).setCell (p:=⟨w.heap.size + 2,0,none⟩) (by simp) (.int .i64 rc)).setCell (p:=⟨w.heap.size + 2,1,none⟩) (by simp) (.int .i64 rcs)).setCell (p:=⟨w.heap.size + 2,2,none⟩) (by simp) (.int .i64 rv)).setCell (p:=⟨w.heap.size + 2,3,none⟩) (by simp) (.bool ro)).setCell (p:=⟨w.heap.size + 2,4,none⟩) (by simp) (.int .i64 rn)));have hr2:Blk w2 (w.heap.size + 2) [.int .i64 rc,.int .i64 rcs,.int .i64 rv,.bool ro,.int .i64 rn] 50:=by
   rw [← hw2];have:=((((hz10.set 0 (.int .i64 rc)).set 1 (.int .i64 rcs)).set 2 (.int .i64 rv)).set 3 (.bool ro)).set 4 (.int .i64 rn);simpa only [List.set_cons_succ,List.set_cons_zero] using this
  have hS1:∀ x∈S1,x≠w.heap.size + 2∧x≠w.heap.size + 1:=fun x hx=>by
   rcases sS1 x hx with h | h
   ·have:=HLT.out x h;omega
   ·have:=HSZ.out;omega
  have hM2:=hM1.keep K12.out (fun x hx=>by simp;exact (hS1 x hx).1);have HR2:=Lib.hid hr2;have HZ82:=Lib.hid (hz8.keep K12.out (by simp));have HM2:=Lib.hid hM2;have HK1:=Lib.hid kS1;have HSS1:=Lib.hid sS1;have HS1:=Lib.hid hS1;have m1:w2.cell? ⟨b,1,none⟩=some (.map (some bm1)):=hM2.cells.2.1;clear hM1 hz10 hz8 hr2 hM2 kS1 sS1 hS1 hpe
  go_wp2_with (at_delete;go_must (refine wp_mapDel (f:=f1) Try.underlying3 Try.underlying78 hgw HM2.out.map ?_))
  intro w3 m3 k3;have hbm:w.heap.size + 2≠bm1∧w.heap.size + 1≠bm1:=⟨fun e=>(HS1.out bm1 HM2.out.sm).1 e.symm,fun e=>(HS1.out bm1 HM2.out.sm).2 e.symm⟩
  have HR3:=Lib.hid (HR2.out.keep k3 (by simp;exact hbm.1));have HZ83:=Lib.hid (HZ82.out.keep k3 (by simp;exact hbm.2));obtain ⟨hM3,kS3⟩:=HM2.out.drop g m3 k3;have HM3:=Lib.hid hM3;have HK3:=Lib.hid kS3;obtain ⟨⟨r0,r1,r2,r3,r4⟩,_⟩:=Blk.res5 HR3.out;clear m3 k3 hbm hM3 kS3 hw2 d0 d1 d2 d3 d4 e0 e1 e2 e3 e4;have hz:=HZ83.out
  try unfold ZR at hz
  obtain ⟨⟨d0,d1,d2,d3,d4⟩,e0,e1,e2,e3,e4⟩:=Blk.res5 hz;have hzz:=((((hz.set 0 (.int .i64 rc)).set 1 (.int .i64 rcs)).set 2 (.int .i64 rv)).set 3 (.bool ro)).set 4 (.int .i64 rn);simp only [List.set_cons_succ,List.set_cons_zero] at hzz;have HZZ:=Lib.hid hzz;have KW:=Lib.hid ((((((Keeps.refl [w.heap.size + 1] (w3)).setCell (p:=⟨w.heap.size + 1,0,none⟩) (by simp) (.int .i64 rc)).setCell (p:=⟨w.heap.size + 1,1,none⟩) (by simp) (.int .i64 rcs)).setCell (p:=⟨w.heap.size + 1,2,none⟩) (by simp) (.int .i64 rv)).setCell (p:=⟨w.heap.size + 1,3,none⟩) (by simp) (.bool ro)).setCell (p:=⟨w.heap.size + 1,4,none⟩) (by simp) (.int .i64 rn));clear hz hzz
  go_wp2_with fail
  obtain ⟨⟨z0,z1,z2,z3,z4⟩,_⟩:=Blk.res5 HZZ.out;refine bodyPost_ret (v:=.tuple #[.agg #[.int .i64 rc,.int .i64 rcs,.int .i64 rv,.bool ro,.int .i64 rn],.bool true]) (by simp [results,Try.results40,go_sem,z0,z1,z2,z3,z4]) rfl ?_;exact do_some ⟨rc,rcs,rv,ro,rn⟩ (by rw [← HD.out,HE.out]) (by rw [← HD.out,HE.out]) (fire_fin K0.out HSZ.out HK1.out HSS1.out K12.out HK3.out ⟨b,bm1,_,_,_,_,_,_,rfl,HM3.out.mono1⟩ HLT.out KW.out)
 by_cases hk:o.kind=7
 ·have hk1:(o.kind == 1)=false:=by simp [hk]
  have hk7:(o.kind == 7)=true:=by simp [hk]
  have hk8:(o.kind == 8)=false:=by simp [hk]
  have hk6:(o.kind == 6)=false:=by simp [hk]
  obtain ⟨⟨rc,rcs,rv,ro,rn⟩,hr⟩:∃ r:Md.Res,Md.looks st.chans o=r:=⟨_,rfl⟩
  have HE:Hid (Md.fire st g o i=(⟨st.chans,Md.drops st.waits g⟩,some ⟨rc,rcs,rv,ro,rn⟩)):=Lib.hid (by unfold Md.fire Md.fires;simp [hk,hr]);have HRR:=Lib.hid hr;clear hk hr
  go_wp2_with fail
  refine (model_looks _ _ st N S o _ HM0.out).mono ?_;rw [HRR.out]
  rintro e w1 ⟨rfl,S1,hM1,kS1,sS1⟩
  unfold resV;clear hw0 b0 b1' b2 b3 b4 b5;obtain ⟨b1,bm1,vh1,T1,Us1,SW1,f1,col1,hpe,hM1⟩:=hM1;obtain rfl:b=b1:=by simpa using hpe
  have hz10:=HZ10.out.keep kS1 (fun hm=>by have:=HLT.out _ hm;omega);have hz8:=HZ8.out.keep kS1 (fun hm=>by have:=HLT.out _ hm;omega);unfold ZR at hz10;obtain ⟨⟨d0,d1,d2,d3,d4⟩,e0,e1,e2,e3,e4⟩:=Blk.res5 hz10;obtain ⟨w2,hw2⟩:∃ w2,(((((w1.setCell ⟨w.heap.size + 2,0,none⟩ (.int .i64 rc)).setCell ⟨w.heap.size + 2,1,none⟩ (.int .i64 rcs)).setCell ⟨w.heap.size + 2,2,none⟩ (.int .i64 rv)).setCell ⟨w.heap.size + 2,3,none⟩ (.bool ro)).setCell ⟨w.heap.size + 2,4,none⟩ (.int .i64 rn))=w2:=⟨_,rfl⟩
  have K12:Hid (Keeps [w.heap.size + 2] w1 w2):=Lib.hid (by rw [← hw2];exact ((((((Keeps.refl [w.heap.size + 2] w1).setCell (p:=⟨w.heap.size + 2,0,none⟩) (by simp) (.int .i64 rc)).setCell (p:=⟨w.heap.size + 2,1,none⟩) (by simp) (.int .i64 rcs)).setCell (p:=⟨w.heap.size + 2,2,none⟩) (by simp) (.int .i64 rv)).setCell (p:=⟨w.heap.size + 2,3,none⟩) (by simp) (.bool ro)).setCell (p:=⟨w.heap.size + 2,4,none⟩) (by simp) (.int .i64 rn)));have hr2:Blk w2 (w.heap.size + 2) [.int .i64 rc,.int .i64 rcs,.int .i64 rv,.bool ro,.int .i64 rn] 50:=by
   rw [← hw2];have:=((((hz10.set 0 (.int .i64 rc)).set 1 (.int .i64 rcs)).set 2 (.int .i64 rv)).set 3 (.bool ro)).set 4 (.int .i64 rn);simpa only [List.set_cons_succ,List.set_cons_zero] using this
  have hS1:∀ x∈S1,x≠w.heap.size + 2∧x≠w.heap.size + 1:=fun x hx=>by
   rcases sS1 x hx with h | h
   ·have:=HLT.out x h;omega
   ·have:=HSZ.out;omega
  have hM2:=hM1.keep K12.out (fun x hx=>by simp;exact (hS1 x hx).1);have HR2:=Lib.hid hr2;have HZ82:=Lib.hid (hz8.keep K12.out (by simp));have HM2:=Lib.hid hM2;have HK1:=Lib.hid kS1;have HSS1:=Lib.hid sS1;have HS1:=Lib.hid hS1;have m1:w2.cell? ⟨b,1,none⟩=some (.map (some bm1)):=hM2.cells.2.1;clear hM1 hz10 hz8 hr2 hM2 kS1 sS1 hS1 hpe
  go_wp2_with (at_delete;go_must (refine wp_mapDel (f:=f1) Try.underlying3 Try.underlying78 hgw HM2.out.map ?_))
  intro w3 m3 k3;have hbm:w.heap.size + 2≠bm1∧w.heap.size + 1≠bm1:=⟨fun e=>(HS1.out bm1 HM2.out.sm).1 e.symm,fun e=>(HS1.out bm1 HM2.out.sm).2 e.symm⟩
  have HR3:=Lib.hid (HR2.out.keep k3 (by simp;exact hbm.1));have HZ83:=Lib.hid (HZ82.out.keep k3 (by simp;exact hbm.2));obtain ⟨hM3,kS3⟩:=HM2.out.drop g m3 k3;have HM3:=Lib.hid hM3;have HK3:=Lib.hid kS3;obtain ⟨⟨r0,r1,r2,r3,r4⟩,_⟩:=Blk.res5 HR3.out;clear m3 k3 hbm hM3 kS3 hw2 d0 d1 d2 d3 d4 e0 e1 e2 e3 e4;have hz:=HZ83.out
  try unfold ZR at hz
  obtain ⟨⟨d0,d1,d2,d3,d4⟩,e0,e1,e2,e3,e4⟩:=Blk.res5 hz;have hzz:=((((hz.set 0 (.int .i64 rc)).set 1 (.int .i64 rcs)).set 2 (.int .i64 rv)).set 3 (.bool ro)).set 4 (.int .i64 rn);simp only [List.set_cons_succ,List.set_cons_zero] at hzz;have HZZ:=Lib.hid hzz;have KW:=Lib.hid ((((((Keeps.refl [w.heap.size + 1] (w3)).setCell (p:=⟨w.heap.size + 1,0,none⟩) (by simp) (.int .i64 rc)).setCell (p:=⟨w.heap.size + 1,1,none⟩) (by simp) (.int .i64 rcs)).setCell (p:=⟨w.heap.size + 1,2,none⟩) (by simp) (.int .i64 rv)).setCell (p:=⟨w.heap.size + 1,3,none⟩) (by simp) (.bool ro)).setCell (p:=⟨w.heap.size + 1,4,none⟩) (by simp) (.int .i64 rn));clear hz hzz
  go_wp2_with fail
  obtain ⟨⟨z0,z1,z2,z3,z4⟩,_⟩:=Blk.res5 HZZ.out;refine bodyPost_ret (v:=.tuple #[.agg #[.int .i64 rc,.int .i64 rcs,.int .i64 rv,.bool ro,.int .i64 rn],.bool true]) (by simp [results,Try.results40,go_sem,z0,z1,z2,z3,z4]) rfl ?_;exact do_some ⟨rc,rcs,rv,ro,rn⟩ (by rw [← HD.out,HE.out]) (by rw [← HD.out,HE.out]) (fire_fin K0.out HSZ.out HK1.out HSS1.out K12.out HK3.out ⟨b,bm1,_,_,_,_,_,_,rfl,HM3.out.mono1⟩ HLT.out KW.out)
 by_cases hk:o.kind=8
 ·have hk1:(o.kind == 1)=false:=by simp [hk]
  have hk7:(o.kind == 7)=false:=by simp [hk]
  have hk8:(o.kind == 8)=true:=by simp [hk]
  have hk6:(o.kind == 6)=false:=by simp [hk]
  obtain ⟨⟨rc,rcs,rv,ro,rn⟩,hr⟩:∃ r:Md.Res,Md.looks st.chans o=r:=⟨_,rfl⟩
  have HE:Hid (Md.fire st g o i=(⟨st.chans,Md.drops st.waits g⟩,some ⟨rc,rcs,rv,ro,rn⟩)):=Lib.hid (by unfold Md.fire Md.fires;simp [hk,hr]);have HRR:=Lib.hid hr;clear hk hr
  go_wp2_with fail
  refine (model_looks _ _ st N S o _ HM0.out).mono ?_;rw [HRR.out]
  rintro e w1 ⟨rfl,S1,hM1,kS1,sS1⟩
  unfold resV;clear hw0 b0 b1' b2 b3 b4 b5;obtain ⟨b1,bm1,vh1,T1,Us1,SW1,f1,col1,hpe,hM1⟩:=hM1;obtain rfl:b=b1:=by simpa using hpe
  have hz10:=HZ10.out.keep kS1 (fun hm=>by have:=HLT.out _ hm;omega);have hz8:=HZ8.out.keep kS1 (fun hm=>by have:=HLT.out _ hm;omega);unfold ZR at hz10;obtain ⟨⟨d0,d1,d2,d3,d4⟩,e0,e1,e2,e3,e4⟩:=Blk.res5 hz10;obtain ⟨w2,hw2⟩:∃ w2,(((((w1.setCell ⟨w.heap.size + 2,0,none⟩ (.int .i64 rc)).setCell ⟨w.heap.size + 2,1,none⟩ (.int .i64 rcs)).setCell ⟨w.heap.size + 2,2,none⟩ (.int .i64 rv)).setCell ⟨w.heap.size + 2,3,none⟩ (.bool ro)).setCell ⟨w.heap.size + 2,4,none⟩ (.int .i64 rn))=w2:=⟨_,rfl⟩
  have K12:Hid (Keeps [w.heap.size + 2] w1 w2):=Lib.hid (by rw [← hw2];exact ((((((Keeps.refl [w.heap.size + 2] w1).setCell (p:=⟨w.heap.size + 2,0,none⟩) (by simp) (.int .i64 rc)).setCell (p:=⟨w.heap.size + 2,1,none⟩) (by simp) (.int .i64 rcs)).setCell (p:=⟨w.heap.size + 2,2,none⟩) (by simp) (.int .i64 rv)).setCell (p:=⟨w.heap.size + 2,3,none⟩) (by simp) (.bool ro)).setCell (p:=⟨w.heap.size + 2,4,none⟩) (by simp) (.int .i64 rn)));have hr2:Blk w2 (w.heap.size + 2) [.int .i64 rc,.int .i64 rcs,.int .i64 rv,.bool ro,.int .i64 rn] 50:=by
   rw [← hw2];have:=((((hz10.set 0 (.int .i64 rc)).set 1 (.int .i64 rcs)).set 2 (.int .i64 rv)).set 3 (.bool ro)).set 4 (.int .i64 rn);simpa only [List.set_cons_succ,List.set_cons_zero] using this
  have hS1:∀ x∈S1,x≠w.heap.size + 2∧x≠w.heap.size + 1:=fun x hx=>by
   rcases sS1 x hx with h | h
   ·have:=HLT.out x h;omega
   ·have:=HSZ.out;omega
  have hM2:=hM1.keep K12.out (fun x hx=>by simp;exact (hS1 x hx).1);have HR2:=Lib.hid hr2;have HZ82:=Lib.hid (hz8.keep K12.out (by simp));have HM2:=Lib.hid hM2;have HK1:=Lib.hid kS1;have HSS1:=Lib.hid sS1;have HS1:=Lib.hid hS1;have m1:w2.cell? ⟨b,1,none⟩=some (.map (some bm1)):=hM2.cells.2.1;clear hM1 hz10 hz8 hr2 hM2 kS1 sS1 hS1 hpe
  go_wp2_with (at_delete;go_must (refine wp_mapDel (f:=f1) Try.underlying3 Try.underlying78 hgw HM2.out.map ?_))
  intro w3 m3 k3;have hbm:w.heap.size + 2≠bm1∧w.heap.size + 1≠bm1:=⟨fun e=>(HS1.out bm1 HM2.out.sm).1 e.symm,fun e=>(HS1.out bm1 HM2.out.sm).2 e.symm⟩
  have HR3:=Lib.hid (HR2.out.keep k3 (by simp;exact hbm.1));have HZ83:=Lib.hid (HZ82.out.keep k3 (by simp;exact hbm.2));obtain ⟨hM3,kS3⟩:=HM2.out.drop g m3 k3;have HM3:=Lib.hid hM3;have HK3:=Lib.hid kS3;obtain ⟨⟨r0,r1,r2,r3,r4⟩,_⟩:=Blk.res5 HR3.out;clear m3 k3 hbm hM3 kS3 hw2 d0 d1 d2 d3 d4 e0 e1 e2 e3 e4;have hz:=HZ83.out
  try unfold ZR at hz
  obtain ⟨⟨d0,d1,d2,d3,d4⟩,e0,e1,e2,e3,e4⟩:=Blk.res5 hz;have hzz:=((((hz.set 0 (.int .i64 rc)).set 1 (.int .i64 rcs)).set 2 (.int .i64 rv)).set 3 (.bool ro)).set 4 (.int .i64 rn);simp only [List.set_cons_succ,List.set_cons_zero] at hzz;have HZZ:=Lib.hid hzz;have KW:=Lib.hid ((((((Keeps.refl [w.heap.size + 1] (w3)).setCell (p:=⟨w.heap.size + 1,0,none⟩) (by simp) (.int .i64 rc)).setCell (p:=⟨w.heap.size + 1,1,none⟩) (by simp) (.int .i64 rcs)).setCell (p:=⟨w.heap.size + 1,2,none⟩) (by simp) (.int .i64 rv)).setCell (p:=⟨w.heap.size + 1,3,none⟩) (by simp) (.bool ro)).setCell (p:=⟨w.heap.size + 1,4,none⟩) (by simp) (.int .i64 rn));clear hz hzz
  go_wp2_with fail
  obtain ⟨⟨z0,z1,z2,z3,z4⟩,_⟩:=Blk.res5 HZZ.out;refine bodyPost_ret (v:=.tuple #[.agg #[.int .i64 rc,.int .i64 rcs,.int .i64 rv,.bool ro,.int .i64 rn],.bool true]) (by simp [results,Try.results40,go_sem,z0,z1,z2,z3,z4]) rfl ?_;exact do_some ⟨rc,rcs,rv,ro,rn⟩ (by rw [← HD.out,HE.out]) (by rw [← HD.out,HE.out]) (fire_fin K0.out HSZ.out HK1.out HSS1.out K12.out HK3.out ⟨b,bm1,_,_,_,_,_,_,rfl,HM3.out.mono1⟩ HLT.out KW.out)
 by_cases hk:o.kind=6
 ·have hk1:(o.kind == 1)=false:=by simp [hk]
  have hk7:(o.kind == 7)=false:=by simp [hk]
  have hk8:(o.kind == 8)=false:=by simp [hk]
  have hk6:(o.kind == 6)=true:=by simp [hk]
  obtain ⟨⟨rc,rcs,rv,ro,rn⟩,hr⟩:∃ r:Md.Res,(Md.closes st.chans o.ch).2=r:=⟨_,rfl⟩
  have HE:Hid (Md.fire st g o i=(⟨(Md.closes st.chans o.ch).1,Md.drops st.waits g⟩,some ⟨rc,rcs,rv,ro,rn⟩)):=Lib.hid (by unfold Md.fire Md.fires;simp [hk,hr]);have HRR:=Lib.hid hr;clear hk hr
  go_wp2_with fail
  refine (model_closes _ _ st N S o.ch HM0.out).mono ?_;rw [HRR.out]
  rintro e w1 ⟨rfl,S1,hM1,kS1,sS1⟩
  unfold resV;clear hw0 b0 b1' b2 b3 b4 b5;obtain ⟨b1,bm1,vh1,T1,Us1,SW1,f1,col1,hpe,hM1⟩:=hM1;obtain rfl:b=b1:=by simpa using hpe
  have hz10:=HZ10.out.keep kS1 (fun hm=>by have:=HLT.out _ hm;omega);have hz8:=HZ8.out.keep kS1 (fun hm=>by have:=HLT.out _ hm;omega);unfold ZR at hz10;obtain ⟨⟨d0,d1,d2,d3,d4⟩,e0,e1,e2,e3,e4⟩:=Blk.res5 hz10;obtain ⟨w2,hw2⟩:∃ w2,(((((w1.setCell ⟨w.heap.size + 2,0,none⟩ (.int .i64 rc)).setCell ⟨w.heap.size + 2,1,none⟩ (.int .i64 rcs)).setCell ⟨w.heap.size + 2,2,none⟩ (.int .i64 rv)).setCell ⟨w.heap.size + 2,3,none⟩ (.bool ro)).setCell ⟨w.heap.size + 2,4,none⟩ (.int .i64 rn))=w2:=⟨_,rfl⟩
  have K12:Hid (Keeps [w.heap.size + 2] w1 w2):=Lib.hid (by rw [← hw2];exact ((((((Keeps.refl [w.heap.size + 2] w1).setCell (p:=⟨w.heap.size + 2,0,none⟩) (by simp) (.int .i64 rc)).setCell (p:=⟨w.heap.size + 2,1,none⟩) (by simp) (.int .i64 rcs)).setCell (p:=⟨w.heap.size + 2,2,none⟩) (by simp) (.int .i64 rv)).setCell (p:=⟨w.heap.size + 2,3,none⟩) (by simp) (.bool ro)).setCell (p:=⟨w.heap.size + 2,4,none⟩) (by simp) (.int .i64 rn)));have hr2:Blk w2 (w.heap.size + 2) [.int .i64 rc,.int .i64 rcs,.int .i64 rv,.bool ro,.int .i64 rn] 50:=by
   rw [← hw2];have:=((((hz10.set 0 (.int .i64 rc)).set 1 (.int .i64 rcs)).set 2 (.int .i64 rv)).set 3 (.bool ro)).set 4 (.int .i64 rn);simpa only [List.set_cons_succ,List.set_cons_zero] using this
  have hS1:∀ x∈S1,x≠w.heap.size + 2∧x≠w.heap.size + 1:=fun x hx=>by
   rcases sS1 x hx with h | h
   ·have:=HLT.out x h;omega
   ·have:=HSZ.out;omega
  have hM2:=hM1.keep K12.out (fun x hx=>by simp;exact (hS1 x hx).1);have HR2:=Lib.hid hr2;have HZ82:=Lib.hid (hz8.keep K12.out (by simp));have HM2:=Lib.hid hM2;have HK1:=Lib.hid kS1;have HSS1:=Lib.hid sS1;have HS1:=Lib.hid hS1;have m1:w2.cell? ⟨b,1,none⟩=some (.map (some bm1)):=hM2.cells.2.1;clear hM1 hz10 hz8 hr2 hM2 kS1 sS1 hS1 hpe
  go_wp2_with (at_delete;go_must (refine wp_mapDel (f:=f1) Try.underlying3 Try.underlying78 hgw HM2.out.map ?_))
  intro w3 m3 k3;have hbm:w.heap.size + 2≠bm1∧w.heap.size + 1≠bm1:=⟨fun e=>(HS1.out bm1 HM2.out.sm).1 e.symm,fun e=>(HS1.out bm1 HM2.out.sm).2 e.symm⟩
  have HR3:=Lib.hid (HR2.out.keep k3 (by simp;exact hbm.1));have HZ83:=Lib.hid (HZ82.out.keep k3 (by simp;exact hbm.2));obtain ⟨hM3,kS3⟩:=HM2.out.drop g m3 k3;have HM3:=Lib.hid hM3;have HK3:=Lib.hid kS3;obtain ⟨⟨r0,r1,r2,r3,r4⟩,_⟩:=Blk.res5 HR3.out;clear m3 k3 hbm hM3 kS3 hw2 d0 d1 d2 d3 d4 e0 e1 e2 e3 e4;have hz:=HZ83.out
  try unfold ZR at hz
  obtain ⟨⟨d0,d1,d2,d3,d4⟩,e0,e1,e2,e3,e4⟩:=Blk.res5 hz;have hzz:=((((hz.set 0 (.int .i64 rc)).set 1 (.int .i64 rcs)).set 2 (.int .i64 rv)).set 3 (.bool ro)).set 4 (.int .i64 rn);simp only [List.set_cons_succ,List.set_cons_zero] at hzz;have HZZ:=Lib.hid hzz;have KW:=Lib.hid ((((((Keeps.refl [w.heap.size + 1] (w3)).setCell (p:=⟨w.heap.size + 1,0,none⟩) (by simp) (.int .i64 rc)).setCell (p:=⟨w.heap.size + 1,1,none⟩) (by simp) (.int .i64 rcs)).setCell (p:=⟨w.heap.size + 1,2,none⟩) (by simp) (.int .i64 rv)).setCell (p:=⟨w.heap.size + 1,3,none⟩) (by simp) (.bool ro)).setCell (p:=⟨w.heap.size + 1,4,none⟩) (by simp) (.int .i64 rn));clear hz hzz
  go_wp2_with fail
  obtain ⟨⟨z0,z1,z2,z3,z4⟩,_⟩:=Blk.res5 HZZ.out;refine bodyPost_ret (v:=.tuple #[.agg #[.int .i64 rc,.int .i64 rcs,.int .i64 rv,.bool ro,.int .i64 rn],.bool true]) (by simp [results,Try.results40,go_sem,z0,z1,z2,z3,z4]) rfl ?_;exact do_some ⟨rc,rcs,rv,ro,rn⟩ (by rw [← HD.out,HE.out]) (by rw [← HD.out,HE.out]) (fire_fin K0.out HSZ.out HK1.out HSS1.out K12.out HK3.out ⟨b,bm1,_,_,_,_,_,_,rfl,HM3.out.mono1⟩ HLT.out KW.out)
 have hk1:(o.kind == 1)=false:=by simp [*]
 have hk7:(o.kind == 7)=false:=by simp [*]
 have hk8:(o.kind == 8)=false:=by simp [*]
 have hk6:(o.kind == 6)=false:=by simp [*]
 have hfs:Md.fires st.chans o i=Md.does st.chans o i:=by unfold Md.fires;simp [*]
 obtain ⟨⟨l',r'⟩,hr⟩:∃ x,Md.does st.chans o i=x:=⟨_,rfl⟩
 cases r' with
 | none =>
  have HE:Hid (Md.fire st g o i=(st,none)):=Lib.hid (by unfold Md.fire;rw [hfs,hr]);have HL:Hid (l'=st.chans):=Lib.hid (by have:=does_none (l:=st.chans) (o:=o) (i:=i);rw [hr] at this;exact this rfl);have HRR:=Lib.hid hr;clear hr hfs
  go_wp2_with fail
  refine (model_side _ _ st N S o _ U i HM0.out HV.out hN).mono ?_;rw [HRR.out]
  rintro e w1 ⟨rfl,S1,hM1,kS1,sS1⟩
  unfold optV resV Md.noRes;simp only [Option.getD_none,Option.isSome_none];clear hw0 b0 b1' b2 b3 b4 b5;obtain ⟨b1,bm1,vh1,T1,Us1,SW1,f1,col1,hpe,hM1⟩:=hM1;obtain rfl:b=b1:=by simpa using hpe
  have hz10:=HZ10.out.keep kS1 (fun hm=>by have:=HLT.out _ hm;omega);have hz8:=HZ8.out.keep kS1 (fun hm=>by have:=HLT.out _ hm;omega);unfold ZR at hz10;obtain ⟨⟨d0,d1,d2,d3,d4⟩,e0,e1,e2,e3,e4⟩:=Blk.res5 hz10;obtain ⟨w2,hw2⟩:∃ w2,(((((w1.setCell ⟨w.heap.size + 2,0,none⟩ (.int .i64 0)).setCell ⟨w.heap.size + 2,1,none⟩ (.int .i64 0)).setCell ⟨w.heap.size + 2,2,none⟩ (.int .i64 0)).setCell ⟨w.heap.size + 2,3,none⟩ (.bool false)).setCell ⟨w.heap.size + 2,4,none⟩ (.int .i64 0))=w2:=⟨_,rfl⟩
  have K12:Hid (Keeps [w.heap.size + 2] w1 w2):=Lib.hid (by rw [← hw2];exact ((((((Keeps.refl [w.heap.size + 2] w1).setCell (p:=⟨w.heap.size + 2,0,none⟩) (by simp) (.int .i64 0)).setCell (p:=⟨w.heap.size + 2,1,none⟩) (by simp) (.int .i64 0)).setCell (p:=⟨w.heap.size + 2,2,none⟩) (by simp) (.int .i64 0)).setCell (p:=⟨w.heap.size + 2,3,none⟩) (by simp) (.bool false)).setCell (p:=⟨w.heap.size + 2,4,none⟩) (by simp) (.int .i64 0)));have hr2:Blk w2 (w.heap.size + 2) [.int .i64 0,.int .i64 0,.int .i64 0,.bool false,.int .i64 0] 50:=by
   rw [← hw2];have:=((((hz10.set 0 (.int .i64 0)).set 1 (.int .i64 0)).set 2 (.int .i64 0)).set 3 (.bool false)).set 4 (.int .i64 0);simpa only [List.set_cons_succ,List.set_cons_zero] using this
  have hS1:∀ x∈S1,x≠w.heap.size + 2∧x≠w.heap.size + 1:=fun x hx=>by
   rcases sS1 x hx with h | h
   ·have:=HLT.out x h;omega
   ·have:=HSZ.out;omega
  have hM2:=hM1.keep K12.out (fun x hx=>by simp;exact (hS1 x hx).1);have HR2:=Lib.hid hr2;have HZ82:=Lib.hid (hz8.keep K12.out (by simp));have HM2:=Lib.hid hM2;have HK1:=Lib.hid kS1;have HSS1:=Lib.hid sS1;have HS1:=Lib.hid hS1;clear hM1 hz10 hz8 hr2 hM2 kS1 sS1 hS1 hpe;have hz:=HZ82.out
  try unfold ZR at hz
  obtain ⟨⟨d0',d1',d2',d3',d4'⟩,e0',e1',e2',e3',e4'⟩:=Blk.res5 hz;have hzz:=((((hz.set 0 (.int .i64 0)).set 1 (.int .i64 0)).set 2 (.int .i64 0)).set 3 (.bool false)).set 4 (.int .i64 0);simp only [List.set_cons_succ,List.set_cons_zero] at hzz;have HZZ:=Lib.hid hzz;have KW:=Lib.hid ((((((Keeps.refl [w.heap.size + 1] (w2)).setCell (p:=⟨w.heap.size + 1,0,none⟩) (by simp) (.int .i64 0)).setCell (p:=⟨w.heap.size + 1,1,none⟩) (by simp) (.int .i64 0)).setCell (p:=⟨w.heap.size + 1,2,none⟩) (by simp) (.int .i64 0)).setCell (p:=⟨w.heap.size + 1,3,none⟩) (by simp) (.bool false)).setCell (p:=⟨w.heap.size + 1,4,none⟩) (by simp) (.int .i64 0));clear hz hzz
  go_wp2_with fail
  obtain ⟨⟨z0,z1,z2,z3,z4⟩,_⟩:=Blk.res5 HZZ.out;refine bodyPost_ret (v:=.tuple #[.agg #[.int .i64 0,.int .i64 0,.int .i64 0,.bool false,.int .i64 0],.bool false]) (by simp [results,Try.results40,go_sem,z0,z1,z2,z3,z4]) rfl ?_;exact do_none (by rw [← HD.out,HE.out]) (by rw [← HD.out,HE.out,HL.out]) (fire_fin K0.out HSZ.out HK1.out HSS1.out K12.out (Keeps.refl S1 w2) ⟨b,bm1,_,_,_,_,_,_,rfl,HM2.out⟩ HLT.out KW.out)
 | some r =>
  obtain ⟨rc,rcs,rv,ro,rn⟩:=r;have HE:Hid (Md.fire st g o i=(⟨l',Md.drops st.waits g⟩,some ⟨rc,rcs,rv,ro,rn⟩)):=Lib.hid (by unfold Md.fire;rw [hfs,hr]);have HRR:=Lib.hid hr;clear hr hfs
  go_wp2_with fail
  refine (model_side _ _ st N S o _ U i HM0.out HV.out hN).mono ?_;rw [HRR.out]
  rintro e w1 ⟨rfl,S1,hM1,kS1,sS1⟩
  unfold optV resV;simp only [Option.getD_some,Option.isSome_some];clear hw0 b0 b1' b2 b3 b4 b5;obtain ⟨b1,bm1,vh1,T1,Us1,SW1,f1,col1,hpe,hM1⟩:=hM1;obtain rfl:b=b1:=by simpa using hpe
  have hz10:=HZ10.out.keep kS1 (fun hm=>by have:=HLT.out _ hm;omega);have hz8:=HZ8.out.keep kS1 (fun hm=>by have:=HLT.out _ hm;omega);unfold ZR at hz10;obtain ⟨⟨d0,d1,d2,d3,d4⟩,e0,e1,e2,e3,e4⟩:=Blk.res5 hz10;obtain ⟨w2,hw2⟩:∃ w2,(((((w1.setCell ⟨w.heap.size + 2,0,none⟩ (.int .i64 rc)).setCell ⟨w.heap.size + 2,1,none⟩ (.int .i64 rcs)).setCell ⟨w.heap.size + 2,2,none⟩ (.int .i64 rv)).setCell ⟨w.heap.size + 2,3,none⟩ (.bool ro)).setCell ⟨w.heap.size + 2,4,none⟩ (.int .i64 rn))=w2:=⟨_,rfl⟩
  have K12:Hid (Keeps [w.heap.size + 2] w1 w2):=Lib.hid (by rw [← hw2];exact ((((((Keeps.refl [w.heap.size + 2] w1).setCell (p:=⟨w.heap.size + 2,0,none⟩) (by simp) (.int .i64 rc)).setCell (p:=⟨w.heap.size + 2,1,none⟩) (by simp) (.int .i64 rcs)).setCell (p:=⟨w.heap.size + 2,2,none⟩) (by simp) (.int .i64 rv)).setCell (p:=⟨w.heap.size + 2,3,none⟩) (by simp) (.bool ro)).setCell (p:=⟨w.heap.size + 2,4,none⟩) (by simp) (.int .i64 rn)));have hr2:Blk w2 (w.heap.size + 2) [.int .i64 rc,.int .i64 rcs,.int .i64 rv,.bool ro,.int .i64 rn] 50:=by
   rw [← hw2];have:=((((hz10.set 0 (.int .i64 rc)).set 1 (.int .i64 rcs)).set 2 (.int .i64 rv)).set 3 (.bool ro)).set 4 (.int .i64 rn);simpa only [List.set_cons_succ,List.set_cons_zero] using this
  have hS1:∀ x∈S1,x≠w.heap.size + 2∧x≠w.heap.size + 1:=fun x hx=>by
   rcases sS1 x hx with h | h
   ·have:=HLT.out x h;omega
   ·have:=HSZ.out;omega
  have hM2:=hM1.keep K12.out (fun x hx=>by simp;exact (hS1 x hx).1);have HR2:=Lib.hid hr2;have HZ82:=Lib.hid (hz8.keep K12.out (by simp));have HM2:=Lib.hid hM2;have HK1:=Lib.hid kS1;have HSS1:=Lib.hid sS1;have HS1:=Lib.hid hS1;have m1:w2.cell? ⟨b,1,none⟩=some (.map (some bm1)):=hM2.cells.2.1;clear hM1 hz10 hz8 hr2 hM2 kS1 sS1 hS1 hpe
  go_wp2_with (at_delete;go_must (refine wp_mapDel (f:=f1) Try.underlying3 Try.underlying78 hgw HM2.out.map ?_))
  intro w3 m3 k3;have hbm:w.heap.size + 2≠bm1∧w.heap.size + 1≠bm1:=⟨fun e=>(HS1.out bm1 HM2.out.sm).1 e.symm,fun e=>(HS1.out bm1 HM2.out.sm).2 e.symm⟩
  have HR3:=Lib.hid (HR2.out.keep k3 (by simp;exact hbm.1));have HZ83:=Lib.hid (HZ82.out.keep k3 (by simp;exact hbm.2));obtain ⟨hM3,kS3⟩:=HM2.out.drop g m3 k3;have HM3:=Lib.hid hM3;have HK3:=Lib.hid kS3;obtain ⟨⟨r0,r1,r2,r3,r4⟩,_⟩:=Blk.res5 HR3.out;clear m3 k3 hbm hM3 kS3 hw2 d0 d1 d2 d3 d4 e0 e1 e2 e3 e4;have hz:=HZ83.out
  try unfold ZR at hz
  obtain ⟨⟨d0,d1,d2,d3,d4⟩,e0,e1,e2,e3,e4⟩:=Blk.res5 hz;have hzz:=((((hz.set 0 (.int .i64 rc)).set 1 (.int .i64 rcs)).set 2 (.int .i64 rv)).set 3 (.bool ro)).set 4 (.int .i64 rn);simp only [List.set_cons_succ,List.set_cons_zero] at hzz;have HZZ:=Lib.hid hzz;have KW:=Lib.hid ((((((Keeps.refl [w.heap.size + 1] (w3)).setCell (p:=⟨w.heap.size + 1,0,none⟩) (by simp) (.int .i64 rc)).setCell (p:=⟨w.heap.size + 1,1,none⟩) (by simp) (.int .i64 rcs)).setCell (p:=⟨w.heap.size + 1,2,none⟩) (by simp) (.int .i64 rv)).setCell (p:=⟨w.heap.size + 1,3,none⟩) (by simp) (.bool ro)).setCell (p:=⟨w.heap.size + 1,4,none⟩) (by simp) (.int .i64 rn));clear hz hzz
  go_wp2_with fail
  obtain ⟨⟨z0,z1,z2,z3,z4⟩,_⟩:=Blk.res5 HZZ.out;refine bodyPost_ret (v:=.tuple #[.agg #[.int .i64 rc,.int .i64 rcs,.int .i64 rv,.bool ro,.int .i64 rn],.bool true]) (by simp [results,Try.results40,go_sem,z0,z1,z2,z3,z4]) rfl ?_;exact do_some ⟨rc,rcs,rv,ro,rn⟩ (by rw [← HD.out,HE.out]) (by rw [← HD.out,HE.out]) (fire_fin K0.out HSZ.out HK1.out HSS1.out K12.out HK3.out ⟨b,bm1,_,_,_,_,_,_,rfl,HM3.out⟩ HLT.out KW.out)
end Go.Proofs.Ytdibmkjoaghafaa
