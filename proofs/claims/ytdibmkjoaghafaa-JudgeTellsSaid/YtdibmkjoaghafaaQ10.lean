/-
  What the laws need, part Q10.
  Conditions: none.
-/
import Derived.Test.YtdibmkjoaghafaaQ9
import Derived.Deep.DrawnRows
set_option linter.unusedVariables false
set_option linter.unusedSimpArgs false
set_option linter.unnecessarySimpa false
set_option maxHeartbeats 2000000
namespace Go.Proofs.Ytdibmkjoaghafaa
open Go.RowKit
section
variable {w w':World} {b bm:Nat} {vc:Value} {st:Md.St} {N M:Nat} {S T X SW:List Nat} {Us:List (List Nat)} {f:Int→Option Value} {col:Nat→Nat} {p:Value} {g off m cap k:Nat} {c:Md.Ch}
theorem MoAt.shut (h:MoAt w b bm (.slice (some ⟨g,off,none⟩) m cap) st N S T Us SW f col) (hk:st.chans[k]?=some c) :
  MoAt (w.setCell ⟨g,off + k * 3 + 2,none⟩ (.bool true)) b bm (.slice (some ⟨g,off,none⟩) m cap) ⟨st.chans.set k ⟨c.cap,c.buf,true⟩,st.waits⟩ N S T Us SW f col∧Keeps S w (w.setCell ⟨g,off + k * 3 + 2,none⟩ (.bool true)):=by
 obtain ⟨n1,n2,n3,n4,n5⟩:=h.nT;obtain ⟨r,kp⟩:=h.chans.shut hk;exact ⟨⟨h.blk.keep kp n1,r,h.map.keep kp n2,h.wm.keep kp (fun x hx=>(n4 x hx).1),h.cb,h.cm,h.cw,h.sb,h.sm,h.st,h.su,h.sw,fun x hx=>Nat.lt_of_lt_of_le (h.lt x hx) kp.size⟩,kp.mono (fun x hx=>.inl (h.st x hx))⟩
theorem MoAt.put {U U':List Nat} {bv':Value} {buf':List Int} (h:MoAt w b bm (.slice (some ⟨g,off,none⟩) m cap) st N S T Us SW f col) (hk:st.chans[k]?=some c) (hU:Us[k]?=some U)
  (kp:Keeps U w w') (hr':KR .i64 w' bv' 2 buf' U') (hn:∀ x∈U',x∈U∨w.heap.size≤x) (hM:N≤M) (hb:buf'.length≤M) :
  ∃ S' Us' col',MoAt (w'.setCell ⟨g,off + k * 3 + 1,none⟩ bv') b bm (.slice (some ⟨g,off,none⟩) m cap) ⟨st.chans.set k ⟨c.cap,buf',c.closed⟩,st.waits⟩ M S' T Us' SW f col'∧Keeps S w (w'.setCell ⟨g,off + k * 3 + 1,none⟩ bv')∧∀ x∈S',x∈S∨w.heap.size≤x:=by
 obtain ⟨n1,n2,n3,n4,n5⟩:=h.nT;obtain ⟨u1,u2,u3,u4⟩:=n5 k U hU;obtain ⟨r,kq⟩:=h.chans.put hk hU kp hr' hn hM hb;have hS:∀ x∈U',x < (w'.setCell ⟨g,off + k * 3 + 1,none⟩ bv').heap.size:=fun x hx=>by have:=hr'.lt x hx;simpa [World.setCell] using this
 have hq:∀ x,x∉T→x∉U→x∉T ++ U:=fun x h1 h2 h3=>by rcases List.mem_append.1 h3 with h | h;exact h1 h;exact h2 h
 refine ⟨S ++ U',_,_,⟨h.blk.keep kq (hq b n1 u1),r,(h.map.keep kq (hq bm n2 u2)).mono hM,h.wm.keep kq (fun x hx=>hq x (n4 x hx).1 (u3 x hx)),?_,?_,?_,by simp [h.sb],by simp [h.sm],fun x hx=>by simp [h.st x hx],?_,fun x hx=>by simp [h.sw x hx],?_⟩,kq.mono ?_,?_⟩
 ·have:=h.lt b h.sb;simp [this,h.cb]
 ·have:=h.lt bm h.sm;simp [this,h.cm]
 ·intro x hx;have:=h.lt x (h.sw x hx);simp [this,h.cw x hx]
 ·intro A hA x hx;rcases List.mem_or_eq_of_mem_set hA with h1 | rfl
  ·simp [h.su A h1 x hx]
  ·simp [hx]
 ·intro x hx;rcases List.mem_append.1 hx with h1 | h1
  ·exact Nat.lt_of_lt_of_le (h.lt x h1) kq.size
  ·exact hS x h1
 ·intro x hx;rcases List.mem_append.1 hx with h1 | h1
  ·exact .inl (h.st x h1)
  ·exact .inl (h.su U (List.mem_of_getElem? hU) x h1)
 ·intro x hx;rcases List.mem_append.1 hx with h1 | h1
  ·exact .inl h1
  ·rcases hn x h1 with h2 | h2
   ·exact .inl (h.su U (List.mem_of_getElem? hU) x h2)
   ·exact .inr h2
theorem MoAt.drop (h:MoAt w b bm vc st N S T Us SW f col) (x:Int) (hm:MapV Try.prog 3 w' bm N (fun z=>if z=x then none else f z)) (kp:Keeps [bm] w w') :
  MoAt w' b bm vc ⟨st.chans,Md.drops st.waits x⟩ N S T Us SW (fun z=>if z=x then none else f z) col∧Keeps S w w':=by
 obtain ⟨n1,n2,n3,n4,n5⟩:=h.nT;refine ⟨⟨h.blk.keep kp (by simpa using n3),h.chans.keep kp (fun y hy=>?_) (fun U hU y hy=>?_),hm,(h.wm.keep kp (fun y hy=>by simpa using (n4 y hy).2.2)).drop x,h.cb,h.cm,h.cw,h.sb,h.sm,h.st,h.su,h.sw,fun y hy=>Nat.lt_of_lt_of_le (h.lt y hy) kp.size⟩,kp.mono (fun y hy=>by simp at hy;subst hy;exact .inl h.sm)⟩
 ·simp;intro e;subst e;exact n2 hy
 ·simp;intro e;subst e;obtain ⟨j,hj⟩:=List.mem_iff_getElem?.1 hU;exact (n5 j U hj).2.1 hy
theorem MoAt.add {w0:World} {U:List Nat} {o:Pn.Op} {vo:Value} (h:MoAt w0 b bm vc st N S T Us SW f col) (k0:Keeps [] w0 w) (x:Int) (hwx:wf64L x) (hm:MapV Try.prog 3 w' bm (N + 1) (fun z=>if z=x then some (.agg (opV o vo)) else f z)) (kp:Keeps [bm] w w')
  (hv:GV caseE 3 w vo o.cases U) (hU:∀ y∈U,w0.heap.size≤y) :
  ∃ S' SW' col',MoAt w' b bm vc ⟨st.chans,fun z=>if z=x then some o else st.waits z⟩ (N + 1) S' T Us SW' (fun z=>if z=x then some (.agg (opV o vo)) else f z) col'∧Keeps S w0 w'∧∀ y∈S',y∈S∨w0.heap.size≤y:=by
 obtain ⟨n1,n2,n3,n4,n5⟩:=h.nT;have hbm:=h.lt bm h.sm;have hUm:∀ y∈U,y≠bm:=fun y hy e=>by have:=hU y hy;omega
 have h2:=h.then k0;have hlt:=h.chans.lt;obtain ⟨⟨xs,hr,hp⟩,q3,q4,q5⟩:=h.chans;have hch:=(h2.chans.mono (Nat.le_succ N)).keep kp (fun y hy=>by simp;intro e;subst e;exact n2 hy) (fun A hA y hy=>by
  simp;intro e;subst e;obtain ⟨j,hj⟩:=List.mem_iff_getElem?.1 hA;exact (n5 j A hj).2.1 hy)
 obtain ⟨c1,c2,c3,c4⟩:=hch;refine ⟨S ++ U,SW ++ U,fun y=>if y < w0.heap.size then col y else 3,⟨h2.blk.keep kp (by simpa using n3),⟨c1,c2,fun y hy=>?_,fun j A hA y hy=>?_⟩,hm,?_,?_,?_,?_,by simp [h.sb],by simp [h.sm],fun y hy=>by simp [h.st y hy],fun A hA y hy=>by simp [h.su A hA y hy],?_,?_⟩,(k0.mono (by simp)).trans kp (fun y hy=>by simp at hy;subst hy;exact .inl h.sm),?_⟩
 ·have:=hlt.1 y hy;simp [this,q4 y hy]
 ·have:=hlt.2 A (List.mem_of_getElem? hA) y hy;simp [this,q5 j A hA y hy]
 ·exact (h2.wm.keep kp (fun y hy=>by simpa using (n4 y hy).2.2)).add x hwx o vo (hv.keep caseE_kept kp (fun y hy=>by simpa using hUm y hy))
 ·have:=h.lt b h.sb;simp [this,h.cb]
 ·simp [hbm,h.cm]
 ·intro y hy;rcases List.mem_append.1 hy with h1 | h1
  ·have:=h.lt y (h.sw y h1);simp [this,h.cw y h1]
  ·have:=hU y h1;simp [show ¬ y < w0.heap.size by omega]
 ·intro y hy;rcases List.mem_append.1 hy with h1 | h1
  ·simp [h.sw y h1]
  ·simp [h1]
 ·intro y hy;have:=kp.size;have:=k0.size;rcases List.mem_append.1 hy with h1 | h1
  ·have:=h.lt y h1;omega
  ·have:=hv.lt y h1;omega
 ·intro y hy;rcases List.mem_append.1 hy with h1 | h1
  ·exact .inl h1
  ·exact .inr (hU y h1)
theorem MoAt.more {room:Int} {xs:List Value} {v':Value} {T':List Nat} (h:MoAt w b bm vc st N S T Us SW f col) (hxl:xs.length=st.chans.length * 3)
  (hp:∀ (k:Nat) c U,st.chans[k]?=some c→Us[k]?=some U→∃ bv,xs[k * 3]?=some (.int .i64 c.cap)∧xs[k * 3 + 1]?=some bv∧xs[k * 3 + 2]?=some (.bool c.closed)∧KR .i64 w bv 2 c.buf U∧c.buf.length≤N)
  (hr:Row w' v' 44 3 (st.chans.length + 1) (xs ++ [.int .i64 room,.slice none 0 0,.bool false]) T') (kp:Keeps T w w') (hn:∀ x∈T',x∈T∨w.heap.size≤x) :
  ∃ S' col',MoAt (w'.setCell ⟨b,0,none⟩ v') b bm v' ⟨st.chans ++ [⟨room,[],false⟩],st.waits⟩ N S' T' (Us ++ [[]]) SW f col'∧Keeps S w (w'.setCell ⟨b,0,none⟩ v')∧∀ x∈S',x∈S∨w.heap.size≤x:=by
 obtain ⟨n1,n2,n3,n4,n5⟩:=h.nT;have hlt:=h.chans.lt;obtain ⟨_,q3,q4,q5⟩:=h.chans;have hcr:=CR.more (room:=room) q3 q4 q5 hlt.2 hxl hp hr kp hn hlt.1;have hbT:b∉T':=fun hm=>by
  rcases hn b hm with h1 | h1
  ·exact n1 h1
  ·have:=h.lt b h.sb;omega
 have hbl:=h.blk.keep kp n1;have ks:Keeps [b] w' (w'.setCell ⟨b,0,none⟩ v'):=(Keeps.refl [b] w').setCell (by simp) _;have hb2:=hbl.set 0 v';simp only [List.set_cons_zero] at hb2;refine ⟨S ++ T',_,⟨hb2,hcr.keep ks (fun y hy=>by simp;intro e;subst e;exact hbT hy) (fun U hU y hy=>?_),(h.map.keep kp n2).keep ks (by simp;exact fun e=>n3 e.symm),(h.wm.keep kp (fun y hy=>(n4 y hy).1)).keep ks (fun y hy=>by simpa using (n4 y hy).2.1),?_,?_,?_,by simp [h.sb],by simp [h.sm],fun y hy=>by simp [hy],?_,fun y hy=>by simp [h.sw y hy],?_⟩,(kp.mono (fun y hy=>.inl (h.st y hy))).trans ks (fun y hy=>by simp at hy;subst hy;exact .inl h.sb),?_⟩
 ·simp;intro e;subst e;rcases List.mem_append.1 hU with h1 | h1
  ·obtain ⟨j,hj⟩:=List.mem_iff_getElem?.1 h1;exact (n5 j U hj).1 hy
  ·simp at h1;subst h1;cases hy
 ·have:=h.lt b h.sb;simp [this,h.cb]
 ·have:=h.lt bm h.sm;simp [this,h.cm]
 ·intro y hy;have:=h.lt y (h.sw y hy);simp [this,h.cw y hy]
 ·intro U hU y hy;rcases List.mem_append.1 hU with h1 | h1
  ·simp [h.su U h1 y hy]
  ·simp at h1;subst h1;cases hy
 ·intro y hy;have h1:=kp.size;have h2:=ks.size;rcases List.mem_append.1 hy with h3 | h3
  ·have:=h.lt y h3;omega
  ·have:=hr.lt y h3;omega
 ·intro y hy;rcases List.mem_append.1 hy with h3 | h3
  ·exact .inl h3
  ·rcases hn y h3 with h4 | h4
   ·exact .inl (h.st y h4)
   ·exact .inr h4
end
open Go.RowKit
theorem Md.any_more {o:Pn.Op} {p:Int→Md.Sd→Bool} {k m:Nat} (h:Md.anyUpto o p k=true) (hm:k≤m):Md.anyUpto o p m=true:=by
 induction m with
 | zero =>
  obtain rfl:k=0:=by omega
  exact h
 | succ m ih =>
  by_cases e:k=m + 1
  ·subst e;exact h
  ·show (Md.anyUpto o p m || _)=true;rw [ih (by omega)];rfl
theorem Md.any_step {o:Pn.Op} {p:Int→Md.Sd→Bool} {k:Nat} (h:Md.anyUpto o p k=false):Md.anyUpto o p (k + 1)=(match Md.side o ((k:Int) - 1) with | some s=>p ((k:Int) - 1) s | none=>false):=by
 show (Md.anyUpto o p k || _)=_;rw [h];rfl
set_option maxRecDepth 100000 in
set_option maxHeartbeats 1600000 in
theorem model_anyW (c1:Value) (w:World) (o:Pn.Op) (vc:Value) (U:List Nat) (p:Int→Md.Sd→Bool) (h:GV caseE 3 w vc o.cases U)
  (hp:∀ (i:Int) (s:Md.Sd) (w':World),Md.side o i=some s→Keeps [] w w'→Calls Try.prog 35 #[.int .i64 i,.agg (sdV s),c1] w' fun e w''=>e=.returned (.bool (p i s))∧Keeps [] w' w'') :
  Calls Try.prog 37 #[.agg (opV o vc),.func (.func 35) #[] #[c1]] w fun e w'=>e=.returned (.bool (Md.any o p))∧Keeps [] w w':=by
 have hle:=h.le;unfold maxLen at hle;have HP:=Lib.hid hp;have HV:=Lib.hid h;obtain ⟨av,cv,rfl⟩:=h.shape;obtain ⟨q,hq⟩:∃ q,Md.any o p=q:=⟨_,rfl⟩
 rw [hq];have HQ:=Lib.hid hq;obtain ⟨w0,hw0⟩:∃ w0,w.alloc (.cells (opV o (.slice av o.cases.length cv)) 28)=w0:=⟨_,rfl⟩
 have K0:Hid (Keeps [] w w0):=Lib.hid (hw0 ▸ (Keeps.refl [] w).alloc _);have HOB:Hid (Blk w0 w.heap.size [.int .i64 o.kind,.int .i64 o.ch,.int .i64 o.n,.int .i64 o.v,.slice av o.cases.length cv,.bool o.els] 28):=Lib.hid (hw0 ▸ Blk.fresh w [.int .i64 o.kind,.int .i64 o.ch,.int .i64 o.n,.int .i64 o.v,.slice av o.cases.length cv,.bool o.els] _ _ rfl);obtain ⟨⟨b0,b1,b2,b3,b4,b5⟩,_⟩:=Blk.six HOB.out;clear h hp hq;unfold opV at hw0;unfold opV
 go_enter Try.func37,Try.ntmps37
 go_wp2_with fail
 clear hw0 b0 b1 b2 b3 b4 b5
 go_loopw [5] (fun u wr=>∃ k:Nat,k≤o.cases.length + 1∧u=.int .i64 ((k:Int) - 1)∧Hid (Keeps [] w0 wr∧Md.anyUpto o p k=false)) (fun u _=>o.cases.length + 1 - (intOf u + 1).toNat)
 case atStart=>exact ⟨0,Nat.zero_le _,rfl,Lib.hid ⟨Keeps.refl _ _,rfl⟩⟩
 case round =>
  obtain ⟨k,hk,rfl,HI⟩:=hrel;obtain ⟨wo,rfl⟩:∃ wo:World,wo=wr:=⟨_,rfl⟩
  have HB:=Lib.hid (HOB.out.keep HI.out.1 (by simp));obtain ⟨⟨b0,b1,b2,b3,b4,b5⟩,_⟩:=Blk.six HB.out
  by_cases hlt:k≤o.cases.length
  ·have hl1:(k:Int) - 1 < (o.cases.length:Int):=by omega
   have HLT:=Lib.hid hlt;clear hlt
   go_wp2_with fail
   refine (model_sideOf _ o _ U ((k:Int) - 1) (HV.out.then caseE_kept (K0.out.then HI.out.1))).mono ?_
   rintro e w1 ⟨rfl,k1⟩
   have K1:=Lib.hid (HI.out.1.then k1);clear k1 b0 b1 b2 b3 b4 b5
   cases hs:Md.side o ((k:Int) - 1) with
   | none =>
    have HN:Hid (Md.anyUpto o p (k + 1)=false):=Lib.hid (by rw [Md.any_step HI.out.2,hs]);unfold sdV Md.noSide;simp only [Option.getD_none,Option.isSome_none]
    go_wp2_with fail
    go_roundw
    case rel=>exact ⟨k + 1,by have:=HLT.out;omega,by go_num,Lib.hid ⟨K1.out.alloc _,HN.out⟩⟩
    case measure =>
     have:=HLT.out;simp [intOf];omega
   | some s =>
    have HS:=Lib.hid hs;unfold sdV;simp only [Option.getD_some,Option.isSome_some];clear hs
    go_wp2_with fail
    refine (HP.out ((k:Int) - 1) s _ HS.out (K0.out.then (K1.out.alloc _))).mono ?_
    rintro e w2 ⟨rfl,k2⟩
    have K2:=Lib.hid ((K1.out.alloc _).then k2);clear k2
    cases hps:p ((k:Int) - 1) s with
    | true =>
     have HN:Hid (true=q):=Lib.hid (by
      rw [← HQ.out];exact (Md.any_more (k:=k + 1) (by rw [Md.any_step HI.out.2,HS.out];exact hps) (by have:=HLT.out;omega)).symm)
     go_wp2_with fail
     go_ret
     exact ⟨ret_bool HN.out,K0.out.then K2.out⟩
    | false =>
     have HN:Hid (Md.anyUpto o p (k + 1)=false):=Lib.hid (by rw [Md.any_step HI.out.2,HS.out];exact hps)
     go_wp2_with fail
     go_roundw
     case rel=>exact ⟨k + 1,by have:=HLT.out;omega,by go_num,Lib.hid ⟨K2.out,HN.out⟩⟩
     case measure =>
      have:=HLT.out;simp [intOf];omega
  ·obtain rfl:k=o.cases.length + 1:=by omega
   have HN:Hid (false=q):=Lib.hid (by rw [← HQ.out];exact HI.out.2.symm);have hl1:¬ ((((o.cases.length + 1:Nat):Int) - 1) < (o.cases.length:Int)):=by omega
   have hl2:((((o.cases.length + 1:Nat):Int) - 1) == -1)=false:=by simp
   go_wp2_with fail
   go_ret
   exact ⟨ret_bool HN.out,K0.out.then HI.out.1⟩
set_option maxRecDepth 100000 in
set_option maxHeartbeats 1600000 in
theorem model_anyM (c1 c2:Value) (w:World) (o:Pn.Op) (vc:Value) (U:List Nat) (p:Int→Md.Sd→Bool) (h:GV caseE 3 w vc o.cases U)
  (hp:∀ (i:Int) (s:Md.Sd) (w':World),Md.side o i=some s→Keeps [] w w'→Calls Try.prog 59 #[.int .i64 i,.agg (sdV s),c1,c2] w' fun e w''=>e=.returned (.bool (p i s))∧Keeps [] w' w'') :
  Calls Try.prog 37 #[.agg (opV o vc),.func (.func 59) #[] #[c1,c2]] w fun e w'=>e=.returned (.bool (Md.any o p))∧Keeps [] w w':=by
 have hle:=h.le;unfold maxLen at hle;have HP:=Lib.hid hp;have HV:=Lib.hid h;obtain ⟨av,cv,rfl⟩:=h.shape;obtain ⟨q,hq⟩:∃ q,Md.any o p=q:=⟨_,rfl⟩
 rw [hq];have HQ:=Lib.hid hq;obtain ⟨w0,hw0⟩:∃ w0,w.alloc (.cells (opV o (.slice av o.cases.length cv)) 28)=w0:=⟨_,rfl⟩
 have K0:Hid (Keeps [] w w0):=Lib.hid (hw0 ▸ (Keeps.refl [] w).alloc _);have HOB:Hid (Blk w0 w.heap.size [.int .i64 o.kind,.int .i64 o.ch,.int .i64 o.n,.int .i64 o.v,.slice av o.cases.length cv,.bool o.els] 28):=Lib.hid (hw0 ▸ Blk.fresh w [.int .i64 o.kind,.int .i64 o.ch,.int .i64 o.n,.int .i64 o.v,.slice av o.cases.length cv,.bool o.els] _ _ rfl);obtain ⟨⟨b0,b1,b2,b3,b4,b5⟩,_⟩:=Blk.six HOB.out;clear h hp hq;unfold opV at hw0;unfold opV
 go_enter Try.func37,Try.ntmps37
 go_wp2_with fail
 clear hw0 b0 b1 b2 b3 b4 b5
 go_loopw [5] (fun u wr=>∃ k:Nat,k≤o.cases.length + 1∧u=.int .i64 ((k:Int) - 1)∧Hid (Keeps [] w0 wr∧Md.anyUpto o p k=false)) (fun u _=>o.cases.length + 1 - (intOf u + 1).toNat)
 case atStart=>exact ⟨0,Nat.zero_le _,rfl,Lib.hid ⟨Keeps.refl _ _,rfl⟩⟩
 case round =>
  obtain ⟨k,hk,rfl,HI⟩:=hrel;obtain ⟨wo,rfl⟩:∃ wo:World,wo=wr:=⟨_,rfl⟩
  have HB:=Lib.hid (HOB.out.keep HI.out.1 (by simp));obtain ⟨⟨b0,b1,b2,b3,b4,b5⟩,_⟩:=Blk.six HB.out
  by_cases hlt:k≤o.cases.length
  ·have hl1:(k:Int) - 1 < (o.cases.length:Int):=by omega
   have HLT:=Lib.hid hlt;clear hlt
   go_wp2_with fail
   refine (model_sideOf _ o _ U ((k:Int) - 1) (HV.out.then caseE_kept (K0.out.then HI.out.1))).mono ?_
   rintro e w1 ⟨rfl,k1⟩
   have K1:=Lib.hid (HI.out.1.then k1);clear k1 b0 b1 b2 b3 b4 b5
   cases hs:Md.side o ((k:Int) - 1) with
   | none =>
    have HN:Hid (Md.anyUpto o p (k + 1)=false):=Lib.hid (by rw [Md.any_step HI.out.2,hs]);unfold sdV Md.noSide;simp only [Option.getD_none,Option.isSome_none]
    go_wp2_with fail
    go_roundw
    case rel=>exact ⟨k + 1,by have:=HLT.out;omega,by go_num,Lib.hid ⟨K1.out.alloc _,HN.out⟩⟩
    case measure =>
     have:=HLT.out;simp [intOf];omega
   | some s =>
    have HS:=Lib.hid hs;unfold sdV;simp only [Option.getD_some,Option.isSome_some];clear hs
    go_wp2_with fail
    refine (HP.out ((k:Int) - 1) s _ HS.out (K0.out.then (K1.out.alloc _))).mono ?_
    rintro e w2 ⟨rfl,k2⟩
    have K2:=Lib.hid ((K1.out.alloc _).then k2);clear k2
    cases hps:p ((k:Int) - 1) s with
    | true =>
     have HN:Hid (true=q):=Lib.hid (by
      rw [← HQ.out];exact (Md.any_more (k:=k + 1) (by rw [Md.any_step HI.out.2,HS.out];exact hps) (by have:=HLT.out;omega)).symm)
     go_wp2_with fail
     go_ret
     exact ⟨ret_bool HN.out,K0.out.then K2.out⟩
    | false =>
     have HN:Hid (Md.anyUpto o p (k + 1)=false):=Lib.hid (by rw [Md.any_step HI.out.2,HS.out];exact hps)
     go_wp2_with fail
     go_roundw
     case rel=>exact ⟨k + 1,by have:=HLT.out;omega,by go_num,Lib.hid ⟨K2.out,HN.out⟩⟩
     case measure =>
      have:=HLT.out;simp [intOf];omega
  ·obtain rfl:k=o.cases.length + 1:=by omega
   have HN:Hid (false=q):=Lib.hid (by rw [← HQ.out];exact HI.out.2.symm);have hl1:¬ ((((o.cases.length + 1:Nat):Int) - 1) < (o.cases.length:Int)):=by omega
   have hl2:((((o.cases.length + 1:Nat):Int) - 1) == -1)=false:=by simp
   go_wp2_with fail
   go_ret
   exact ⟨ret_bool HN.out,K0.out.then HI.out.1⟩
set_option maxRecDepth 100000 in
set_option maxHeartbeats 1600000 in
theorem model_anyA (c1 c2:Value) (w:World) (o:Pn.Op) (vc:Value) (U:List Nat) (p:Int→Md.Sd→Bool) (h:GV caseE 3 w vc o.cases U)
  (hp:∀ (i:Int) (s:Md.Sd) (w':World),Md.side o i=some s→Keeps [] w w'→Calls Try.prog 83 #[.int .i64 i,.agg (sdV s),c1,c2] w' fun e w''=>e=.returned (.bool (p i s))∧Keeps [] w' w'') :
  Calls Try.prog 37 #[.agg (opV o vc),.func (.func 83) #[] #[c1,c2]] w fun e w'=>e=.returned (.bool (Md.any o p))∧Keeps [] w w':=by
 have hle:=h.le;unfold maxLen at hle;have HP:=Lib.hid hp;have HV:=Lib.hid h;obtain ⟨av,cv,rfl⟩:=h.shape;obtain ⟨q,hq⟩:∃ q,Md.any o p=q:=⟨_,rfl⟩
 rw [hq];have HQ:=Lib.hid hq;obtain ⟨w0,hw0⟩:∃ w0,w.alloc (.cells (opV o (.slice av o.cases.length cv)) 28)=w0:=⟨_,rfl⟩
 have K0:Hid (Keeps [] w w0):=Lib.hid (hw0 ▸ (Keeps.refl [] w).alloc _);have HOB:Hid (Blk w0 w.heap.size [.int .i64 o.kind,.int .i64 o.ch,.int .i64 o.n,.int .i64 o.v,.slice av o.cases.length cv,.bool o.els] 28):=Lib.hid (hw0 ▸ Blk.fresh w [.int .i64 o.kind,.int .i64 o.ch,.int .i64 o.n,.int .i64 o.v,.slice av o.cases.length cv,.bool o.els] _ _ rfl);obtain ⟨⟨b0,b1,b2,b3,b4,b5⟩,_⟩:=Blk.six HOB.out;clear h hp hq;unfold opV at hw0;unfold opV
 go_enter Try.func37,Try.ntmps37
 go_wp2_with fail
 clear hw0 b0 b1 b2 b3 b4 b5
 go_loopw [5] (fun u wr=>∃ k:Nat,k≤o.cases.length + 1∧u=.int .i64 ((k:Int) - 1)∧Hid (Keeps [] w0 wr∧Md.anyUpto o p k=false)) (fun u _=>o.cases.length + 1 - (intOf u + 1).toNat)
 case atStart=>exact ⟨0,Nat.zero_le _,rfl,Lib.hid ⟨Keeps.refl _ _,rfl⟩⟩
 case round =>
  obtain ⟨k,hk,rfl,HI⟩:=hrel;obtain ⟨wo,rfl⟩:∃ wo:World,wo=wr:=⟨_,rfl⟩
  have HB:=Lib.hid (HOB.out.keep HI.out.1 (by simp));obtain ⟨⟨b0,b1,b2,b3,b4,b5⟩,_⟩:=Blk.six HB.out
  by_cases hlt:k≤o.cases.length
  ·have hl1:(k:Int) - 1 < (o.cases.length:Int):=by omega
   have HLT:=Lib.hid hlt;clear hlt
   go_wp2_with fail
   refine (model_sideOf _ o _ U ((k:Int) - 1) (HV.out.then caseE_kept (K0.out.then HI.out.1))).mono ?_
   rintro e w1 ⟨rfl,k1⟩
   have K1:=Lib.hid (HI.out.1.then k1);clear k1 b0 b1 b2 b3 b4 b5
   cases hs:Md.side o ((k:Int) - 1) with
   | none =>
    have HN:Hid (Md.anyUpto o p (k + 1)=false):=Lib.hid (by rw [Md.any_step HI.out.2,hs]);unfold sdV Md.noSide;simp only [Option.getD_none,Option.isSome_none]
    go_wp2_with fail
    go_roundw
    case rel=>exact ⟨k + 1,by have:=HLT.out;omega,by go_num,Lib.hid ⟨K1.out.alloc _,HN.out⟩⟩
    case measure =>
     have:=HLT.out;simp [intOf];omega
   | some s =>
    have HS:=Lib.hid hs;unfold sdV;simp only [Option.getD_some,Option.isSome_some];clear hs
    go_wp2_with fail
    refine (HP.out ((k:Int) - 1) s _ HS.out (K0.out.then (K1.out.alloc _))).mono ?_
    rintro e w2 ⟨rfl,k2⟩
    have K2:=Lib.hid ((K1.out.alloc _).then k2);clear k2
    cases hps:p ((k:Int) - 1) s with
    | true =>
     have HN:Hid (true=q):=Lib.hid (by
      rw [← HQ.out];exact (Md.any_more (k:=k + 1) (by rw [Md.any_step HI.out.2,HS.out];exact hps) (by have:=HLT.out;omega)).symm)
     go_wp2_with fail
     go_ret
     exact ⟨ret_bool HN.out,K0.out.then K2.out⟩
    | false =>
     have HN:Hid (Md.anyUpto o p (k + 1)=false):=Lib.hid (by rw [Md.any_step HI.out.2,HS.out];exact hps)
     go_wp2_with fail
     go_roundw
     case rel=>exact ⟨k + 1,by have:=HLT.out;omega,by go_num,Lib.hid ⟨K2.out,HN.out⟩⟩
     case measure =>
      have:=HLT.out;simp [intOf];omega
  ·obtain rfl:k=o.cases.length + 1:=by omega
   have HN:Hid (false=q):=Lib.hid (by rw [← HQ.out];exact HI.out.2.symm);have hl1:¬ ((((o.cases.length + 1:Nat):Int) - 1) < (o.cases.length:Int)):=by omega
   have hl2:((((o.cases.length + 1:Nat):Int) - 1) == -1)=false:=by simp
   go_wp2_with fail
   go_ret
   exact ⟨ret_bool HN.out,K0.out.then HI.out.1⟩
open Go.RowKit
def meetsP (ch:Int) (sends:Bool) (_:Int) (s:Md.Sd):Bool:=s.ch == ch && s.send == sends
theorem model_meets (w:World) (i:Int) (s:Md.Sd) (c d:Nat) (ch:Int) (sends:Bool) (hc:w.cell? ⟨c,0,none⟩=some (.int .i64 ch)) (hd:w.cell? ⟨d,0,none⟩=some (.bool sends)) :
  Calls Try.prog 83 #[.int .i64 i,.agg (sdV s),.pointer (some ⟨c,0,none⟩),.pointer (some ⟨d,0,none⟩)] w fun e w'=>e=.returned (.bool (meetsP ch sends i s))∧Keeps [] w w':=by
 obtain ⟨sc,ss,sv⟩:=s;unfold sdV meetsP;simp only;have A1:∀ x:Obj,(w.alloc x).cell? ⟨c,0,none⟩=some (.int .i64 ch):=fun x=>((Keeps.refl [] w).alloc x).cell hc (by simp)
 have A2:∀ x:Obj,(w.alloc x).cell? ⟨d,0,none⟩=some (.bool sends):=fun x=>((Keeps.refl [] w).alloc x).cell hd (by simp)
 cases hb:(sc == ch) with
 | false =>
  go_enter Try.func83,Try.ntmps83
  go_wp2_with fail
  go_ret
  exact ⟨rfl,(Keeps.refl [] w).alloc _⟩
 | true =>
  go_enter Try.func83,Try.ntmps83
  go_wp2_with fail
  go_ret
  exact ⟨by simp,(Keeps.refl [] w).alloc _⟩
theorem Md.another_true {st:Md.St} {g ch:Int} {sends:Bool} {h:Int} {o:Pn.Op} (h1:st.waits h=some o) (h2:h≠g) (h3:Md.any o (meetsP ch sends)=true):Md.another st g ch sends=true:=by
 unfold Md.another
 classical
 exact decide_eq_true ⟨h,o,h1,h2,h3⟩
theorem Md.another_false {st:Md.St} {g ch:Int} {sends:Bool} (h:∀ x o,st.waits x=some o→x≠g→Md.any o (meetsP ch sends)=false):Md.another st g ch sends=false:=by
 unfold Md.another
 classical
 refine decide_eq_false ?_
 rintro ⟨x,o,h1,h2,h3⟩
 have h4:Md.any o (meetsP ch sends)=true:=h3;rw [h x o h1 h2] at h4
 cases h4
set_option maxHeartbeats 1600000 in
theorem model_another (w:World) (p:Value) (st:Md.St) (N:Nat) (S:List Nat) (g ch:Int) (sends:Bool) (h:Mo w p st N S) :
  Calls Try.prog 77 #[p,.int .i64 g,.int .i64 ch,.bool sends] w fun e w'=>e=.returned (.bool (Md.another st g ch sends))∧Keeps [] w w':=by
 have hmf:∀ (fn:Fn) (first cap:Array Value) (w:World),(Instr.makeFunc fn first cap).run Try.prog w=.ok (.func fn first cap) w:=fun _ _ _ _=>rfl
 obtain ⟨b,bm,vh,T,Us,SW,f,col,rfl,hm⟩:=h;obtain ⟨q,hq⟩:∃ q,Md.another st g ch sends=q:=⟨_,rfl⟩
 rw [hq];have HQ:=Lib.hid hq;obtain ⟨w0,hw0⟩:∃ w0,(w.alloc (.cells #[.int .i64 ch] 3)).alloc (.cells #[.bool sends] 4)=w0:=⟨_,rfl⟩
 have K0:Hid (Keeps [] w w0):=Lib.hid (hw0 ▸ ((Keeps.refl [] w).alloc _).alloc _);have HC:Hid (w0.cell? ⟨w.heap.size,0,none⟩=some (.int .i64 ch)):=Lib.hid (hw0 ▸ ((Blk.fresh w [.int .i64 ch] _ _ rfl).alloc _).cell 0);have HDD:Hid (w0.cell? ⟨w.heap.size + 1,0,none⟩=some (.bool sends)):=Lib.hid (hw0 ▸ (Blk.fresh _ [.bool sends] _ _ (by simp)).cell 0);have HM:=Lib.hid (hm.then K0.out);have HSZ:Hid (w.heap.size + 2≤w0.heap.size):=Lib.hid (by rw [← hw0];simp);have m1:=HM.out.cells.2.1;clear hm hq
 go_enter Try.func77,Try.ntmps77
 go_wp2_with (at_range;go_must (refine wp_range (f:=f) Try.underlying3 Try.underlying78 HM.out.map ?_))
 intro w1 cnt0 hr0 k1 hs1;have K1:=Lib.hid k1;have HR0:=Lib.hid hr0;have HRB:Hid (∀ x∈S,x≠w0.heap.size):=Lib.hid (fun x hx e=>by have:=HM.out.lt x hx;omega);clear hr0 k1 hs1 hw0 m1
 go_wp2_with fail
 go_loopw [10] (fun _ wr=>∃ (left:Int→Bool) (cnt:Nat),Hid (MapR Try.prog 3 wr bm w0.heap.size N f left cnt∧Keeps [w0.heap.size] w1 wr∧(∀ z,left z=true→(f z).isSome=true)∧∀ x o,st.waits x=some o→left x=false→x≠g→Md.any o (meetsP ch sends)=false)) (fun _ wr=>wr.rangeLeft bm w0.heap.size)
 case atStart=>exact ⟨_,_,Lib.hid ⟨HR0.out,Keeps.refl _ _,fun z hz=>hz,fun x o h1 h2 h3=>by
  obtain ⟨_,vc,U,h4,_⟩:=HM.out.wm.some h1;simp [h4] at h2⟩⟩
 case round =>
  obtain ⟨left,cnt,HI⟩:=hrel;obtain ⟨wo,rfl⟩:∃ wo:World,wo=wr:=⟨_,rfl⟩
  have HWO:=Lib.hid (HM.out.keep ((K1.out.mono (T:=[w0.heap.size]) (by simp)).trans HI.out.2.1 (fun x hx=>.inl hx)) (fun x hx=>by simpa using HRB.out x hx));have KO:Hid (Keeps [] w0 wo):=Lib.hid ((K1.out.trans HI.out.2.1 (fun x hx=>by simp at hx;subst hx;exact .inr (Nat.le_refl _))))
  go_wp2_with (at_next;go_must (refine wp_next Try.underlying3 HI.out.1 HI.out.2.2.1 ?_ ?_))
  ·intro hc0 hl0;have HN:Hid (false=q):=Lib.hid (by
    rw [← HQ.out];exact (Md.another_false (fun x o h1 h2=>HI.out.2.2.2 x o h1 (hl0 x (HM.out.wm.some h1).1) h2)).symm)
   clear hc0 hl0
   go_wp2_with fail
   go_ret
   exact ⟨ret_bool HN.out,K0.out.then KO.out⟩
  ·intro x v w2 cnt2 hwx hlx hfx hr2 hlt k2 hs2 hen;obtain ⟨o,vc,U,ho,rfl,hv,hU⟩:=HWO.out.wm.inv hfx;have HV:=Lib.hid (hv.keep caseE_kept k2 (fun y hy=>by simp;exact HRB.out y (HWO.out.sw y (hU y hy))));have HR2:=Lib.hid hr2;have HO:=Lib.hid ho;have HLT:=Lib.hid hlt;have K2:=Lib.hid k2;have KO2:Hid (Keeps [] w0 w2):=Lib.hid (KO.out.trans k2 (fun y hy=>by simp at hy;subst hy;exact .inr (Nat.le_refl _)));obtain ⟨av,cv,rfl⟩:=hv.shape;have HSTEP:Hid ((x≠g→Md.any o (meetsP ch sends)=false)→∀ y o',st.waits y=some o'→(left y && !decide (y=x))=false→y≠g→Md.any o' (meetsP ch sends)=false):=Lib.hid (fun hh y o' h1 h2 h3=>by
    by_cases e:y=x
    ·subst e;rw [ho] at h1
     cases h1;exact hh h3
    ·exact HI.out.2.2.2 y o' h1 (by simpa [e] using h2) h3)
   have HLF:Hid (∀ z,(left z && !decide (z=x))=true→(f z).isSome=true):=Lib.hid (fun z hz=>HI.out.2.2.1 z (by simp at hz;exact hz.1));clear hfx hr2 hlt k2 hs2 hv ho hU hlx;unfold opV at hen ⊢
   cases hxg:(x != g) with
   | false =>
    have hxe:x=g:=by simpa using hxg
    have HG:=Lib.hid hxe;clear hxe
    go_wp2_with fail
    go_roundw
    case rel=>exact ⟨_,cnt2,Lib.hid ⟨HR2.out.then ((Keeps.refl [] w2).alloc _),(HI.out.2.1.trans K2.out (by simp)).alloc _,HLF.out,HSTEP.out (fun h=>absurd HG.out h)⟩⟩
    case measure =>
     have h1:=(HR2.out.then ((Keeps.refl [] w2).alloc (.cells #[.int .i64 o.kind,.int .i64 o.ch,.int .i64 o.n,.int .i64 o.v,.slice av o.cases.length cv,.bool o.els] 28))).left_eq;rw [h1,HI.out.1.left_eq];exact HLT.out
   | true =>
    have hxe:x≠g:=by simpa using hxg
    have HG:=Lib.hid hxe;clear hxe
    go_wp2_with fail
    refine (model_anyA _ _ _ o _ U (meetsP ch sends) (HV.out.then caseE_kept ((Keeps.refl [] w2).alloc _)) (fun i s w' _ k=>model_meets w' i s _ _ ch sends ((KO2.out.alloc _ |>.then k).cell HC.out (by simp)) ((KO2.out.alloc _ |>.then k).cell HDD.out (by simp)))).mono ?_
    rintro e w3 ⟨rfl,k3⟩
    have K3:=Lib.hid (((Keeps.refl [] w2).alloc _).then k3);clear k3
    cases han:Md.any o (meetsP ch sends) with
    | true =>
     have HN:Hid (true=q):=Lib.hid (by rw [← HQ.out];exact (Md.another_true HO.out HG.out han).symm);clear hen
     go_wp2_with fail
     go_ret
     exact ⟨ret_bool HN.out,K0.out.then (KO2.out.then K3.out)⟩
    | false =>
     have HAN:=Lib.hid han;clear hen
     go_wp2_with fail
     go_roundw
     case rel=>exact ⟨_,cnt2,Lib.hid ⟨HR2.out.then K3.out,(HI.out.2.1.trans K2.out (by simp)).then K3.out,HLF.out,HSTEP.out (fun _=>HAN.out)⟩⟩
     case measure =>
      have h1:=(HR2.out.then K3.out).left_eq;rw [h1,HI.out.1.left_eq];exact HLT.out
open Go.RowKit
def RBool (q:Bool) (w:World) (e:Ending) (w':World):Prop:=e=.returned (.bool q)∧Keeps [] w w'
theorem rb {q r:Bool} {w w':World} (h:r=q) (k:Keeps [] w w'):RBool q w (.returned (.bool r)) w':=by subst h;exact ⟨rfl,k⟩
set_option maxHeartbeats 1600000 in
theorem model_may (w:World) (p:Value) (st:Md.St) (N:Nat) (S:List Nat) (g:Int) (s:Md.Sd) (h:Mo w p st N S) :
  Calls Try.prog 60 #[p,.int .i64 g,.agg (sdV s)] w (RBool (Md.may st g s) w):=by
 have HMO:=Lib.hid h;obtain ⟨b,bm,vh,T,Us,SW,f,col,rfl,hm⟩:=h;obtain ⟨ao,cap,rfl⟩:=hm.chans.shape;have hle:=hm.chans.le;obtain ⟨q,hq⟩:∃ q,Md.may st g s=q:=⟨_,rfl⟩
 rw [hq];have HQ:=Lib.hid hq;obtain ⟨sc,ss,sv⟩:=s;obtain ⟨w0,hw0⟩:∃ w0,w.alloc (.cells #[.int .i64 sc,.bool ss,.int .i64 sv] 92)=w0:=⟨_,rfl⟩
 have K0:Hid (Keeps [] w w0):=Lib.hid (hw0 ▸ (Keeps.refl [] w).alloc _);have HB0:Hid (Blk w0 w.heap.size [.int .i64 sc,.bool ss,.int .i64 sv] 92):=Lib.hid (hw0 ▸ Blk.fresh w [.int .i64 sc,.bool ss,.int .i64 sv] _ _ rfl);have HM:=Lib.hid (hm.then K0.out);obtain ⟨⟨s0,s1,s2⟩,_⟩:=Blk.three HB0.out;clear hq hm;unfold sdV;simp only
 by_cases hin:1≤sc∧sc≤(st.chans.length:Int)
 ·obtain ⟨k,rfl⟩:∃ k:Nat,sc=(k:Int) + 1:=⟨(sc - 1).toNat,by omega⟩
  have hk:k < st.chans.length:=by omega
  obtain ⟨c,hc,hc2⟩:=Md.chan_some hin.1 hin.2;rw [show ((k:Int) + 1 - 1).toNat=k by omega] at hc2;obtain ⟨gc,off,bv,V,rfl,_,hg,a0,a1,a2,_,hbv,_,_⟩:=HM.out.chans.get hc2;have hlb:=hbv.le;obtain ⟨ab,cb,rfl⟩:=hbv.shape;have HE:Hid (q=(c.closed || (ss && decide ((c.buf.length:Int) < c.cap)) || (!ss && decide (0 < c.buf.length)) || (decide (c.cap=0) && Md.another st g ((k:Int) + 1) (!ss)))):=Lib.hid (by
   rw [← HQ.out];unfold Md.may;simp only;rw [hc])
  clear hc hc2 hbv
  go_enter Try.func60,Try.ntmps60
  go_wp2_with fail
  refine (model_channel _ b _ _ gc off k _ HM.out.blk hle hk).mono ?_
  rintro e w0' ⟨rfl,rfl⟩
  unfold maxLen at hlb;clear hw0
  cases hcl:c.closed with
  | true =>
   rw [hcl] at a2;have HN:Hid (true=q):=Lib.hid (by rw [HE.out,hcl];simp);clear hcl
   go_wp2_with fail
   go_ret
   exact rb HN.out K0.out
  | false =>
   rw [hcl] at a2;have HE2:Hid (q=((ss && decide ((c.buf.length:Int) < c.cap)) || (!ss && decide (0 < c.buf.length)) || (decide (c.cap=0) && Md.another st g ((k:Int) + 1) (!ss)))):=Lib.hid (by rw [HE.out,hcl];simp);clear hcl HE
   cases ss with
   | true =>
    cases hlt:decide ((c.buf.length:Int) < c.cap) with
    | true =>
     have HN:Hid (true=q):=Lib.hid (by rw [HE2.out,hlt];simp)
     go_upto_region 6 with fail
     go_quiet (fail)
     go_wp2_with fail
     go_ret
     exact rb HN.out (K0.out.drewN _)
    | false =>
     have HE3:Hid (q=(decide (c.cap=0) && Md.another st g ((k:Int) + 1) false)):=Lib.hid (by rw [HE2.out,hlt];simp)
     go_upto_region 6 with fail
     go_quiet (fail)
     obtain ⟨w3,hw3⟩:∃ w3,w0.drewN nq=w3:=⟨_,rfl⟩
     have K3:Hid (Keeps [] w0 w3):=Lib.hid (hw3 ▸ (Keeps.refl [] w0).drewN nq);have HM3:=Lib.hid (HMO.out.then (K0.out.then K3.out));have t0:=K3.out.cell a0 (by simp);have t1:=K3.out.cell a1 (by simp);have t2:=K3.out.cell a2 (by simp);have q0:=K3.out.cell s0 (by simp);have q1:=K3.out.cell s1 (by simp);rw [hw3];clear hw3 a0 a1 a2 s0 s1 s2
     cases h0:(c.cap == 0) with
     | false =>
      have HN:Hid (false=q):=Lib.hid (by
       have:¬ c.cap=0:=by simpa using h0
       rw [HE3.out];simp [this])
      go_wp2_with fail
      go_ret
      exact rb HN.out (K0.out.then K3.out)
     | true =>
      have HN:Hid (Md.another st g ((k:Int) + 1) false=q):=Lib.hid (by
       have:c.cap=0:=by simpa using h0
       rw [HE3.out];simp [this])
      go_wp2_with fail
      refine (model_another _ _ st N S g ((k:Int) + 1) false HM3.out).mono ?_
      rintro e w4 ⟨rfl,k4⟩
      rw [HN.out];have K4:=Lib.hid (K3.out.then k4);clear k4
      go_wp2_with fail
      go_ret
      exact rb (by simp) (K0.out.then K4.out)
   | false =>
    by_cases hlt:0 < c.buf.length
    ·have HN:Hid (true=q):=Lib.hid (by rw [HE2.out];simp [hlt])
     go_upto_region 6 with fail
     go_quiet (fail)
     go_wp2_with fail
     go_ret
     exact rb HN.out (K0.out.drewN _)
    ·have HE3:Hid (q=(decide (c.cap=0) && Md.another st g ((k:Int) + 1) true)):=Lib.hid (by rw [HE2.out];simp [hlt]);have h00:c.buf.length=0:=by omega
     rw [h00] at a1;clear hlt h00
     go_upto_region 6 with fail
     go_quiet (fail)
     obtain ⟨w3,hw3⟩:∃ w3,w0.drewN nq=w3:=⟨_,rfl⟩
     have K3:Hid (Keeps [] w0 w3):=Lib.hid (hw3 ▸ (Keeps.refl [] w0).drewN nq);have HM3:=Lib.hid (HMO.out.then (K0.out.then K3.out));have t0:=K3.out.cell a0 (by simp);have t1:=K3.out.cell a1 (by simp);have t2:=K3.out.cell a2 (by simp);have q0:=K3.out.cell s0 (by simp);have q1:=K3.out.cell s1 (by simp);rw [hw3];clear hw3 a0 a1 a2 s0 s1 s2
     cases h0:(c.cap == 0) with
     | false =>
      have HN:Hid (false=q):=Lib.hid (by
       have:¬ c.cap=0:=by simpa using h0
       rw [HE3.out];simp [this])
      go_wp2_with fail
      go_ret
      exact rb HN.out (K0.out.then K3.out)
     | true =>
      have HN:Hid (Md.another st g ((k:Int) + 1) true=q):=Lib.hid (by
       have:c.cap=0:=by simpa using h0
       rw [HE3.out];simp [this])
      go_wp2_with fail
      refine (model_another _ _ st N S g ((k:Int) + 1) true HM3.out).mono ?_
      rintro e w4 ⟨rfl,k4⟩
      rw [HN.out];have K4:=Lib.hid (K3.out.then k4);clear k4
      go_wp2_with fail
      go_ret
      exact rb (by simp) (K0.out.then K4.out)
 ·have hout:sc < 1∨(st.chans.length:Int) < sc:=by omega
  have HN:Hid (false=q):=Lib.hid (by rw [← HQ.out];unfold Md.may;simp only;rw [Md.chan_none hout])
  go_enter Try.func60,Try.ntmps60
  go_wp2_with fail
  refine (model_channel_no _ b _ _ _ _ _ HM.out.blk hle hout).mono ?_
  rintro e w0' ⟨rfl,rfl⟩
  clear hw0
  go_wp2_with fail
  go_ret
  exact rb HN.out K0.out
open Go.RowKit
def Md.new:Md.St:=⟨[],fun _=>none⟩
def NewPost (w:World) (e:Ending) (w':World):Prop:=∃ b S,e=.returned (.pointer (some ⟨b,0,none⟩))∧Mo w' (.pointer (some ⟨b,0,none⟩)) Md.new 0 S∧Keeps [] w w'∧∀ x∈S,w.heap.size≤x
theorem model_new (w:World):Calls Try.prog 15 #[] w (NewPost w):=by
 have hmm:=@run_makeMap Try.prog
 go_enter Try.func15,Try.ntmps15
 go_wp2_with fail
 go_ret
 have k1:Keeps [] w (w.alloc (.map #[] 0)):=(Keeps.refl [] w).alloc _;refine ⟨w.heap.size + 1,[w.heap.size + 1,w.heap.size],rfl,⟨w.heap.size + 1,w.heap.size,.slice none 0 0,[],[],[],fun _=>none,fun x=>if x=w.heap.size + 1 then 0 else 1,rfl,⟨?_,?_,?_,fun g=>rfl,by simp,by simp,by simp,by simp,by simp,by simp,by simp,by simp,?_⟩⟩,k1.alloc _,?_⟩
 ·exact Blk.fresh _ [.slice none 0 0,.map (some w.heap.size)] _ _ (by simp)
 ·exact ⟨⟨[],Row.nil _ _ _,fun k c U h=>by simp [Md.new] at h⟩,rfl,by simp,fun k U h=>by simp at h⟩
 ·exact (MapV.made Try.prog 3 w).then ((Keeps.refl [] _).alloc _)
 ·intro x hx;simp at hx;rcases hx with rfl | rfl <;> simp <;> omega
 ·intro x hx;simp at hx;rcases hx with rfl | rfl <;> omega
theorem model_mays (w:World) (p:Value) (st:Md.St) (N:Nat) (S:List Nat) (g i:Int) (s:Md.Sd) (c d:Nat) (h:Mo w p st N S) (hc:w.cell? ⟨c,0,none⟩=some p) (hd:w.cell? ⟨d,0,none⟩=some (.int .i64 g)) :
  Calls Try.prog 59 #[.int .i64 i,.agg (sdV s),.pointer (some ⟨c,0,none⟩),.pointer (some ⟨d,0,none⟩)] w fun e w'=>e=.returned (.bool (Md.may st g s))∧Keeps [] w w':=by
 have HM:=Lib.hid h;obtain ⟨b,_,_,_,_,_,_,_,rfl,_⟩:=h;have A1:∀ x:Obj,(w.alloc x).cell? ⟨c,0,none⟩=some (.pointer (some ⟨b,0,none⟩)):=fun x=>((Keeps.refl [] w).alloc x).cell hc (by simp)
 have A2:∀ x:Obj,(w.alloc x).cell? ⟨d,0,none⟩=some (.int .i64 g):=fun x=>((Keeps.refl [] w).alloc x).cell hd (by simp)
 clear hc hd;obtain ⟨q,hq⟩:∃ q,Md.may st g s=q:=⟨_,rfl⟩
 rw [hq];unfold sdV
 go_enter Try.func59,Try.ntmps59
 go_wp2_with fail
 refine (model_may _ _ st N S g s (HM.out.then ((Keeps.refl [] w).alloc _))).mono ?_
 rintro e w2 ⟨rfl,k2⟩
 rw [hq];have K2:=Lib.hid (((Keeps.refl [] w).alloc _).then k2);clear k2
 go_wp2_with fail
 go_ret
 exact ⟨rfl,K2.out⟩
set_option maxHeartbeats 1600000 in
theorem model_Any (w:World) (p:Value) (st:Md.St) (N:Nat) (S:List Nat) (g:Int) (o:Pn.Op) (vc:Value) (U:List Nat) (h:Mo w p st N S) (hv:GV caseE 3 w vc o.cases U) :
  Calls Try.prog 38 #[p,.int .i64 g,.agg (opV o vc)] w (RBool (Md.anyMay st g o) w):=by
 have hmf:∀ (fn:Fn) (first cap:Array Value) (w:World),(Instr.makeFunc fn first cap).run Try.prog w=.ok (.func fn first cap) w:=fun _ _ _ _=>rfl
 have HM:=Lib.hid h;have HV:=Lib.hid hv;obtain ⟨b,_,_,_,_,_,_,_,rfl,_⟩:=h;obtain ⟨av,cv,rfl⟩:=hv.shape;obtain ⟨w0,hw0⟩:∃ w0,((w.alloc (.cells #[.pointer (some ⟨b,0,none⟩)] 29)).alloc (.cells #[.int .i64 g] 3)).alloc (.cells (opV o (.slice av o.cases.length cv)) 28)=w0:=⟨_,rfl⟩
 have K0:Hid (Keeps [] w w0):=Lib.hid (hw0 ▸ (((Keeps.refl [] w).alloc _).alloc _).alloc _);have HC:Hid (w0.cell? ⟨w.heap.size,0,none⟩=some (.pointer (some ⟨b,0,none⟩))):=Lib.hid (hw0 ▸ (((Blk.fresh w [.pointer (some ⟨b,0,none⟩)] _ _ rfl).alloc _).alloc _).cell 0);have HG:Hid (w0.cell? ⟨w.heap.size + 1,0,none⟩=some (.int .i64 g)):=Lib.hid (hw0 ▸ ((Blk.fresh _ [.int .i64 g] _ _ (by simp)).alloc _).cell 0);have HOB:Hid (Blk w0 (w.heap.size + 2) [.int .i64 o.kind,.int .i64 o.ch,.int .i64 o.n,.int .i64 o.v,.slice av o.cases.length cv,.bool o.els] 28):=Lib.hid (hw0 ▸ Blk.fresh _ [.int .i64 o.kind,.int .i64 o.ch,.int .i64 o.n,.int .i64 o.v,.slice av o.cases.length cv,.bool o.els] _ _ (by simp));obtain ⟨⟨b0,b1,b2,b3,b4,b5⟩,_⟩:=Blk.six HOB.out;clear hv;unfold opV at hw0;unfold opV
 go_enter Try.func38,Try.ntmps38
 go_wp2_with fail
 refine (model_anyM _ _ _ o _ U (fun _ s=>Md.may st g s) (HV.out.then caseE_kept K0.out) (fun i s w' _ k=>model_mays w' _ st N S g i s _ _ (HM.out.then (K0.out.then k)) (k.cell HC.out (by simp)) (k.cell HG.out (by simp)))).mono ?_
 rintro e w2 ⟨rfl,k2⟩
 have K2:=Lib.hid (K0.out.then k2);obtain ⟨q,hq⟩:∃ q,Md.any o (fun _ s=>Md.may st g s)=q:=⟨_,rfl⟩
 have HN:Hid (q=Md.anyMay st g o):=Lib.hid hq.symm;rw [hq];clear k2 hq hw0
 go_wp2_with fail
 go_ret
 exact rb HN.out K2.out
abbrev zOp:Value:=.agg #[.int .i64 0,.int .i64 0,.int .i64 0,.int .i64 0,.slice none 0 0,.bool false]
theorem zero_info:(Try.prog.info? 28).map (fun i=>i.zero)=some (some zOp):=by kernel_rfl
theorem zero_op (w:World):(zeroValue 28).run Try.prog w=.ok zOp w:=by
 have h:=zero_info
 cases hi:Try.prog.info? 28 with
 | none=>rw [hi] at h;cases h
 | some i =>
  rw [hi] at h;have h2:i.zero=some zOp:=by simpa using h
  simp [zeroValue,typeInfo,hi,h2]
set_option maxHeartbeats 1600000 in
theorem model_waits (w:World) (p:Value) (st:Md.St) (N:Nat) (S:List Nat) (g:Int) (h:Mo w p st N S) (hgw:wf64L g) :
  Calls Try.prog 11 #[p,.int .i64 g] w (RBool (st.waits g).isSome w):=by
 obtain ⟨b,bm,vh,T,Us,SW,f,col,rfl,hm⟩:=h;have m1:=hm.cells.2.1
 cases hw:st.waits g with
 | none =>
  have hf:=hm.wm.none hw
  go_enter Try.func11,Try.ntmps11
  go_wp2_with (at_lookup;go_must (refine wp_mapGet (f:=f) Try.underlying3 Try.underlying78 zero_op hgw hm.map ?_))
  go_ret
  exact rb rfl ((Keeps.refl [] w).alloc _)
 | some o =>
  obtain ⟨_,vc,U,hf,hv,_⟩:=hm.wm.some hw;obtain ⟨av,cv,rfl⟩:=hv.shape;unfold opV at hf
  go_enter Try.func11,Try.ntmps11
  go_wp2_with (at_lookup;go_must (refine wp_mapGet (f:=f) Try.underlying3 Try.underlying78 zero_op hgw hm.map ?_))
  go_ret
  exact rb rfl ((Keeps.refl [] w).alloc _)
open Go.RowKit
theorem elemChan:Elem Try.prog 40 44 3 40 (.agg #[.int .i64 0,.slice none 0 0,.bool false]):=⟨Try.underlying40,by kernel_rfl,rfl,by decide,by decide⟩
theorem elemI64:Elem Try.prog 42 2 1 8 (.int .i64 0):=⟨Try.underlying42,by kernel_rfl,rfl,by decide,by decide⟩
def ZR:List Value:=[.int .i64 0,.int .i64 0,.int .i64 0,.bool false,.int .i64 0]
theorem Blk.res5 {w:World} {g:Nat} {a b c d e:Value} {t:TypeId} (h:Blk w g [a,b,c,d,e] t):(w.cell? ⟨g,0,none⟩=some a∧w.cell? ⟨g,1,none⟩=some b∧w.cell? ⟨g,2,none⟩=some c∧w.cell? ⟨g,3,none⟩=some d∧w.cell? ⟨g,4,none⟩=some e) ∧
  (w.frozen? ⟨g,0,none⟩=false∧w.frozen? ⟨g,1,none⟩=false∧w.frozen? ⟨g,2,none⟩=false∧w.frozen? ⟨g,3,none⟩=false∧w.frozen? ⟨g,4,none⟩=false) :=
 ⟨⟨h.cell 0,h.cell 1,h.cell 2,h.cell 3,h.cell 4⟩,⟨h.free 0,h.free 1,h.free 2,h.free 3,h.free 4⟩⟩
theorem res_fin {S:List Nat} {w w1 w8 W:World} {p:Value} {st:Md.St} {N:Nat} (K1:Keeps [] w w1) (hn:w.heap.size < w1.heap.size) (h:MoTo S w1 w8 p st N) (hS:∀ x∈S,x < w.heap.size) (kW:Keeps [w.heap.size] w8 W):MoTo S w W p st N:=by
 obtain ⟨S2,h1,h2,h3⟩:=h;refine ⟨S2,h1.keep kW (fun x hx=>?_),((K1.mono (by simp)).trans h2 (fun x hx=>.inl hx)).trans kW (by simp),fun x hx=>?_⟩
 ·rcases h3 x hx with h | h
  ·have:=hS x h;simp;omega
  ·simp;omega
 ·rcases h3 x hx with h | h
  ·exact .inl h
  ·exact .inr (by omega)
set_option maxHeartbeats 1600000 in
theorem model_makes (w:World) (p:Value) (st:Md.St) (N:Nat) (S:List Nat) (room:Int) (h:Mo w p st N S) :
  Calls Try.prog 61 #[p,.int .i64 room] w (ResPost S w p ⟨(Md.makes st.chans room).1,st.waits⟩ N (Md.makes st.chans room).2):=by
 obtain ⟨b,bm,vh,T,Us,SW,f,col,rfl,hm⟩:=h;obtain ⟨ao,cap,rfl⟩:=hm.chans.shape;have hle:=hm.chans.le;unfold maxLen at hle;obtain ⟨c0,c1,f0,f1⟩:=hm.cells;have HM:=Lib.hid hm;have hbl:=hm.lt b hm.sb;clear hm
 by_cases h8:8≤st.chans.length
 ·have HE:Hid (Md.makes st.chans room=(st.chans,⟨7,-1,0,false,0⟩)):=Lib.hid (by unfold Md.makes;rw [if_pos h8]);rw [HE.out];have h8':(8:Int)≤(st.chans.length:Int):=by omega
  clear h8;have A0:∀ x:Obj,(w.alloc x).cell? ⟨b,0,none⟩=some (.slice ao st.chans.length cap):=fun x=>((Keeps.refl [] w).alloc x).cell c0 (by simp)
  go_enter Try.func61,Try.ntmps61
  go_wp2_with fail
  refine bodyPost_ret (v:=.agg #[.int .i64 7,.int .i64 (-1),.int .i64 0,.bool false,.int .i64 0]) (by simp [results,Try.results61,go_sem]) rfl ?_;exact res_ret (r':=⟨7,-1,0,false,0⟩) rfl rfl (MoTo.refl ⟨b,bm,_,T,Us,SW,f,col,rfl,HM.out.then ((Keeps.refl [] w).alloc _)⟩ ((Keeps.refl [] w).alloc _))
 ·have HE:Hid (Md.makes st.chans room=(st.chans ++ [⟨room,[],false⟩],⟨1,-1,0,true,(st.chans.length:Int) + 1⟩)):=Lib.hid (by unfold Md.makes;rw [if_neg h8]);rw [HE.out];have h8':¬ ((8:Int)≤(st.chans.length:Int)):=by omega
  obtain ⟨w1,hw1⟩:∃ w1,w.alloc (.cells ZR.toArray 50)=w1:=⟨_,rfl⟩
  have K1:Hid (Keeps [] w w1):=Lib.hid (hw1 ▸ (Keeps.refl [] w).alloc _);have HZ:Hid (Blk w1 w.heap.size ZR 50):=Lib.hid (hw1 ▸ Blk.fresh w _ _ _ rfl);have HM1:=Lib.hid (HM.out.then K1.out);obtain ⟨⟨xs,hr,hp⟩,_⟩:=HM1.out.chans;have HR:=Lib.hid hr;have HP:=Lib.hid hp;have A0:w1.cell? ⟨b,0,none⟩=some (.slice ao st.chans.length cap):=HM1.out.cells.1;clear hr hp c0 c1 f0 f1;unfold ZR at hw1
  go_enter Try.func61,Try.ntmps61
  go_wp2_with (at_builtin;go_must (refine wp_app1 elemChan (m:=1) (ys:=[.int .i64 room,.slice none 0 0,.bool false]) HR.out rfl one_le_max (by intro y hy;simp at hy;rcases hy with rfl | rfl | rfl <;> rfl) (by omega) ?_))
  intro ao7 cap7 w7 T7 r7 k7 s7;obtain ⟨n1,n2,n3,n4,n5⟩:=HM1.out.nT;obtain ⟨S2,col2,hM2,kS,sS⟩:=HM1.out.more (room:=room) (by have:=HR.out.len;omega) HP.out r7 k7 s7;have hnT:w.heap.size∉T:=fun hm=>by have:=HM.out.lt _ (HM.out.st _ hm);omega
  have hz7:=HZ.out.keep k7 hnT;have hb7:=HM1.out.blk.keep k7 n1;have f0:w7.frozen? ⟨b,0,none⟩=false:=hb7.free 0;have c0:w7.cell? ⟨b,0,none⟩=some (.slice ao st.chans.length cap):=hb7.cell 0;have HZ8:=Lib.hid (hz7.other (a:=⟨b,0,none⟩) (by simp;omega) (.slice ao7 (st.chans.length + 1) cap7));have HM2:=Lib.hid hM2;have HK:=Lib.hid kS;have HS:=Lib.hid sS;clear r7 k7 s7 hM2 kS sS hz7 hb7 n1 n2 n3 n4 n5 hw1;have hz:=HZ8.out
  try unfold ZR at hz
  obtain ⟨⟨d0,d1,d2,d3,d4⟩,e0,e1,e2,e3,e4⟩:=Blk.res5 hz;have hzz:=((((hz.set 0 (.int .i64 1)).set 1 (.int .i64 (-1))).set 2 (.int .i64 0)).set 3 (.bool true)).set 4 (.int .i64 ((st.chans.length:Int) + 1));simp only [List.set_cons_succ,List.set_cons_zero] at hzz;have HZZ:=Lib.hid hzz;have KW:=Lib.hid ((((((Keeps.refl [w.heap.size] (w7.setCell ⟨b,0,none⟩ (.slice ao7 (st.chans.length + 1) cap7))).setCell (p:=⟨w.heap.size,0,none⟩) (by simp) (.int .i64 1)).setCell (p:=⟨w.heap.size,1,none⟩) (by simp) (.int .i64 (-1))).setCell (p:=⟨w.heap.size,2,none⟩) (by simp) (.int .i64 0)).setCell (p:=⟨w.heap.size,3,none⟩) (by simp) (.bool true)).setCell (p:=⟨w.heap.size,4,none⟩) (by simp) (.int .i64 ((st.chans.length:Int) + 1)));clear hz hzz
  go_wp2_with fail
  obtain ⟨⟨z0,z1,z2,z3,z4⟩,_⟩:=Blk.res5 HZZ.out;refine bodyPost_ret (v:=.agg #[.int .i64 1,.int .i64 (-1),.int .i64 0,.bool true,.int .i64 ((st.chans.length:Int) + 1)]) (by simp [results,Try.results61,go_sem,z0,z1,z2,z3,z4]) rfl ?_;exact res_ret (r':=⟨1,-1,0,true,(st.chans.length:Int) + 1⟩) rfl rfl (res_fin K1.out (by have:=HZ.out.lt;exact this) ⟨S2,⟨b,bm,_,_,_,_,_,_,rfl,HM2.out⟩,HK.out,HS.out⟩ HM.out.lt KW.out)
set_option maxHeartbeats 1600000 in
theorem model_closes (w:World) (p:Value) (st:Md.St) (N:Nat) (S:List Nat) (ch:Int) (h:Mo w p st N S) :
  Calls Try.prog 63 #[p,.int .i64 ch] w (ResPost S w p ⟨(Md.closes st.chans ch).1,st.waits⟩ N (Md.closes st.chans ch).2):=by
 obtain ⟨b,bm,vh,T,Us,SW,f,col,rfl,hm⟩:=h;obtain ⟨ao,cap,rfl⟩:=hm.chans.shape;have hle:=hm.chans.le;have HM:=Lib.hid hm;clear hm
 by_cases hin:1≤ch∧ch≤(st.chans.length:Int)
 ·obtain ⟨k,rfl⟩:∃ k:Nat,ch=(k:Int) + 1:=⟨(ch - 1).toNat,by omega⟩
  have hk:k < st.chans.length:=by omega
  obtain ⟨c,hc,hc2⟩:=Md.chan_some hin.1 hin.2;have HPC:Hid (∀ d,Md.putChan st.chans ((k:Int) + 1) d=st.chans.set k d):=Lib.hid (fun d=>by unfold Md.putChan;rw [show ((k:Int) + 1 - 1).toNat=k by omega]);rw [show ((k:Int) + 1 - 1).toNat=k by omega] at hc2;obtain ⟨g,off,bv,U,rfl,htg,hg,a0,a1,a2,_,hb,_,_⟩:=HM.out.chans.get hc2;have HC:=Lib.hid hc;have HC2:=Lib.hid hc2;clear hc hc2 hb
  cases hcl:c.closed with
  | true =>
   have HE:Hid (Md.closes st.chans ((k:Int) + 1)=(st.chans,⟨4,-1,0,false,0⟩)):=Lib.hid (by unfold Md.closes;rw [HC.out];simp [hcl]);rw [HE.out];rw [hcl] at a2;have A2:∀ x:Obj,(w.alloc x).cell? ⟨g,off + k * 3 + 2,none⟩=some (.bool true):=fun x=>((Keeps.refl [] w).alloc x).cell a2 (by simp)
   clear hcl
   go_enter Try.func63,Try.ntmps63
   go_wp2_with fail
   refine (model_channel _ b _ _ g off k _ (HM.out.blk.alloc _) hle hk).mono ?_
   rintro e w1 ⟨rfl,rfl⟩
   go_wp2_with fail
   refine bodyPost_ret (v:=.agg #[.int .i64 4,.int .i64 (-1),.int .i64 0,.bool false,.int .i64 0]) (by simp [results,Try.results63,go_sem]) rfl ?_;exact res_ret (r':=⟨4,-1,0,false,0⟩) rfl rfl (MoTo.refl ⟨b,bm,_,T,Us,SW,f,col,rfl,HM.out.then ((Keeps.refl [] w).alloc _)⟩ ((Keeps.refl [] w).alloc _))
  | false =>
   have HE:Hid (Md.closes st.chans ((k:Int) + 1)=(st.chans.set k ⟨c.cap,c.buf,true⟩,⟨1,-1,0,true,0⟩)):=Lib.hid (by unfold Md.closes;rw [HC.out];simp [hcl,HPC.out]);rw [HE.out];obtain ⟨w1,hw1⟩:∃ w1,w.alloc (.cells #[.int .i64 0,.int .i64 0,.int .i64 0,.bool false,.int .i64 0] 50)=w1:=⟨_,rfl⟩
   have K1:Hid (Keeps [] w w1):=Lib.hid (hw1 ▸ (Keeps.refl [] w).alloc _);have HZ:Hid (Blk w1 w.heap.size ZR 50):=Lib.hid (hw1 ▸ Blk.fresh w ZR _ _ rfl);have HM1:=Lib.hid (HM.out.then K1.out);obtain ⟨g',off',_,_,hgo,_,_,A0,A1,A2,AF,_,_,_⟩:=HM1.out.chans.get HC2.out;obtain ⟨rfl,rfl⟩:g=g'∧off=off':=by simpa using hgo
   rw [hcl] at A2;have AF2:=AF (k * 3 + 2);rw [← Nat.add_assoc] at AF2;clear hcl A0 A1 AF hgo a0 a1 a2
   go_enter Try.func63,Try.ntmps63
   go_wp2_with fail
   refine (model_channel _ b _ _ g off k _ HM1.out.blk hle hk).mono ?_
   rintro e w1' ⟨rfl,rfl⟩
   obtain ⟨hM2,kS⟩:=HM1.out.shut HC2.out;have HZ8:=Lib.hid (HZ.out.other (a:=⟨g,off + k * 3 + 2,none⟩) (by simp;omega) (.bool true));have HM2:=Lib.hid hM2;have HK:=Lib.hid kS;clear hM2 kS hw1;have hz:=HZ8.out
   try unfold ZR at hz
   obtain ⟨⟨d0,d1,d2,d3,d4⟩,e0,e1,e2,e3,e4⟩:=Blk.res5 hz;have hzz:=((((hz.set 0 (.int .i64 1)).set 1 (.int .i64 (-1))).set 2 (.int .i64 0)).set 3 (.bool true)).set 4 (.int .i64 0);simp only [List.set_cons_succ,List.set_cons_zero] at hzz;have HZZ:=Lib.hid hzz;have KW:=Lib.hid ((((((Keeps.refl [w.heap.size] (w1.setCell ⟨g,off + k * 3 + 2,none⟩ (.bool true))).setCell (p:=⟨w.heap.size,0,none⟩) (by simp) (.int .i64 1)).setCell (p:=⟨w.heap.size,1,none⟩) (by simp) (.int .i64 (-1))).setCell (p:=⟨w.heap.size,2,none⟩) (by simp) (.int .i64 0)).setCell (p:=⟨w.heap.size,3,none⟩) (by simp) (.bool true)).setCell (p:=⟨w.heap.size,4,none⟩) (by simp) (.int .i64 0));clear hz hzz
   go_wp2_with fail
   obtain ⟨⟨z0,z1,z2,z3,z4⟩,_⟩:=Blk.res5 HZZ.out;refine bodyPost_ret (v:=.agg #[.int .i64 1,.int .i64 (-1),.int .i64 0,.bool true,.int .i64 0]) (by simp [results,Try.results63,go_sem,z0,z1,z2,z3,z4]) rfl ?_;exact res_ret (r':=⟨1,-1,0,true,0⟩) rfl rfl (res_fin K1.out (by have:=HZ.out.lt;exact this) ⟨S,⟨b,bm,_,_,_,_,_,_,rfl,HM2.out⟩,HK.out,fun x hx=>.inl hx⟩ HM.out.lt KW.out)
 ·have hout:ch < 1∨(st.chans.length:Int) < ch:=by omega
  have HE:Hid (Md.closes st.chans ch=(st.chans,⟨5,-1,0,false,0⟩)):=Lib.hid (by unfold Md.closes;rw [Md.chan_none hout]);rw [HE.out]
  go_enter Try.func63,Try.ntmps63
  go_wp2_with fail
  refine (model_channel_no _ b _ _ _ _ _ (HM.out.blk.alloc _) hle hout).mono ?_
  rintro e w1 ⟨rfl,rfl⟩
  go_wp2_with fail
  refine bodyPost_ret (v:=.agg #[.int .i64 5,.int .i64 (-1),.int .i64 0,.bool false,.int .i64 0]) (by simp [results,Try.results63,go_sem]) rfl ?_;exact res_ret (r':=⟨5,-1,0,false,0⟩) rfl rfl (MoTo.refl ⟨b,bm,_,T,Us,SW,f,col,rfl,HM.out.then ((Keeps.refl [] w).alloc _)⟩ ((Keeps.refl [] w).alloc _))
end Go.Proofs.Ytdibmkjoaghafaa
