/-
  What the laws need, part B29.
  Conditions: none.
-/
import Derived.Test.YtdjhhbpedllnhaaGreatB28
import Derived.Laws.CopyRow
set_option linter.unusedVariables false
set_option linter.unusedSimpArgs false
set_option linter.unnecessarySimpa false
set_option maxHeartbeats 2000000
namespace Go.Proofs.YtdjhhbpedllnhaaGreat
open Go.RowKit
namespace Fl
set_option maxRecDepth 100000
abbrev Cj (F:FuncId):Value:=.func (.func F) #[] #[]
theorem VC (x:Int):Pure Tryz.prog 151 [.c (nI x)] (.c (bI (x != -1))):=by
 refine an.intro Tryz.func151 rfl rfl rfl (fun ok e=>?_)
 repeat (refine gn ?_)
 exact aD Tryz.func151
theorem at_nums {l:List Int} {k:Nat} {x:Int} (h:l[k]?=some x):(aF l)[((k:Nat):Int).toNat]?=some [nI x]:=by
 rw [Int.toNat_natCast];unfold aF;rw [List.getElem?_map,h];rfl
theorem VD (v:Value) (l:List Int) (hl:l.length≤1000) :
  an Tryz.prog 199 [.c (.v v),.c (.v (Cj 151))] [.row v 3 1 (aF l)] (fun r:{ r:Int // decide (r ≥ 0)=l.any (fun x=>x != -1) }=>(.c (nI r.1),[.row v 3 1 (aF l)])):=by
 refine an.intro Tryz.func199 rfl rfl rfl (fun ok e=>?_)
 repeat (refine gn ?_)
 refine J.loop (ι:={ k:Nat // k≤l.length∧∀ j,j < k→l[j]?=some (-1) }) (fun q=>[(8,.c (nI q.1)),(7,.c (nI (aF l).length)),(0,.c (.v v)),(1,.c (.v (Cj 151)))]) (fun _=>[.row v 3 1 (aF l)]) (fun q=>l.length - q.1) ⟨0,Nat.zero_le _,fun j h=>by omega⟩ (fun X h=>h.aW ⟨rfl,rfl,rfl,rfl,trivial⟩) (fun q ih=>?_);obtain ⟨k,hk,hp⟩:=q;simp only at hk ih ⊢
 by_cases h:k < l.length
 ·have t1:decide ((k:Int) < ((aF l).length:Int))=true:=decide_eq_true (by rw [c7];omega);obtain ⟨x,hx⟩:∃ x,l[k]?=some x:=⟨_,List.getElem?_eq_getElem h⟩
  have A1:=at_nums hx;have i0:(0:Int)≤(k:Int):=by omega
  have i1:(k:Int) < (aF l).length:=by rw [c7];omega
  have C1:=VC x
  cases c1:(x != -1) with
  | true =>
   rw [c1] at C1;have ha:decide ((k:Int) ≥ 0)=l.any (fun x=>x != -1):=by
    rw [decide_eq_true (by omega)];exact (List.any_eq_true.2 ⟨x,List.mem_of_getElem? hx,c1⟩).symm
   repeat (first | (refine K.load ?_;refine jq rfl rfl rfl (Qt.aL rfl A1 rfl) ?_) | (refine K.indexAddr ?_;refine jq rfl rfl rfl (Qt.aI rfl rfl i0 i1) ?_) | (refine K.call ?_;refine JO.ld (Ld.LD rfl C1 (qb rfl) rfl (.cons .refl .nil)) rfl (fun _=>?_)) | refine gn ?_)
   (exact J.bN Tryz.func199 rfl (.cons (.tmp rfl) .nil) ⟨k,ha⟩ (by exact .refl) rfl)
  | false =>
   rw [c1] at C1;have e1:x=-1:=by simpa using c1
   repeat (first | (refine K.load ?_;refine jq rfl rfl rfl (Qt.aL rfl A1 rfl) ?_) | (refine K.indexAddr ?_;refine jq rfl rfl rfl (Qt.aI rfl rfl i0 i1) ?_) | (refine K.call ?_;refine JO.ld (Ld.LD rfl C1 (qb rfl) rfl (.cons .refl .nil)) rfl (fun _=>?_)) | refine gn ?_)
   exact (ih ⟨k + 1,by omega,fun j hj=>by
    by_cases z:j=k
    ·rw [z,hx,e1]
    ·exact hp j (by omega)⟩ (by simp only;omega)).aW ⟨rfl,rfl,rfl,rfl,trivial⟩
 ·have t1:decide ((k:Int) < ((aF l).length:Int))=false:=decide_eq_false (by rw [c7];omega);have ha:decide ((-1:Int) ≥ 0)=l.any (fun x=>x != -1):=by
   rw [decide_eq_false (by omega)]
   symm
   rw [List.any_eq_false];intro x hx;obtain ⟨j,hj⟩:=List.getElem?_of_mem hx;have:=hp j (by have:=(List.getElem?_eq_some_iff.1 hj).1;omega);rw [hj] at this;simp only [Option.some.injEq] at this;simp [this]
  repeat (refine gn ?_)
  (exact J.bN Tryz.func199 rfl (.cons (.tmp rfl) .nil) ⟨-1,ha⟩ (by exact .refl) rfl)
theorem VE {b:Bool} (r:{ r:Int // decide (r ≥ 0)=b }):decide (r.1 ≥ 0)=b:=r.2
theorem VF (v:Value) (l:List Int) (hl:l.length≤1000) :
  an Tryz.prog 152 [.c (.v v),.c (.v (Cj 151))] [.row v 3 1 (aF l)] (fun _:Unit=>(.c (bI (l.any (fun x=>x != -1))),[.row v 3 1 (aF l)])):=by
 have C1:=VD v l hl;refine an.intro Tryz.func152 rfl rfl rfl (fun ok e=>?_)
 repeat (first | refine aQ (VE _) ?_ | (refine K.call ?_;refine JO.ld (Ld.aY C1 (qb rfl) rfl (.cons .refl (.cons .refl .nil))) rfl ?_;intro r) | refine gn ?_)
 (exact J.bN Tryz.func152 rfl (.cons (.tmp rfl) .nil) () (by exact .refl) rfl)
theorem VG (n:Nat) (h0:1≤n) (h6:n≤6):Pure Tryz.prog 257 [.c (.v (.int .u64 1)),.c (.v (.int .u64 n))] (.bp [.c (.v (.int .u64 0)),.c (.v (.int .u64 n))]):=by
 obtain rfl | rfl | rfl | rfl | rfl | rfl:n=1∨n=2∨n=3∨n=4∨n=5∨n=6:=by omega
 all_goals
  refine an.intro Tryz.func257 rfl rfl rfl (fun ok e=>?_)
  repeat (first | (refine K.binOp ?_;refine jq rfl rfl rfl (Qt.bin rfl rfl (fun w=>rfl)) ?_) | refine gn ?_)
  exact aD Tryz.func257
theorem VH (n:Nat) (h0:1≤n) (h6:n≤6):Pure Tryz.prog 244 [.c (.v (.int .u64 1)),.c (.v (.int .u64 n))] (.bp [.c (.v (.int .u64 0)),.c (.v (.int .u64 n))]):=by
 have C:=VG n h0 h6;refine an.intro Tryz.func244 rfl rfl rfl (fun ok e=>?_)
 repeat (refine gn ?_)
 exact aD Tryz.func244
theorem wP {ok:Nat→Prop} {w:World}:∀ {q:List Int} {xs:List Value},RX ok w 1 (aF q) xs↔xs=q.map fun n=>Value.int .i64 n
 | [],xs=>by simp [aF,RX]
 | n :: q,xs=>by
  show RX ok w 1 ([nI n] :: aF q) xs↔_;unfold RX
  constructor
  ·rintro ⟨vs,ys,rfl,_,h1,h2⟩
   rw [wP.1 h2];unfold RC at h1;obtain ⟨x,xs,rfl,h3,h4⟩:=h1;unfold RC at h4;subst h4;unfold nI RA at h3;rw [h3.1];rfl
  ·rintro rfl
   exact ⟨[Value.int .i64 n],q.map fun n=>Value.int .i64 n,rfl,rfl,.cons (by unfold nI RA;exact ⟨rfl,rfl⟩) .nil,wP.2 rfl⟩
section
variable {P:Program} {c:Cx} {k:List Item} {f:Fm} {L:List aj} {T X:TypeId} {ps:String} {af:Array Edge} {gd:Option (Nat × Bool)} {t:Nat}
theorem Ld.FX (v:Value) {e bytes:Nat} {z:Value} [E:gf P X e 1 bytes z] {x y:Operand} {q q' src:List Int} {i b o N cap m dn dc sn:Nat} {L':List aj} [bx:fU L v e 1 (aF q) i] [st:jB L i (.row v e 1 (aF q')) L'] (hv:v=.slice (some ⟨b,o,none⟩) N cap) (ht:t < c.N) (hx:bg f x=some (.c (.v (.slice (some ⟨b,o + m,none⟩) dn dc))))
  (hy:∀ ac w,St c f L ac w→∃ ad sc,ac.eval y=.slice (some ad) sn sc∧∀ (j:Nat) (n:Int),src[j]?=some n→w.cell? (ad.add j)=some (.int .i64 n)) (hn:src.length=Nat.min sn dn) (hm:m + src.length≤q.length) (hq:q.take m ++ src ++ q.drop (m + src.length)=q') :
  Ld P c ⟨some t,.call ⟨.builtin .copy,#[x,y],#[X,X]⟩,T,ps,af,gd⟩ f L (cX v) (fun _:Unit=>(t,.c (.v (.int .i64 src.length))) :: f) (fun _=>L'):=⟨fun ac w s K Q hK=>by
 obtain ⟨hu,kX,hz,qD,r8⟩:=E.h;obtain ⟨ti,hi,eJ,dM,iY⟩:=info_parts kX;have jN:(P.info? e).map (·.size)=some 1:=by rw [hi];simp [dM]
 have rx:=s.val hx;obtain ⟨ad,sc,ry,VI⟩:=hy ac w s;obtain ⟨xs,⟨hl,ao,uT,FY,nG,lR,h4⟩,q2⟩:=s.res _ (List.mem_of_getElem? bx.h);rw [hv] at FY;simp only [Value.slice.injEq] at FY;obtain ⟨e1,e2,e3⟩:=FY;subst e3;rw [wP] at q2;have jM:xs.length=q.length:=by rw [q2,List.length_map]
 rcases h4 with ⟨h,_⟩ | ⟨g,off,cur,VJ,hS,hb,wY,hc⟩
 ·rw [h] at e1;cases e1
 rw [VJ] at e1;simp only [Option.some.injEq,Addr.mk.injEq] at e1;obtain ⟨rfl,rfl,_⟩:=e1;have vf:q.length=(aF q).length:=by rw [c7]
 have hN:N=q.length:=by rw [e2,c7]
 have h1:∀ u∈src.map (fun n=>Value.int .i64 n),u.oneCell'=true:=by intro u hu;obtain ⟨n,_,rfl⟩:=List.mem_map.1 hu;rfl
 have hr:=run_copy_row (P:=P) w X X T e b (o + m) dn dc ad sn sc cur.toArray e (src.map fun n=>Value.int .i64 n) hu jN hb (by rw [List.length_map];exact hn) (fun j y hj=>by
  rw [List.getElem?_map] at hj
  cases hs:src[j]? with
  | none=>rw [hs] at hj;cases hj
  | some n=>rw [hs] at hj;cases hj;exact VI j n hs) (by rw [List.length_map,List.size_toArray];omega) h1
 rw [List.length_map] at hr;have hk:aP (cX v) w (w.setRow b (cur.take (o + m) ++ src.map (fun n=>Value.int .i64 n) ++ cur.drop (o + m + src.length)).toArray):=(aP.refl _ w).setRow (g:=b) (.inl (by rw [hv];simp [cX])) _;have cF:o + m + src.length≤cur.length:=by omega
 have hh:(aj.row v e 1 (aF q')).holds (bM c L) (w.setRow b (cur.take (o + m) ++ src.map (fun n=>Value.int .i64 n) ++ cur.drop (o + m + src.length)).toArray):=by
  refine ⟨q'.map fun n=>Value.int .i64 n,?_,wP.2 rfl⟩;have FZ:q'.length=q.length:=by rw [← hq];simp;omega
  refine ⟨by rw [List.length_map,c7];omega,_,cap,by rw [hv,c7,FZ,hN],by rw [c7,FZ];omega,lR,.inr ⟨b,o,_,rfl,by rw [hv];rfl,setRow_heap w b cur.toArray _ e _ hb,?_,?_⟩⟩
  ·simp only [List.length_append,List.length_take,List.length_drop,List.length_map];omega
  ·intro j hj;rw [List.length_map,FZ] at hj;have F0:=hc j (by omega);rw [q2] at F0;have mK:(cur.take (o + m)).length=o + m:=by rw [List.length_take];omega
   have F6:(q.take m).length=m:=by rw [List.length_take];omega
   rw [← hq,List.map_append,List.map_append,List.append_assoc,List.append_assoc]
   by_cases c1:j < m
   ·rw [List.getElem?_append_left (by rw [mK];omega),List.getElem?_append_left (by rw [List.length_map,F6];omega),List.getElem?_take,if_pos (by omega),F0,List.getElem?_map,List.getElem?_map,List.getElem?_take,if_pos c1]
   ·have L1:(cur.take (o + m) ++ (src.map (fun n=>Value.int .i64 n) ++ cur.drop (o + m + src.length)))[o + j]?=(src.map (fun n=>Value.int .i64 n) ++ cur.drop (o + m + src.length))[j - m]?:=by
     rw [List.getElem?_append_right (by rw [mK];omega),mK,show o + j - (o + m)=j - m by omega]
    have L2:((q.take m).map (fun n=>Value.int .i64 n) ++ (src.map (fun n=>Value.int .i64 n) ++ (q.drop (m + src.length)).map (fun n=>Value.int .i64 n)))[j]?=(src.map (fun n=>Value.int .i64 n) ++ (q.drop (m + src.length)).map (fun n=>Value.int .i64 n))[j - m]?:=by
     rw [List.getElem?_append_right (by rw [List.length_map,F6];omega),List.length_map,F6]
    rw [L1,L2]
    by_cases c2:j - m < src.length
    ·rw [List.getElem?_append_left (by rw [List.length_map];exact c2),List.getElem?_append_left (by rw [List.length_map];exact c2)]
    ·rw [List.getElem?_append_right (by rw [List.length_map];omega),List.getElem?_append_right (by rw [List.length_map];omega),List.length_map,List.getElem?_drop,List.getElem?_map,List.getElem?_drop,show o + m + src.length + (j - m - src.length)=o + j by omega,F0,List.getElem?_map,show m + src.length + (j - m - src.length)=j by omega]
 unfold Oper.wp;have fJ:(execOp ac.eval ⟨some t,.call ⟨.builtin .copy,#[x,y],#[X,X]⟩,T,ps,af,gd⟩).run P w=.ok (.value (.int .i64 src.length)) (w.setRow b (cur.take (o + m) ++ src.map (fun n=>Value.int .i64 n) ++ cur.drop (o + m + src.length)).toArray):=by
  simp only [execOp,resolve,invoke,builtin,Sem.run_bind];simp [rx,ry,hr,goInt,Sem.run_bind]
 rw [fJ];have m':Mon (bM c L) (bM c L) w (w.setRow b (cur.take (o + m) ++ src.map (fun n=>Value.int .i64 n) ++ cur.drop (o + m + src.length)).toArray):=Mon.j8 hk fun g hg ho=>⟨ho,fun hm=>ho.2 (dz.2 ⟨_,List.mem_of_getElem? bx.h,hm⟩)⟩
 have s2:=s.set bx.h (r':=.row v e 1 (aF q')) rfl hk hh;rw [st.h] at s2;refine hK () _ _ hk (s2.lU ht (by unfold RD RA;exact ⟨rfl,rfl⟩)) fun y hy=>?_
 rw [← st.h] at hy;exact .inl ((tM bx.h (r':=.row v e 1 (aF q')) rfl y).1 hy)⟩
theorem VK {y:Operand} {l2:List Int} (h:bg f y=some (.c (.r 1 (aF l2)))) (bV:l2≠[]):∀ ac w,St c f L ac w→∃ ad sc,ac.eval y=.slice (some ad) l2.length sc∧∀ (j:Nat) (n:Int),l2[j]?=some n→w.cell? (ad.add j)=some (.int .i64 n):=fun ac w s=>by
 have ry:=s.ev h;unfold RD at ry;obtain ⟨ys,S,⟨iP,bo,mJ,lX,Af,Ag,pN⟩,v2,v3⟩:=ry.view;rw [wP] at v2;have hl:0 < l2.length:=List.length_pos_iff.2 bV;rw [c7] at iP lX pN;rcases pN with ⟨h0,_⟩ | ⟨ug,tD,rfl,_,Ah,qE⟩
 ·omega
 ·refine ⟨_,_,lX,fun j n hj=>?_⟩;have F7:=(List.getElem?_eq_some_iff.1 hj).1;rw [Addr.add_lit,qE j (by rw [v2,List.length_map];exact F7),v2,List.getElem?_map,hj];rfl
theorem LM (v:Value) {e:TypeId} {y:Operand} {q:List Int} {i b o N cap n' uT:Nat} [bx:fU L v e 1 (aF q) i] (hv:v=.slice (some ⟨b,o,none⟩) N cap) (h:bg f y=some (.c (.v (.slice (some ⟨b,o,none⟩) n' uT)))) (m:Nat):∀ ac w,St c f L ac w→∃ ad sc,ac.eval y=.slice (some ad) n' sc∧∀ (j:Nat) (n:Int),(q.take m)[j]?=some n→w.cell? (ad.add j)=some (.int .i64 n):=fun ac w s=>by
 have ry:=s.val h;obtain ⟨xs,h1,h2⟩:=s.res _ (List.mem_of_getElem? bx.h);rw [wP] at h2;obtain ⟨iP,bo,mJ,lX,Af,Ag,pN⟩:=h1.view;rw [hv] at lX;simp only [Value.slice.injEq] at lX;refine ⟨_,_,ry,fun j n hj=>?_⟩;rw [List.getElem?_take] at hj
 split at hj
 ·have F7:=(List.getElem?_eq_some_iff.1 hj).1;rcases pN with ⟨h0,_⟩ | ⟨ug,tD,F8,_,Ah,qE⟩
  ·rw [c7] at h0;omega
  ·rw [← lX.1] at F8;simp only [Option.some.injEq,Addr.mk.injEq] at F8;obtain ⟨rfl,rfl,_⟩:=F8;rw [Addr.add_lit,qE j (by rw [h2,List.length_map];exact F7),h2,List.getElem?_map,hj];rfl
 ·cases hj
theorem Qt.VL {x lo:Operand} {X e b o N cap:Nat} {kd:IntKind} {n:Int} [i:fu P X e 1] (h:bg f x=some (.c (.v (.slice (some ⟨b,o,none⟩) N cap)))) (xN:bg f lo=some (.c (.v (.int kd n)))) (h0:0≤n) (h1:n < N) (hN:N≤cap):Qt P c [] ⟨t,.slice X x (some lo) none none,T,ps,af,gd⟩ f L (.c (.v (.slice (some ⟨b,o + n.toNat,none⟩) (N - n.toNat) (cap - n.toNat)))):=⟨fun a w s=>by
 have rx:=s.val h;have ry:=s.val xN;refine ⟨_,by unfold RD RA;exact ⟨rfl,rfl⟩,fun w' k=>?_⟩;have pY:(Instr.sliceBounds true N cap (some (.int kd n)) (none:Option Value) none).run P w'=.ok (n.toNat,N,cap) w':=by
  unfold Instr.sliceBounds;simp only [Sem.run_bind,Sem.run_pure,Result.andThen_ok,Option.isSome_none,Bool.false_eq_true,↓reduceIte,Instr.sliceBound,asIntOf];rw [if_pos ⟨h0,by omega⟩];simp
 simp only [execOp,Option.map_none,Option.map_some,Instr.sliceAt,Instr.slice,rx,ry,Sem.run_bind,run_underlying (ke.jA i.h),Result.andThen_ok,pY,iQ.run i.s,Sem.run_pure];rw [az];simp [Addr.add_mid]⟩
end
theorem VM {n k:Nat} (hk:k≤n) {a b:Int}:(List.replicate k a ++ List.replicate (n - k) b).take k ++ (List.replicate k a ++ List.replicate (n - k) b).take (Nat.min k (n - k)) ++ (List.replicate k a ++ List.replicate (n - k) b).drop (k + Nat.min k (n - k))=List.replicate (k + Nat.min k (n - k)) a ++ List.replicate (n - (k + Nat.min k (n - k))) b:=by
 have h1:Nat.min k (n - k)≤k:=Nat.min_le_left _ _;have h2:Nat.min k (n - k)≤n - k:=Nat.min_le_right _ _;generalize Nat.min k (n - k)=m at h1 h2;rw [List.take_append_of_le_length (by simp),List.take_append_of_le_length (by simpa using h1),List.take_replicate,List.take_replicate,Nat.min_self,Nat.min_eq_left h1,List.drop_append,List.drop_replicate,List.drop_replicate,List.length_replicate,show k - (k + m)=0 by omega,show n - k - (k + m - k)=n - (k + m) by omega,List.replicate_append_replicate];simp
section
variable {P:Program} {c:Cx} {f:Fm} {L:List aj} {T:TypeId} {ps:String} {af:Array Edge} {gd:Option (Nat × Bool)} {t:Nat}
theorem Ld.VN {F:FuncId} {args:List Operand} {tys:Array TypeId} {dh ds:List D} {ι:Type} {dd:ι→D} {m:ι→aj} [i:aG P F] (hC:an P F ds [] (fun x=>(dd x,[m x]))) (ht:t < c.N) (h:iw f args=some dh) (hle:aJ dh ds) :
  Ld P c ⟨some t,.call ⟨.value (.func F),args.toArray,tys⟩,T,ps,af,gd⟩ f L [] (fun x=>(t,dd x) :: f) (fun x=>m x :: L):=Ld.DE hC (fun _=>rfl) ht h hle
end
theorem VO (n:Nat) (h0:1≤n) (h6:n≤6) :
  an Tryz.prog 198 [.c (.r 1 (aF [-1])),.c (nI n)] [] (fun v:Value=>(.c (.v v),[.row v 3 1 (aF (List.replicate n (-1)))])):=by
 have C1:=VH n h0 h6;have t1:decide ((n:Int) < 0)=false:=decide_eq_false (by omega);have w1:IntKind.u64.wrap (((aF [-1]).length:Nat):Int)=1:=by rfl
 have w2:IntKind.u64.wrap (n:Int)=(n:Int):=by
  obtain rfl | rfl | rfl | rfl | rfl | rfl:n=1∨n=2∨n=3∨n=4∨n=5∨n=6:=by omega
  all_goals rfl
 have w3:IntKind.i64.wrap (n:Int)=(n:Int):=dJ (by omega) (by omega);have t2:decide ((n:Int) > 9223372036854775807)=false:=decide_eq_false (by omega);have t3:decide ((0:Int) > 0)=false:=by decide
 have hz:List.replicate n (vs [Value.int .i64 0])=aF (List.replicate n 0):=by simp [aF,vs,nI]
 refine an.intro Tryz.func198 rfl rfl rfl (fun ok e=>?_)
 repeat (first | (refine K.convert ?_;first | refine jq rfl rfl rfl (Qt.conv rfl w1) ?_ | refine jq rfl rfl rfl (Qt.conv rfl w2) ?_ | refine jq rfl rfl rfl (Qt.conv rfl w3) ?_) | (refine K.make ?_;refine JO.ld (Ld.make (n) (qb rfl) rfl rfl (by (rfl)) (by omega)) rfl (fun _=>?_)) | refine gn ?_)
 rename_i b;rw [hz];have VP:(List.replicate n (0:Int)).take 0 ++ [-1] ++ (List.replicate n (0:Int)).drop (0 + ([-1]:List Int).length)=List.replicate 1 (-1) ++ List.replicate (n - 1) 0:=by
  rw [List.drop_replicate];rfl
 have VQ:([-1]:List Int).length=Nat.min ([-1]:List Int).length n:=(Nat.min_eq_left h0).symm;have tS:0 + ([-1]:List Int).length≤(List.replicate n (0:Int)).length:=by simp;omega
 have bV:([-1]:List Int)≠[]:=by simp
 repeat (first | (refine K.bi ?_;refine JO.ld (Ld.FX (.slice (some ⟨b,0,none⟩) n n) (src:=[-1]) (o:=0) (m:=0) rfl (qb rfl) rfl (VK (l2:=[-1]) rfl bV) VQ tS VP) rfl (fun _=>?_)) | refine oJ ?_)
 repeat (refine gn ?_)
 refine J.loop (ι:={ k:Nat // 1≤k∧k≤n }) (fun q=>[(8,.c (nI q.1)),(7,.c (.v (.slice (some ⟨b,0,none⟩) n n)))]) (fun q=>[.row (.slice (some ⟨b,0,none⟩) n n) 3 1 (aF (List.replicate q.1 (-1) ++ List.replicate (n - q.1) 0))]) (fun q=>n - q.1) ⟨1,by omega,h0⟩ (fun X h=>h.aW ⟨rfl,rfl,trivial⟩) (fun q ih=>?_);obtain ⟨k,bQ,bF⟩:=q;simp only at bQ bF ih ⊢
 by_cases h:k < n
 ·have t4:decide ((k:Int) < (n:Int))=true:=decide_eq_true (by omega);have tS:Nat.min k (n - k)≤n - k:=Nat.min_le_right _ _;have cG:1≤Nat.min k (n - k):=Nat.le_min.2 ⟨bQ,by omega⟩;have YE:Nat.min k (n - k)≤k:=Nat.min_le_left _ _;have hs:=VM (a:=(-1)) (b:=0) (Nat.le_of_lt h);have td:((List.replicate k (-1:Int) ++ List.replicate (n - k) 0).take (Nat.min k (n - k))).length=Nat.min k (n - k):=by
   rw [List.length_take,List.length_append,List.length_replicate,List.length_replicate];omega
  have LN:k + ((List.replicate k (-1:Int) ++ List.replicate (n - k) 0).take (Nat.min k (n - k))).length≤(List.replicate k (-1:Int) ++ List.replicate (n - k) 0).length:=by
   rw [td,List.length_append,List.length_replicate,List.length_replicate];omega
  have iX:(List.replicate k (-1:Int) ++ List.replicate (n - k) 0).take k ++ (List.replicate k (-1:Int) ++ List.replicate (n - k) 0).take (Nat.min k (n - k)) ++ (List.replicate k (-1:Int) ++ List.replicate (n - k) 0).drop (k + ((List.replicate k (-1:Int) ++ List.replicate (n - k) 0).take (Nat.min k (n - k))).length)=List.replicate (k + Nat.min k (n - k)) (-1) ++ List.replicate (n - (k + Nat.min k (n - k))) 0:=by rw [td];exact hs
  have w5:IntKind.i64.wrap ((k:Int) + (((List.replicate k (-1:Int) ++ List.replicate (n - k) 0).take (Nat.min k (n - k))).length:Nat))=((k + Nat.min k (n - k):Nat):Int):=by rw [td];exact dJ (by omega) (by omega)
  repeat (refine gn ?_)
  refine J.draw (by kernel_rfl) rfl ?_;refine JW.base (some 7) ?_;refine JD.bz 1 rfl rfl (by kernel_rfl) rfl (qb rfl) (Qt.move rfl) rfl ?_;refine JD.bz 2 rfl rfl (by kernel_rfl) rfl (qb rfl) (Qt.move rfl) rfl ?_;refine JD.take 3 rfl rfl (by kernel_rfl) rfl (qb rfl) (Qt.VL rfl rfl (Int.natCast_nonneg k) (Int.ofNat_lt.2 h) (Nat.le_refl _)) rfl ?_;refine JD.bz 4 rfl rfl (by kernel_rfl) rfl (qb rfl) (Qt.move rfl) rfl ?_;refine JD.bz 5 rfl rfl (by kernel_rfl) rfl (qb rfl) (Qt.move rfl) rfl ?_;refine JD.take 6 rfl rfl (by kernel_rfl) rfl (qb rfl) (Qt.Vu rfl rfl (Int.natCast_nonneg k) (Int.ofNat_le.2 bF) (Nat.le_refl _)) rfl ?_;refine JD.cU (i:=0) (j:=7) (by kernel_rfl) ?_ ?_;refine JS.q rfl rfl rfl (qb rfl) (Qt.move rfl) ?_;refine jt 7 rfl rfl (Ld.FX (.slice (some ⟨b,0,none⟩) n n) (src:=(List.replicate k (-1:Int) ++ List.replicate (n - k) 0).take (Nat.min k (n - k))) (o:=0) (m:=k) rfl (qb rfl) rfl (LM (.slice (some ⟨b,0,none⟩) n n) rfl rfl (Nat.min k (n - k))) td LN iX) (fun _=>?_);refine JW.base none ?_;refine jk 8 rfl rfl rfl rfl (Qt.cJ rfl rfl rfl w5) ?_;refine jk 9 rfl rfl rfl rfl (Qt.assign rfl) ?_;refine bE ?_
  rotate_left
  refine JS.last rfl rfl (Ld.FX (.slice (some ⟨b,0,none⟩) n n) (src:=(List.replicate k (-1:Int) ++ List.replicate (n - k) 0).take (Nat.min k (n - k))) (o:=0) (m:=k) rfl (qb rfl) rfl (LM (.slice (some ⟨b,0,none⟩) n n) rfl rfl (Nat.min k (n - k))) td LN iX) (fun _=>?_);refine JW.base none ?_;refine jk 0 rfl rfl rfl rfl (Qt.move rfl) ?_;refine jk 8 rfl rfl rfl rfl (Qt.cJ rfl rfl rfl w5) ?_;refine jk 9 rfl rfl rfl rfl (Qt.assign rfl) ?_;refine bE ?_
  rotate_left
  all_goals
   repeat ((refine J.inBlock ?_))
   exact (ih ⟨k + Nat.min k (n - k),by omega,by omega⟩ (by simp only;omega)).aW ⟨rfl,rfl,trivial⟩
 ·have t4:decide ((k:Int) < (n:Int))=false:=decide_eq_false (by omega);have ek:k=n:=by omega
  subst ek;have e2:List.replicate k (-1:Int) ++ List.replicate (k - k) 0=List.replicate k (-1):=by simp
  rw [e2]
  repeat (refine gn ?_)
  (exact J.bN Tryz.func198 rfl (.cons (.tmp rfl) .nil) _ (by exact .refl) rfl)
end Fl
end Go.Proofs.YtdjhhbpedllnhaaGreat
