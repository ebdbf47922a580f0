/-
  What the laws need, part H1.
  Conditions: none.
-/
import Derived.Test.YtofnbflkhgammaaGreatA23
set_option linter.unusedVariables false
set_option linter.unusedSimpArgs false
set_option linter.unnecessarySimpa false
set_option maxHeartbeats 2000000
namespace Go.Proofs.YtofnbflkhgammaaGreat
open Go.RowKit
namespace Fl
theorem Ns (off:Nat):∀ (l:List Value) (k:Nat) (z:Array Value),off + (k + l.length)≤z.size →
  (l.zipIdx k).foldl (fun cs x=>cs.setIfInBounds (off + x.2) x.1) z=(z.toList.take (off + k) ++ l ++ z.toList.drop (off + (k + l.length))).toArray
 | [],k,z,hz=>by simp
 | x :: l,k,z,hz=>by
  simp only [List.length_cons] at hz;rw [List.zipIdx_cons,List.foldl_cons,Ns off l (k + 1) _ (by simp;omega)];apply congrArg;simp only [Array.toList_setIfInBounds,List.length_cons];rw [← Nat.add_assoc,List.take_add_one,List.take_set,List.getElem?_set_self (by simp;omega)];rw [List.set_eq_of_length_le (by simp;omega),List.drop_set,if_pos (by omega)];simp only [Option.toList_some,List.append_assoc,List.singleton_append,List.cons_append,List.nil_append];rw [show k + (l.length + 1)=k + 1 + l.length by omega]
theorem Nt (sz:Nat):∀ (vs:List Value) (k:Nat) (z:Array Value),(∀ v∈vs,v.cells.size=sz)→(k + vs.length) * sz≤z.size →
  Instr.fill (fun j=>some (j * sz,sz)) z ((List.range' k vs.length).zip vs)=some (z.toList.take (k * sz) ++ vs.flatMap (·.cells.toList) ++ z.toList.drop ((k + vs.length) * sz)).toArray
 | [],k,z,h,hz=>by simp [Instr.fill]
 | v :: vs,k,z,h,hz=>by
  have hv:=h v (by simp);have e0:(k + (vs.length + 1)) * sz=k * sz + sz + vs.length * sz:=by simp [Nat.add_mul];omega
  simp only [List.length_cons] at hz;rw [e0] at hz;have P:=Ns (k * sz) v.cells.toList 0 z (by simp [hv];omega);simp only [Nat.zero_add,Nat.add_zero,Array.length_toList,hv] at P;have P':(v.cells.zipIdx.foldl (fun cs x=>cs.setIfInBounds (k * sz + x.2) x.1) z)=(z.toList.take (k * sz) ++ v.cells.toList ++ z.toList.drop (k * sz + sz)).toArray:=by
   rw [← Array.foldl_toList,Array.toList_zipIdx];exact P
  have ih:=Nt sz vs (k + 1) (z.toList.take (k * sz) ++ v.cells.toList ++ z.toList.drop (k * sz + sz)).toArray (fun u hu=>h u (by simp [hu])) (by simp [Nat.add_mul,hv];omega);simp only [List.length_cons,List.range'_succ,List.zip_cons_cons,Instr.fill];rw [if_neg (by simp [hv];omega)];refine Eq.trans (congrArg (fun z=>Instr.fill _ z _) P') (ih.trans ?_);have l1:(z.toList.take (k * sz) ++ v.cells.toList).length=(k + 1) * sz:=by simp [Nat.add_mul,hv];omega
  congr 2
  simp only [List.toList_toArray];rw [← l1,List.take_left' rfl,List.flatMap_cons];have e3:(k + 1 + vs.length) * sz=(z.toList.take (k * sz) ++ v.cells.toList).length + vs.length * sz:=by rw [l1];simp [Nat.add_mul]
  rw [e3,List.drop_append,List.drop_drop,e0];simp [List.append_assoc]
def qp (f:Fm):List (Nat × Operand)→Option (List (List A))
 | []=>some []
 | (_,x) :: l=>(aN f x).bind fun d=>(gD d).bind fun cs=>(qp f l).bind fun r=>some (cs :: r)
inductive mZ:List (List A)→List (List A)→Prop
 | nil:mZ [] []
 | cons {a b xs ys}:iD a b→mZ xs ys→mZ (a :: xs) (b :: ys)
 | refl {xs}:mZ xs xs
theorem mZ.rep {ok:Nat→Prop} {w:World} {sz:Nat} {a b:List (List A)} (h:mZ a b):∀ {x:List Value},RX ok w sz a x→RX ok w sz b x:=by
 induction h with
 | nil=>exact fun h=>h
 | refl=>exact fun h=>h
 | cons h1 _ ih =>
  intro x r;unfold RX at r ⊢;obtain ⟨vs,ys,a1,a2,a3,a4⟩:=r;exact ⟨vs,ys,a1,a2,h1.FJ a3,ih a4⟩
theorem mZ.len {a b:List (List A)} (h:mZ a b):a.length=b.length:=by
 induction h with
 | nil=>rfl
 | refl=>rfl
 | cons _ _ ih=>simp [ih]
def zF:A→A→A
 | .v (.slice none 0 0),.r sz []=>.r sz []
 | a,_=>a
def pq:List A→List A→List A
 | a :: l,b :: m=>zF a b :: pq l m
 | l,_=>l
def rR:List (List A)→List (List A)→List (List A)
 | a :: l,b :: m=>pq a b :: rR l m
 | l,_=>l
theorem zF.le (a b:A):kX a (zF a b):=by
 unfold zF
 split
 ·exact .nil
 ·exact .refl
theorem pq.le:∀ a b:List A,iD a (pq a b)
 | [],b=>by unfold pq;exact .refl
 | a :: l,[]=>by unfold pq;exact .refl
 | a :: l,b :: m=>by unfold pq;exact .cons (zF.le a b) (pq.le l m)
theorem rR.le:∀ a b:List (List A),mZ a (rR a b)
 | [],b=>by unfold rR;exact .refl
 | a :: l,[]=>by unfold rR;exact .refl
 | a :: l,b :: m=>by unfold rR;exact .cons (pq.le a b) (rR.le l m)
theorem iD.of {a b:List A} (h:pq a b=b):iD a b:=h ▸ pq.le a b
theorem mZ.of {a b:List (List A)} (h:rR a b=b):mZ a b:=h ▸ rR.le a b
section
variable {P:Program} {c:Cx} {f:Fm} {L:List ai} {X T:TypeId} {t:Nat} {ps:String} {af:Array Edge} {gd:Option (Nat × Bool)}
theorem qp.rep {sz:Nat} {a:Act} {w:World} (s:St c f L a w):∀ {l:List (Nat × Operand)} {ll:List (List A)},qp f l=some ll→(ll.all (·.length == sz))=true →
  RX (bh c L) w sz ll ((l.map fun x=>a.eval x.2).flatMap (·.cells.toList))∧(∀ v∈l.map (fun x=>a.eval x.2),v.cells.size=sz)∧l.length=ll.length
 | [],ll,h,_=>by
  simp only [qp,Option.some.injEq] at h;subst h;exact ⟨rfl,by simp,rfl⟩
 | (j,x) :: l,ll,h,hs=>by
  simp only [qp] at h
  cases e1:aN f x with
  | none=>rw [e1] at h;cases h
  | some d =>
  cases e2:gD d with
  | none=>rw [e1] at h;simp [e2] at h
  | some cs =>
  cases e3:qp f l with
  | none=>rw [e1] at h;simp [e2,e3] at h
  | some r =>
  rw [e1] at h;simp only [e2,e3,Option.bind_some,Option.some.injEq] at h;subst h;simp only [List.all_cons,Bool.and_eq_true,beq_iff_eq] at hs;obtain ⟨r1,r2,r3⟩:=qp.rep s e3 hs.2;have ry:=gD.rep e2 (s.ev e1);have hz:(a.eval x).cells.size=sz:=by have:=ry.len;simp at this;omega
  refine ⟨?_,?_,by simp [r3]⟩
  ·unfold RX;exact ⟨_,_,rfl,by simpa using hz,ry,r1⟩
  ·intro v hv;simp only [List.map_cons,List.mem_cons] at hv;rcases hv with rfl | hv
   ·exact hz
   ·exact r2 v hv
theorem Ld.Y5 {e sz n:Nat} {eP:Array (Nat × Operand)} {ll mm:List (List A)} {zs:List Value} [i:eY P X e sz] [z:aQ P e zs] (ht:t < c.N) (h:qp f eP.toList=some ll) (hi:eP.toList.map (·.1)=List.range' 0 n) (hn:ll.all (·.length == sz)=true) (hm:Nat.ble n 1000=true) (h0:Nat.ble 1 sz=true) (hs:Nat.ble sz 1000=true) (hle:mZ ll mm) :
  Ld P c ⟨some t,.buildSlice X n eP,T,ps,af,gd⟩ f L [] (fun b:Nat=>(t,.c (.v (.slice (some ⟨b,0,none⟩) n n))) :: f) (fun b=>.row (.slice (some ⟨b,0,none⟩) n n) e sz mm :: L):=⟨fun a w s K Q hK=>by
 have OG:1≤sz:=Nat.le_of_ble_eq_true h0;have G7:sz≤1000:=Nat.le_of_ble_eq_true hs;have l9:n≤1000:=Nat.le_of_ble_eq_true hm;obtain ⟨rx,rv,rl⟩:=qp.rep s h hn;have jf:eP.toList.length=n:=by have:=congrArg List.length hi;simpa using this
 have Gv:eP.toList.map (fun x=>(x.1,a.eval x.2))=(List.range' 0 (eP.toList.map fun x=>a.eval x.2).length).zip (eP.toList.map fun x=>a.eval x.2):=by
  rw [List.length_map,jf,← hi,List.zip_map']
 obtain ⟨zv,Ad,xj⟩:=pH.run z.h;generalize Nu:eP.toList.map (fun x=>a.eval x.2)=vs at rx rv Gv;have m8:vs.length=n:=by rw [← Nu];simpa using jf
 generalize ji:vs.flatMap (·.cells.toList)=cs at rx;have bQ:cs.length=n * sz:=by
  rw [← ji,← m8];clear ji Nu rx Gv m8
  induction vs with
  | nil=>simp
  | cons v vs ih =>
   rw [List.flatMap_cons,List.length_append,ih (fun u hu=>rv u (by simp [hu]))];have:=rv v (by simp);simp [Nat.add_mul,this];omega
 have hk:aj [] w (w.alloc (.cells cs.toArray e)):=(aj.refl [] w).alloc _;have Dc:Instr.fill (fun j=>some (j * sz,sz)) ((Array.range (n * sz)).map (zv.cells[· % zv.cells.size]!)) (eP.toList.map (fun x=>(x.1,a.eval x.2)))=some cs.toArray:=by
  rw [Gv];have e1:=Nt sz vs 0 ((Array.range (n * sz)).map (zv.cells[· % zv.cells.size]!)) rv (by simp [m8]);rw [e1];simp only [Nat.zero_mul,List.take_zero,List.nil_append,Nat.zero_add,m8,ji];rw [List.drop_eq_nil_of_le (by simp)];simp
 have fI:(execOp a.eval ⟨some t,.buildSlice X n eP,T,ps,af,gd⟩).run P w=.ok (.value (.slice (some ⟨w.heap.size,0,none⟩) n n)) (w.alloc (.cells cs.toArray e)):=by
  have h1:¬ n * sz > 2 ^ 24:=by have:=Nat.mul_le_mul l9 G7;omega
  have Y6:Instr.fill (fun j=>some (j * sz,sz)) ((Array.range (n * sz)).map (zv.cells[· % zv.cells.size]!)) ((eP.map (fun x=>(x.1,a.eval x.2))).toList)=some cs.toArray:=by simpa using Dc
  by_cases h2:n * sz=0
  ·have Jo:n=0:=by rcases Nat.mul_eq_zero.1 h2 with h | h <;> omega
   subst Jo;have ha:eP=#[]:=by apply Array.eq_empty_of_size_eq_zero;simpa using jf
   subst ha;have Y7:cs=[]:=by apply List.eq_nil_of_length_eq_zero;omega
   subst Y7;simp [execOp,Instr.buildSlice,Sem.run_bind,run_underlying (kU.jW i.h),iO.run i.s,Instr.fill,newRow,Array.range_zero',run_newObj_alloc]
  ·simp only [execOp,Instr.buildSlice,Sem.run_bind,run_underlying (kU.jW i.h),iO.run i.s,Result.andThen_ok,h1,h2,↓reduceIte,xj,Sem.run_pure,Y6,newRow,run_newObj_alloc]
 unfold Oper.wp;rw [fI];have hf:∀ y∈(ai.row (.slice (some ⟨w.heap.size,0,none⟩) n n) e sz mm).bM,w.heap.size≤y:=by simp [ai.bM,cW]
 refine hK w.heap.size _ _ hk (s.new ht hk hf ⟨cs,?_,?_⟩ (by unfold RD RA;exact ⟨rfl,rfl⟩)) (tJ hf)
 ·have:=Row.lit w cs e sz n bQ (by simp [maxLen];omega);have l3:mm.length=n:=by rw [← hle.len,← rl,jf]
  rw [l3];simpa [cW] using this
 ·exact hle.rep (RX.cK (Mon.kT hk fun g hg ho=>⟨Ab hf g hg ho,by simp⟩) ll _ rx)⟩
theorem Ld.tC {e sz n:Nat} {eP:Array (Nat × Operand)} {ll mm:List (List A)} {zs:List Value} [i:eY P X e sz] [z:aQ P e zs] (ht:t < c.N) (h:qp f eP.toList=some ll) (hi:eP.toList.map (·.1)=List.range' 0 n) (hn:ll.all (·.length == sz)=true) (hm:Nat.ble n 1000=true) (h0:Nat.ble 1 sz=true) (hs:Nat.ble sz 1000=true) (hle:mZ ll mm) :
  Ld P c ⟨some t,.buildSlice X n eP,T,ps,af,gd⟩ f L [] (fun _:Unit=>(t,.c (.r sz mm)) :: f) (fun _=>L):=⟨fun a w s K Q hK =>
 (Ld.Y5 (P:=P) (c:=c) (T:=T) (ps:=ps) (af:=af) (gd:=gd) (f:=f) (L:=L) (e:=e) (sz:=sz) (zs:=zs) (X:=X) (t:=t) ht h hi hn hm h0 hs hle).go a w s K Q fun b u w' k' s' hf=>hK () u w' k' s'.freeze fun y hy=>hf y ((jY _ _ _).2 (.inr hy))⟩
end
end Fl
namespace Po
theorem mU {f:Int} {H:List Bool} {x:Int}:live f H x=true↔0≤x∧x < f∧H.getD x.toNat false=false:=by
 simp [live,and_assoc]
theorem Nv (f:Int):∀ (L:List Int) (H:List Bool),f≤H.length→((settle f H L).2=true↔(∀ x∈L,0≤x∧x < f)∧L.Nodup∧∀ x∈L,H.getD x.toNat false=false)
 | [],H,_=>by simp [settle]
 | x :: r,H,hf=>by
  rw [vW]
  by_cases h:live f H x=true
  ·rw [if_pos h,Nv f r _ (by simpa using hf)];obtain ⟨h1,h2,h3⟩:=mU.1 h;have hx:x.toNat < H.length:=by omega
   constructor
   ·rintro ⟨a,b,c⟩
    refine ⟨fun y hy=>?_,List.nodup_cons.2 ⟨fun hm=>?_,b⟩,fun y hy=>?_⟩
    ·rcases List.mem_cons.1 hy with rfl | hy
     ·exact ⟨h1,h2⟩
     ·exact a y hy
    ·have:=c x hm;rw [lQ _ _ _ _ _ hx,if_pos rfl] at this
     cases this
    ·rcases List.mem_cons.1 hy with rfl | hy
     ·exact h3
     ·have:=c y hy;rw [lQ _ _ _ _ _ hx] at this
      by_cases e:x.toNat=y.toNat
      ·rw [if_pos e] at this;cases this
      ·rwa [if_neg e] at this
   ·rintro ⟨a,b,c⟩
    obtain ⟨b1,b2⟩:=List.nodup_cons.1 b;refine ⟨fun y hy=>a y (by simp [hy]),b2,fun y hy=>?_⟩;have lI:x≠y:=fun e=>b1 (e ▸ hy)
    have Rp:=(a y (by simp [hy])).1;rw [lQ _ _ _ _ _ hx,ax];exact c y (by simp [hy])
  ·rw [if_neg h];simp only [Bool.false_eq_true,false_iff]
   rintro ⟨a,b,c⟩
   exact h (mU.2 ⟨(a x (by simp)).1,(a x (by simp)).2,c x (by simp)⟩)
end Po
end Go.Proofs.YtofnbflkhgammaaGreat
