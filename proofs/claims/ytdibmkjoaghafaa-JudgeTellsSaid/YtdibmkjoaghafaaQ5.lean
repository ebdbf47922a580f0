/-
  What the laws need, part Q5.
  Conditions: none.
-/
import Derived.Test.YtdibmkjoaghafaaQ4
import Derived.Laws.CopyRow
import Derived.Laws.OwnMore
import Derived.OwnWalk
set_option linter.unusedVariables false
set_option linter.unusedSimpArgs false
set_option linter.unnecessarySimpa false
set_option maxHeartbeats 2000000
namespace Go.Proofs.Ytdibmkjoaghafaa
open Go.RowKit
namespace Fl
def tyPlaces (P:Program) (T:TypeId):Option (List (Nat × Nat)):=match P.underlying T with
 | some (.struct fs)=>fs.toList.mapM fun f=>(P.info? f.type).map fun i=>(f.offset,i.size)
 | _=>none
class TyP (P:Program) (T:TypeId) (pl:outParam (List (Nat × Nat))):Prop where h:tyPlaces P T=some pl:=by kernel_rfl
def fillA (pl:List (Nat × Nat)):List A→List (Nat × List A)→Option (List A)
 | cs,[]=>some cs
 | cs,(i,es) :: r=>match pl[i]? with
  | none=>none
  | some (off,size)=>cond (Nat.beq es.length size && Nat.ble (off + es.length) cs.length) (fillA pl (putC cs off es) r) none
def fillB:List (Nat × Nat)→Nat→List (Nat × List A)→List A→List A
 | [],_,_,_=>[]
 | (_,n) :: pl,k,[],zs=>zs.take n ++ fillB pl (k + 1) [] (zs.drop n)
 | (_,n) :: pl,k,(i,es) :: r,zs=>cond (Nat.beq i k) (es ++ fillB pl (k + 1) r (zs.drop n)) (zs.take n ++ fillB pl (k + 1) ((i,es) :: r) (zs.drop n))
theorem foldl_put (l:List Value):∀ (k:Nat) (z:Array Value),k + l.length≤z.size→∀ off,off≤k→(l.zipIdx (k - off)).foldl (fun cs x=>cs.setIfInBounds (off + x.2) x.1) z=(z.toList.take k ++ l ++ z.toList.drop (k + l.length)).toArray:=by
 induction l with
 | nil=>intro k z hz off ho;simp
 | cons x l ih =>
  intro k z hz off ho;simp only [List.length_cons] at hz;rw [List.zipIdx_cons,List.foldl_cons];have:=ih (k + 1) (z.setIfInBounds (off + (k - off)) x) (by simp;omega) off (by omega);rw [show k + 1 - off=k - off + 1 by omega] at this;rw [this];simp only [show off + (k - off)=k by omega];apply congrArg;simp only [Array.toList_setIfInBounds,List.length_cons];rw [List.take_add_one,List.take_set,List.getElem?_set_self (by simp;omega)];rw [List.set_eq_of_length_le (by simp;omega),List.drop_set,if_pos (by omega)];simp only [Option.toList_some,List.append_assoc,List.singleton_append,List.cons_append,List.nil_append];rw [show k + (l.length + 1)=k + 1 + l.length by omega]
theorem fillA.run {ok:Nat→Prop} {w:World} {pl:List (Nat × Nat)}:∀ (ps:List (Nat × List A)) (xs:List (Nat × Value)) (cs cs':List A) (us:Array Value),fillA pl cs ps=some cs'→RC ok w cs us.toList→xs.map (·.1)=ps.map (·.1)→(∀ (j:Nat) (p:Nat × List A) (x:Nat × Value),ps[j]?=some p→xs[j]?=some x→RC ok w p.2 x.2.cells.toList) →
  ∃ us',Instr.fill (pl.toArray[·]?) us xs=some us'∧RC ok w cs' us'.toList
 | [],xs,cs,cs',us,h,hr,hm,hx=>by
  have:xs=[]:=by simpa using hm
  subst this;simp [fillA] at h;subst h;exact ⟨us,rfl,hr⟩
 | (i,es) :: ps,[],cs,cs',us,h,hr,hm,hx=>by simp at hm
 | (i,es) :: ps,(i',x) :: xs,cs,cs',us,h,hr,hm,hx=>by
  simp only [List.map_cons,List.cons.injEq] at hm;obtain ⟨rfl,hm⟩:=hm;have hxc:=hx 0 _ _ rfl rfl;simp only at hxc;unfold fillA at h
  cases hp:pl[i']? with
  | none=>rw [hp] at h;cases h
  | some q =>
   obtain ⟨off,size⟩:=q;rw [hp] at h;simp only at h
   cases hc:(Nat.beq es.length size && Nat.ble (off + es.length) cs.length) with
   | false=>rw [hc] at h;cases h
   | true =>
    rw [hc] at h;simp only [Bool.and_eq_true] at hc;have h1:=Nat.eq_of_beq_eq_true hc.1;have h2:=Nat.le_of_ble_eq_true hc.2;have hl1:=hxc.len;have hl2:=hr.len;simp only [Array.length_toList] at hl1 hl2;have hf:=foldl_put x.cells.toList off us (by simp;omega) off (Nat.le_refl _);rw [Nat.sub_self] at hf;have hr2:RC ok w (putC cs off es) (us.toList.take off ++ x.cells.toList ++ us.toList.drop (off + x.cells.toList.length)):=by
     unfold putC;have:es.length=x.cells.toList.length:=by simp;omega
     rw [this];exact RC.app (RC.app (hr.take off) hxc) (hr.drop _)
    obtain ⟨us',g1,g2⟩:=fillA.run ps xs _ cs' ((us.toList.take off ++ x.cells.toList ++ us.toList.drop (off + x.cells.toList.length)).toArray) h (by simpa using hr2) hm (fun j p x hp hx'=>hx (j + 1) p x (by simpa using hp) (by simpa using hx'));refine ⟨us',?_,g2⟩;have hp':pl.toArray[i']?=some (off,size):=by simpa using hp
    unfold Instr.fill;rw [hp'];simp only;rw [if_neg (by simp;omega)];rw [← g1]
    congr 1
    rw [← Array.foldl_toList,Array.toList_zipIdx];exact hf
section
variable {P:Program}
theorem tyPlaces.run {T:Nat} {pl:List (Nat × Nat)} (h:tyPlaces P T=some pl):∃ fs,P.underlying T=some (.struct fs)∧∀ w,(fs.mapM fun f=>do pure (f.offset,← sizeOf f.type):Sem (Array (Nat × Nat))).run P w=.ok pl.toArray w:=by
 unfold tyPlaces at h
 cases hu:P.underlying T with
 | none=>rw [hu] at h;cases h
 | some d =>
  rw [hu] at h
  cases d with
  | struct fs =>
   simp only at h;refine ⟨fs,rfl,fun w=>?_⟩;have key:∀ (l:List Field) (pl:List (Nat × Nat)),(l.mapM fun f=>(P.info? f.type).map fun i=>(f.offset,i.size))=some pl→(l.mapM fun f=>do pure (f.offset,← sizeOf f.type):Sem (List (Nat × Nat))).run P w=.ok pl w:=by
    intro l
    induction l with
    | nil=>intro pl h;simp at h;subst h;simp
    | cons f l ih =>
     intro pl h;rw [List.mapM_cons] at h
     cases hi:P.info? f.type with
     | none=>rw [hi] at h;cases h
     | some i =>
      rw [hi] at h;simp only [Option.map_some,Option.bind_eq_bind,Option.bind_some] at h
      cases hm:(l.mapM fun f=>(P.info? f.type).map fun i=>(f.offset,i.size)) with
      | none=>rw [hm] at h;cases h
      | some q =>
       rw [hm] at h;simp at h;subst h;have h5:=ih q hm;have h6:(sizeOf f.type).run P w=.ok i.size w:=by simp [sizeOf,typeInfo,Sem.run_bind,hi]
       rw [List.mapM_cons,Sem.run_bind,Sem.run_bind,h6];simp only [Result.andThen_ok,Sem.run_pure,Sem.run_bind,h5]
   have h2:=key fs.toList pl h;have e:(fs.mapM fun f=>do pure (f.offset,← sizeOf f.type):Sem (Array (Nat × Nat)))=(do let l ← (fs.toList.mapM fun f=>do pure (f.offset,← sizeOf f.type));pure l.toArray):=by
    rw [Array.mapM_eq_mapM_toList,map_eq_pure_bind]
   rw [e,Sem.run_bind,h2];rfl
  | _=>cases h
end
def fieldV (P:Program) (X k:Nat):Bool:=match P.underlying X with
  | some (.struct fs)=>match fs[k]? with
   | some fd=>tyAgg P fd.type == some false
   | none=>false
  | _=>false
theorem mapM_get {α β:Type} {g:α→Option β}:∀ {l:List α} {q:List β},l.mapM g=some q→∀ {k:Nat} {a:α},l[k]?=some a→∃ b,q[k]?=some b∧g a=some b
  | [],q,h,k,a,e=>by simp at e
  | x :: l,q,h,k,a,e=>by
   rw [List.mapM_cons] at h
   cases hx:g x with
   | none=>rw [hx] at h;cases h
   | some b =>
    rw [hx] at h;simp only [Option.bind_eq_bind,Option.bind_some] at h
    cases hl:l.mapM g with
    | none=>rw [hl] at h;cases h
    | some r =>
     rw [hl] at h;simp at h;subst h
     cases k with
     | zero=>simp at e;subst e;exact ⟨b,rfl,hx⟩
     | succ k=>simp at e;simpa using mapM_get hl e
def evP (f:Fm):List (Nat × Operand)→Option (List (Nat × List A))
 | []=>some []
 | (i,x) :: r=>match evD f x with
  | none=>none
  | some d=>match cellsD d,evP f r with
   | some cs,some l=>some ((i,cs) :: l)
   | _,_=>none
section
variable {P:Program} {c:Cx} {f:Fm} {L:List Res} {t:Option Tmp} {T:TypeId} {ps:String} {af:Array Edge} {gd:Option (Nat × Bool)}
theorem evP.rep {a:Act} {w:World} (s:St c f L a w):∀ {parts:List (Nat × Operand)} {l:List (Nat × List A)},evP f parts=some l→(parts.map fun p=>(p.1,a.eval p.2)).map (·.1)=l.map (·.1)∧∀ (j:Nat) (p:Nat × List A) (x:Nat × Value),l[j]?=some p→(parts.map fun p=>(p.1,a.eval p.2))[j]?=some x→RC (okk c L) w p.2 x.2.cells.toList
 | [],l,h=>by simp [evP] at h;subst h;simp
 | (i,x) :: r,l,h=>by
  unfold evP at h
  cases h1:evD f x with
  | none=>rw [h1] at h;cases h
  | some d =>
   rw [h1] at h;simp only at h
   cases h2:cellsD d with
   | none=>rw [h2] at h;cases h
   | some cs =>
    cases h3:evP f r with
    | none=>rw [h2,h3] at h;cases h
    | some l' =>
     rw [h2,h3] at h
     cases h;obtain ⟨g1,g2⟩:=evP.rep s h3;refine ⟨by simpa using g1,fun j p x hp hx=>?_⟩
     cases j with
     | zero=>simp at hp hx;subst hp;subst hx;exact cellsD.rep h2 (s.ev h1)
     | succ j=>exact g2 j p x (by simpa using hp) (by simpa using hx)
theorem Qt.build {X:Nat} {parts:List (Nat × Operand)} {pl:List (Nat × Nat)} {zs:List Value} {l:List (Nat × List A)} [z:TyZ' P X zs] [i:TyP P X pl] (h:evP f parts=some l) (hf:fillA pl (vs zs) l=some (fillB pl 0 l (vs zs))):Qt P c [] ⟨t,.build X parts.toArray,T,ps,af,gd⟩ f L (.agg (fillB pl 0 l (vs zs))):=⟨fun a w s=>by
 obtain ⟨g1,g2⟩:=evP.rep s h;obtain ⟨zv,hz1,hz2⟩:=tyZero.run z.h;obtain ⟨fs,u1,u2⟩:=tyPlaces.run i.h;obtain ⟨us,r1,r2⟩:=fillA.run (ok:=okk c L) (w:=w) l (parts.map fun p=>(p.1,a.eval p.2)) (vs zs) _ zv.cells hf (by rw [hz1];exact RC.vs z.o) g1 g2;refine ⟨.agg us,by unfold RD;exact ⟨us.toList,by simp,r2⟩,fun w' k=>?_⟩;have e:(parts.toArray.map fun (i,x)=>(i,a.eval x)).toList=parts.map fun p=>(p.1,a.eval p.2):=by simp
 simp only [execOp,Instr.build,Sem.run_bind,hz2,Result.andThen_ok,run_underlying u1,u2,e,r1,Sem.run_pure]⟩
theorem Qt.field {x:Operand} {X k off:Nat} {cs:List A} {e:A} {pl:List (Nat × Nat)} [i:TyP P X pl] (h:evD f x=some (.agg cs)) (hp:pl[k]?=some (off,1)) (hv:fieldV P X k=true) (he:cs[off]?=some e):Qt P c [] ⟨t,.field X x k,T,ps,af,gd⟩ f L (.c e):=⟨fun a w s=>by
 have r:=s.ev h;unfold RD at r;obtain ⟨vs,hx,hr⟩:=r;obtain ⟨y,hy,hre⟩:=hr.get off he;refine ⟨y,by unfold RD;exact hre,fun w' k'=>?_⟩;unfold fieldV at hv;have hi:=i.h;unfold tyPlaces at hi
 cases hu:P.underlying X with
 | none=>rw [hu] at hi;cases hi
 | some d =>
  rw [hu] at hi hv
  cases d with
  | struct fs =>
   simp only at hi hv
   cases hf:fs[k]? with
   | none=>rw [hf] at hv;cases hv
   | some fd =>
    rw [hf] at hv;simp only [beq_iff_eq] at hv;have hoff:fd.offset=off:=by
     have h3:=mapM_get hi (k:=k) (a:=fd) (by simpa using hf);obtain ⟨q,hq1,hq2⟩:=h3;rw [hp] at hq1;cases hq1
     cases hinf:P.info? fd.type with
     | none=>rw [hinf] at hq2;cases hq2
     | some ii=>rw [hinf] at hq2;simp at hq2;exact hq2.1
    simp [execOp,Instr.field,Sem.run_bind,run_underlying hu,hf,hx,asAgg,part,tyAgg.runF hv,hoff,hy]
  | _=>cases hv⟩
def bnd (f:Fm) (x:Option Operand) (n:Int):Option Int:=match x with
 | none=>some n
 | some y=>match evD f y with
  | some (.c (.v (.int _ m)))=>some m
  | _=>none
theorem bnd.run {a:Act} {w:World} (s:St c f L a w) {x:Option Operand} {n m:Int} (h:bnd f x n=some m):(x=none∧m=n)∨∃ y k,x=some y∧a.eval y=.int k m:=by
 unfold bnd at h
 cases x with
 | none=>simp at h;exact .inl ⟨rfl,h.symm⟩
 | some y =>
  simp only at h
  split at h
  ·rename_i k q e
   cases h;exact .inr ⟨y,k,rfl,s.val e⟩
  ·cases h
theorem Qt.sliceR {x:Operand} {lo hi:Option Operand} {X e sz:Nat} {l:List (List A)} {m n:Int} [i:TyS P X e sz] (h:evD f x=some (.c (.r sz l))) (hlo:bnd f lo 0=some m) (hhi:bnd f hi l.length=some n) (h1:0≤m) (h2:m≤n) (h3:n≤l.length):Qt P c [] ⟨t,.slice X x lo hi none,T,ps,af,gd⟩ f L (.c (.r sz ((l.take n.toNat).drop m.toNat))):=⟨fun a w s=>by
 have r:=s.ev h;unfold RD RA at r;obtain ⟨ao,cap,hx,g1,g2,g3⟩:=r;have hn:n.toNat≤l.length:=by omega
 refine ⟨.slice (if cap=m.toNat then ao else ao.map (·.add (m.toNat * sz))) (n.toNat - m.toNat) (cap - m.toNat),?_,fun w' k=>?_⟩
 ·unfold RD RA;refine ⟨if cap=m.toNat then ao else ao.map (·.add (m.toNat * sz)),cap - m.toNat,by simp [hn],by simp;omega,by omega,?_⟩
  by_cases hz:((l.take n.toNat).drop m.toNat)=[]
  ·exact .inl hz
  ·have hne:l≠[]:=fun e=>hz (by simp [e])
   rcases g3 with g3 | ⟨g,off,rfl,g5,g6,g7⟩
   ·exact absurd g3 hne
   ·have hlt:m.toNat < cap:=by
     rcases Nat.lt_or_ge m.toNat cap with h | h
     ·exact h
     ·exact absurd (List.eq_nil_of_length_eq_zero (by simp;omega)) hz
    refine .inr ⟨g,off + m.toNat * sz,by rw [if_neg (by omega)];simp [Addr.add_mid],g5,g6,?_⟩;exact (g7.take n.toNat).drop m.toNat
 ·have hlow:∀ w,(match lo.map a.eval with | some v=>Instr.sliceBound v n.toNat .sliceB | none=>pure 0:Sem Nat).run P w=.ok m.toNat w:=fun w=>by
   rcases bnd.run s hlo with ⟨rfl,rfl⟩ | ⟨y,kd,rfl,hy⟩
   ·simp
   ·simp only [Option.map_some,hy,Instr.sliceBound,asIntOf,Sem.run_bind,Sem.run_pure,Result.andThen_ok];rw [if_pos ⟨h1,by omega⟩];rfl
  have hhigh:∀ w,(match hi.map a.eval,(none:Option Value) with | some v,some _=>Instr.sliceBound v cap .slice3B | some v,none=>Instr.sliceBound v cap (if true then .sliceAcap else .sliceAlen) | none,none=>pure l.length | none,some _=>stuck "Slice: max without high":Sem Nat).run P w=.ok n.toNat w:=fun w=>by
   rcases bnd.run s hhi with ⟨rfl,rfl⟩ | ⟨y,kd,rfl,hy⟩
   ·simp
   ·simp only [Option.map_some,hy,Instr.sliceBound,asIntOf,Sem.run_bind,Sem.run_pure,Result.andThen_ok];rw [if_pos ⟨by omega,by omega⟩];rfl
  have hsb:∀ w,(Instr.sliceBounds true l.length cap (lo.map a.eval) (hi.map a.eval) none).run P w=.ok (m.toNat,n.toNat,cap) w:=fun w=>by
   unfold Instr.sliceBounds;simp only [Sem.run_bind,Sem.run_pure,Result.andThen_ok,Option.isSome_none,Bool.false_eq_true,↓reduceIte];have a1:=hhigh w;have a2:=hlow w
   cases hhi':hi.map a.eval <;> cases hlo':lo.map a.eval <;> rw [hhi'] at a1 <;> rw [hlo'] at a2 <;> simp only [↓reduceIte,Sem.run_pure,Result.ok.injEq,and_true] at a1 a2 <;> simp [Sem.run_bind,a1,a2]
  simp only [execOp,Option.map_none,Instr.sliceAt,Instr.slice,hx,Sem.run_bind,run_underlying (tyElem.und i.h),Result.andThen_ok,hsb,tySize.run i.s,Sem.run_pure]⟩
theorem Qt.eq {U:List Nat} {o:Oper} {d d':D} (q:Qt P c U o f L d) (h:d=d'):Qt P c U o f L d':=h ▸ q
theorem w64 {n:Int} (h1:-9223372036854775808≤n) (h2:n≤9223372036854775807):IntKind.i64.wrap n=n:=IntWalk.i64_in n ⟨h1,h2⟩
end
section
variable {P:Program} {c:Cx} {k:List Item} {f:Fm} {L L2:List Res} {o:Oper}
theorem foots_perm (hp:L2.Perm L) (x:Nat):x∈foots L2↔x∈foots L:=by
 rw [mem_foots,mem_foots];exact ⟨fun ⟨q,hq,hx⟩=>⟨q,hp.mem_iff.1 hq,hx⟩,fun ⟨q,hq,hx⟩=>⟨q,hp.mem_iff.2 hq,hx⟩⟩
theorem St.perm (hp:L2.Perm L) {a:Act} {w:World} (s:St c f L a w):St c f L2 a w:=by
 have ho:okk c L2=okk c L:=by
  funext x;unfold okk;rw [foots_perm hp]
 exact ⟨s.kp,s.size,s.dfr,fun q hq=>by rw [ho];exact s.res q (hp.mem_iff.1 hq),fun x hx=>s.frm x ((foots_perm hp x).1 hx),(hp.pairwise_iff (fun {x y} hxy z hz hz'=>hxy z hz' hz)).2 s.ap,fun u d hu=>by rw [ho];exact s.fr u d hu⟩
theorem Ld.perm (hp:L2.Perm L) {S:List Nat} {ι:Type} {f':ι→Fm} {L':ι→List Res} (h:Ld P c o f L2 S f' L'):Ld P c o f L S f' L':=⟨fun a w s K Q hK =>
 h.go a w (s.perm hp) K Q fun x v w' kp sx hf=>hK x v w' kp sx fun y hy=>by
  rcases hf y hy with h | h
  ·exact .inl ((foots_perm hp y).1 h)
  ·exact .inr h⟩
theorem erase_perm {r:Res} {i:Nat} {L':List Res} (h:L[i]?=some r) (e:L.eraseIdx i=L'):(r :: L').Perm L:=e ▸ pull_perm L i h
variable {T X:TypeId} {ps:String} {af:Array Edge} {gd:Option (Nat × Bool)} {t:Nat} {e sz bytes i:Nat} {z:Value} {x y:Operand} {v:Value} {l1 l2:List (List A)} {L':List Res} {d2:D}
theorem Srce.ownC {j e':Nat} {u:Value} {m:List (List A)} [bx:RowAt L' u e' sz m j]:Srce L' sz (.c (.v u)) m:=.own j bx.h
theorem Ld.appOw [E:TyE P X e sz bytes z] [bx:RowAt L v e sz l1 i] [er:EraseAt L i L'] (ht:t < c.N) (h1:evD f x=some (.c (.v v))) (h2:evD f y=some d2) (hs:Srce L' sz d2 l2) (hb:(l1.length + l2.length) * bytes≤140737488355328) :
  Ld P c ⟨some t,.call ⟨.builtin .append,#[x,y],#[X,X]⟩,T,ps,af,gd⟩ f L (vfoot v) (fun v':Value=>(t,.c (.v v')) :: f) (fun v'=>.row v' e sz (l1 ++ l2) :: L') :=
 Ld.perm (erase_perm bx.h er.h) (Ld.appO ht h1 (.own rfl) h2 hs hb)
theorem Ld.appRw [E:TyE P X e sz bytes z] [bx:RowAt L v e sz l1 i] [er:EraseAt L i L'] (ht:t < c.N) (h1:evD f x=some (.c (.v v))) (h2:evD f y=some d2) (hs:Srce L' sz d2 l2) (hb:(l1.length + l2.length) * bytes≤140737488355328) :
  Ld P c ⟨some t,.call ⟨.builtin .append,#[x,y],#[X,X]⟩,T,ps,af,gd⟩ f L (vfoot v) (fun _:Unit=>(t,.c (.r sz (l1 ++ l2))) :: f) (fun _=>L') :=
 Ld.perm (erase_perm bx.h er.h) (Ld.appR ht h1 (.own rfl) h2 hs hb)
end
section
variable {P:Program} {c:Cx} {k:List Item} {f:Fm} {L:List Res}
theorem J.weak {f':Fm} (h:J P c k f' L) (ho:Only f f'):J P c k f L:=J.only f' ho h
theorem J.congL {L':List Res} (e:L'=L) (h:J P c k f L'):J P c k f L:=e ▸ h
theorem J.frzS (t:Nat) {v:Value} {e sz i:Nat} {l:List (List A)} {L':List Res} [bx:RowAt L v e sz l i] [er:EraseAt L i L'] (h1:look f t=some (.c (.v v))) (h:J P c k ((t,.c (.r sz l)) :: f) L'):J P c k f L:=⟨fun a w s=>by
 have hp:(Res.row v e sz l :: L').Perm L:=by rw [← er.h];exact pull_perm L i bx.h
 have hm:∀ x,x∈foots (Res.row v e sz l :: L')↔x∈foots L:=fun x=>by
  rw [mem_foots,mem_foots];exact ⟨fun ⟨q,hq,hx⟩=>⟨q,hp.mem_iff.1 hq,hx⟩,fun ⟨q,hq,hx⟩=>⟨q,hp.mem_iff.2 hq,hx⟩⟩
 have ho:okk c (Res.row v e sz l :: L')=okk c L:=by
  funext x;unfold okk;rw [hm]
 have s1:St c ((t,.c (.v v)) :: f) (Res.row v e sz l :: L') a w:=by
  refine ⟨s.kp,s.size,s.dfr,fun q hq=>by rw [ho];exact s.res q (hp.mem_iff.1 hq),fun x hx=>s.frm x ((hm x).1 hx),(hp.pairwise_iff (fun {x y} hxy z hz hz'=>hxy z hz' hz)).2 s.ap,fun u d hu=>?_⟩;rw [ho]
  by_cases e1:t=u
  ·subst e1;rw [look_cons_eq] at hu;cases hu;exact s.fr t _ h1
  ·rw [look_cons_ne e1] at hu;exact s.fr u d hu
 exact h.go a w s1.freeze⟩
end
namespace K
section
variable {P:Program} {c:Cx} {k:List Item} {f:Fm} {L:List Res} {ops:Array Oper} {l:List Oper} {t:Option Tmp} {T:TypeId} {ps:String} {af:Array Edge} {gd:Option (Nat × Bool)}
theorem load {X:TypeId} {x:Operand} (h:JO P c ops (⟨t,.load X x,T,ps,af,gd⟩ :: l) k f L):JO P c ops (⟨t,.load X x,T,ps,af,gd⟩ :: l) k f L:=h
theorem store {X:TypeId} {x y:Operand} (h:JO P c ops (⟨t,.store X x y,T,ps,af,gd⟩ :: l) k f L):JO P c ops (⟨t,.store X x y,T,ps,af,gd⟩ :: l) k f L:=h
theorem move {x:Operand} (h:JO P c ops (⟨t,.move x,T,ps,af,gd⟩ :: l) k f L):JO P c ops (⟨t,.move x,T,ps,af,gd⟩ :: l) k f L:=h
theorem assign {x:Operand} (h:JO P c ops (⟨t,.assign x,T,ps,af,gd⟩ :: l) k f L):JO P c ops (⟨t,.assign x,T,ps,af,gd⟩ :: l) k f L:=h
theorem fieldAddr {X:TypeId} {x:Operand} {n:Nat} (h:JO P c ops (⟨t,.fieldAddr X x n,T,ps,af,gd⟩ :: l) k f L):JO P c ops (⟨t,.fieldAddr X x n,T,ps,af,gd⟩ :: l) k f L:=h
theorem indexAddr {X:TypeId} {x y:Operand} (h:JO P c ops (⟨t,.indexAddr X x y,T,ps,af,gd⟩ :: l) k f L):JO P c ops (⟨t,.indexAddr X x y,T,ps,af,gd⟩ :: l) k f L:=h
theorem binOp {b:BinOp} {X Y:TypeId} {x y:Operand} (h:JO P c ops (⟨t,.binOp b X x y Y,T,ps,af,gd⟩ :: l) k f L):JO P c ops (⟨t,.binOp b X x y Y,T,ps,af,gd⟩ :: l) k f L:=h
theorem unOp {b:UnOp} {X:TypeId} {x:Operand} (h:JO P c ops (⟨t,.unOp b X x,T,ps,af,gd⟩ :: l) k f L):JO P c ops (⟨t,.unOp b X x,T,ps,af,gd⟩ :: l) k f L:=h
theorem call {x:Operand} {as_:Array Operand} {tys:Array TypeId} (h:JO P c ops (⟨t,.call ⟨.value x,as_,tys⟩,T,ps,af,gd⟩ :: l) k f L):JO P c ops (⟨t,.call ⟨.value x,as_,tys⟩,T,ps,af,gd⟩ :: l) k f L:=h
theorem bi {b:Builtin} {as_:Array Operand} {tys:Array TypeId} (h:JO P c ops (⟨t,.call ⟨.builtin b,as_,tys⟩,T,ps,af,gd⟩ :: l) k f L):JO P c ops (⟨t,.call ⟨.builtin b,as_,tys⟩,T,ps,af,gd⟩ :: l) k f L:=h
theorem extract {x:Operand} {n:Nat} (h:JO P c ops (⟨t,.extract x n,T,ps,af,gd⟩ :: l) k f L):JO P c ops (⟨t,.extract x n,T,ps,af,gd⟩ :: l) k f L:=h
theorem build {X:TypeId} {as_:Array (Nat × Operand)} (h:JO P c ops (⟨t,.build X as_,T,ps,af,gd⟩ :: l) k f L):JO P c ops (⟨t,.build X as_,T,ps,af,gd⟩ :: l) k f L:=h
theorem lit {X:TypeId} {n:Nat} {as_:Array (Nat × Operand)} (h:JO P c ops (⟨t,.buildSlice X n as_,T,ps,af,gd⟩ :: l) k f L):JO P c ops (⟨t,.buildSlice X n as_,T,ps,af,gd⟩ :: l) k f L:=h
theorem slice {X:TypeId} {x:Operand} {lo hi mx:Option Operand} (h:JO P c ops (⟨t,.slice X x lo hi mx,T,ps,af,gd⟩ :: l) k f L):JO P c ops (⟨t,.slice X x lo hi mx,T,ps,af,gd⟩ :: l) k f L:=h
theorem pick {x y z:Operand} (h:JO P c ops (⟨t,.pick x y z,T,ps,af,gd⟩ :: l) k f L):JO P c ops (⟨t,.pick x y z,T,ps,af,gd⟩ :: l) k f L:=h
theorem nilCheck {x:Operand} (h:JO P c ops (⟨t,.nilCheck x,T,ps,af,gd⟩ :: l) k f L):JO P c ops (⟨t,.nilCheck x,T,ps,af,gd⟩ :: l) k f L:=h
theorem convert {X Y:TypeId} {x:Operand} (h:JO P c ops (⟨t,.convert X Y x,T,ps,af,gd⟩ :: l) k f L):JO P c ops (⟨t,.convert X Y x,T,ps,af,gd⟩ :: l) k f L:=h
theorem field {X:TypeId} {x:Operand} {n:Nat} (h:JO P c ops (⟨t,.field X x n,T,ps,af,gd⟩ :: l) k f L):JO P c ops (⟨t,.field X x n,T,ps,af,gd⟩ :: l) k f L:=h
theorem make {X:TypeId} {x y:Operand} (h:JO P c ops (⟨t,.makeSlice X x y,T,ps,af,gd⟩ :: l) k f L):JO P c ops (⟨t,.makeSlice X x y,T,ps,af,gd⟩ :: l) k f L:=h
end
end K
end Fl
open Go.RowKit
namespace Fl
section
variable {P:Program} {c:Cx} {k:List Item} {f:Fm} {L:List Res} {ops:Array Oper} {T X:TypeId} {ps:String} {af:Array Edge} {gd:Option (Nat × Bool)} {t:Nat}
theorem J.frzC (t u n:Nat) {v:Value} {e sz i j b o B:Nat} {ll:List (List A)} {cs:List A} {L1 L2:List Res} [r:RowAt L v e sz ll i] [bx:BoxAt L b B cs j] [st:SetAt L j (.box b B (cs.set n (.r sz ll))) L1] [er:EraseAt L1 i L2] (h1:look f t=some (.c (.v v))) (h2:look f u=some (.c (.v (.pointer (some ⟨b,o,none⟩))))) (hc:cs[n]?=some (.v v)) (h:J P c k f L2):J P c k f L :=
 J.frzB i j n r.h bx.h hc (by rw [st.h,er.h];exact h)
theorem J.pullS (t:Nat) {v:Value} {e sz i:Nat} {ll:List (List A)} {L2:List Res} [r:RowAt L v e sz ll i] [er:EraseAt L i L2] (h1:look f t=some (.c (.v v))) (h:J P c k f (.row v e sz ll :: L2)):J P c k f L :=
 J.pull i r.h (by rw [er.h];exact h)
theorem J.dropN (i:Nat) {L2:List Res} [er:EraseAt L i L2] (h:J P c k f L2):J P c k f L:=J.drop i (by rw [er.h];exact h)
end
class WAt (L:List Res) (d:D) (j:outParam Nat):Prop where h:True
instance WAt.box {L:List Res} {b o B j:Nat} {cs:List A} [BoxAt L b B cs j]:WAt L (.c (.v (.pointer (some ⟨b,o,none⟩)))) j:=⟨trivial⟩
instance WAt.row {L:List Res} {v:Value} {e sz j:Nat} {l:List (List A)} [RowAt L v e sz l j]:WAt L (.c (.v v)) j:=⟨trivial⟩
section
variable {P:Program} {c:Cx} {k:List Item} {f:Fm} {L:List Res} {ops:Array Oper} {n:Nat} {listed:Array Bool}
theorem JW.base1 (m:Option Nat) (x:Operand) {d:D} {j:Nat} (hx:evD f x=some d) [WAt L d j] (h:JD P c ops m [j] n listed k f L f L):JW P c ops n listed k f L:=JW.baseT _ _ h
end
end Fl
open Go.RowKit
namespace Fl
section
variable {P:Program} {ops:Array Oper} {Q:Exit→Act→World→Prop} {md:Region.Mode} {S:World→Prop}
def reach (md:Region.Mode) (ops:Array Oper) (listed:Array Bool):Nat→Nat→Nat→Bool
 | 0,m,i=>waitsFor md ops m i
 | n + 1,m,i=>waitsFor md ops m i || match ops[m]? with
  | none=>false
  | some o=>o.after.any (fun e=>Region.binds md e && !(listed.getD e.on false) && reach md ops listed n e.on i)
theorem waitsFor_not_ready {listed:Array Bool} {m i:Nat} (hr:i∈Region.ready md ops listed) (hw:waitsFor md ops m i=true):m∉Region.ready md ops listed:=fun hm=>by
 obtain ⟨_,oj,hoj,hall⟩:=mem_ready.1 hm;have hno:=not_ready_yet hr hall;unfold waitsFor at hw;rw [hoj] at hw;obtain ⟨x,hx,hp⟩:=Array.any_eq_true'.1 hw;simp only [Bool.and_eq_true,beq_iff_eq] at hp;exact hno x hx hp.2 hp.1
theorem reach_not_ready {listed:Array Bool} {i:Nat} (hr:i∈Region.ready md ops listed):∀ (n m:Nat),reach md ops listed n m i=true→m∉Region.ready md ops listed
 | 0,m,h=>waitsFor_not_ready hr h
 | n + 1,m,h=>fun hm=>by
  unfold reach at h;rw [Bool.or_eq_true] at h;rcases h with h | h
  ·exact waitsFor_not_ready hr h hm
  ·obtain ⟨_,oj,hoj,hall⟩:=mem_ready.1 hm;rw [hoj] at h;obtain ⟨x,hx,hp⟩:=Array.any_eq_true'.1 h;simp only [Bool.and_eq_true,Bool.not_eq_true'] at hp;have:=hall x hx hp.1.1;rw [hp.1.2] at this
   cases this
theorem reach_mono {listed:Array Bool} {i j:Nat} (hr:i∈Region.ready md ops listed) (hj:j∈Region.ready md ops listed):∀ (n m:Nat),reach md ops listed n m i=true→reach md ops (listed.setIfInBounds j true) n m i=true
 | 0,m,h=>h
 | n + 1,m,h=>by
  unfold reach at h ⊢;rw [Bool.or_eq_true] at h ⊢;rcases h with h | h
  ·exact .inl h
  ·refine .inr ?_
   cases ho:ops[m]? with
   | none=>rw [ho] at h;cases h
   | some o =>
    rw [ho] at h;obtain ⟨x,hx,hp⟩:=Array.any_eq_true'.1 h;simp only [Bool.and_eq_true,Bool.not_eq_true'] at hp;have hne:j≠x.on:=fun e=>reach_not_ready hr n x.on hp.2 (e ▸ hj)
    refine Array.any_eq_true'.2 ⟨x,hx,?_⟩;simp only [Bool.and_eq_true,Bool.not_eq_true'];exact ⟨⟨hp.1.1,by rw [getD_set_ne false hne];exact hp.1.2⟩,reach_mono hr hj n x.on hp.2⟩
def waitsT (md:Region.Mode) (ops:Array Oper) (m:Option Nat) (listed:Array Bool) (i:Nat):Bool:=match m with
 | none=>true
 | some j=>reach md ops listed ops.size j i
theorem Gx.firstT {m:Option Nat} {i:Nat} {oi:Oper} {v:Value} (hi:ops[i]?=some oi) (hsel:∀ (j:Nat) (o:Oper) cs b,ops[j]?=some o→o.op≠.select cs b) (hQ:∀ c a w,Q (.panic c) (a.put oi.dst v) w→Q (.panic c) a w) :
  ∀ (n:Nat) (listed:Array Bool) (a:Act) (w:World),waitsT md ops m listed i=true→(∀ (j:Nat) oj,ops[j]?=some oj→j≠i→listed.getD j true=false→(∀ e∈oj.after,Region.binds md e=true→e.on≠i)→oi.apart ops oj=true) →
   i∈Region.ready md ops listed→YieldsIf P ops S oi v a→S w→Gx P md ops Q S m n (listed.setIfInBounds i true) (a.put oi.dst v) w→Gx P md ops Q S m (n + 1) listed a w
 | n,listed,a,w,hm,hfree,hr,hy,hS,H=>by
  refine ⟨fun h=>(by rw [h] at hr;cases hr),fun j hj=>?_⟩
  by_cases hji:j=i
  ·subst hji;exact hy.wpOp hi hS (.inr ⟨hS,H⟩)
  ·cases n with
   | zero =>
    have:=ready_mono hj hji;rw [H.1] at this
    cases this
   | succ n =>
    obtain ⟨hjun,oj,hoj,hall⟩:=mem_ready.1 hj;have hno:=not_ready_yet hr hall;have hjm:some j≠m:=fun e=>by
     subst e;exact reach_not_ready hr _ _ hm hj
    have hm2:waitsT md ops m (listed.setIfInBounds j true) i=true:=by
     cases m with
     | none=>rfl
     | some q=>exact reach_mono hr hj _ _ hm
    have h2:=wpOp_putIf hoj (hfree j oj hoj hji hjun hno) (fun cs b=>hsel i oi cs b hi) (fun cs b=>hsel j oj cs b hoj) hQ hy (H.2 j (ready_mono hj hji));have hr2:i∈Region.ready md ops (listed.setIfInBounds j true):=ready_mono hr (Ne.symm hji);refine wpOp_mono (fun a' w' h3=>?_) h2;have hcomm:=Array.setIfInBounds_comm (xs:=listed) true true hji;obtain ⟨h4,h5⟩:S w'∧_:=h3.2.resolve_left (fun h=>hjm h.1);exact .inr ⟨h4,Gx.firstT hi hsel hQ n (listed.setIfInBounds j true) a' w' hm2 (fun k ok hk hki hun hno=>by
     refine hfree k ok hk hki ?_ hno
     by_cases hjk:j=k
     ·subst hjk;exact hjun
     ·rw [getD_set_ne true hjk] at hun;exact hun) hr2 h3.1 h4 (by rw [hcomm];exact h5)⟩
end
def okTakeT (md:Region.Mode) (ops:Array Oper) (m:Option Nat) (listed:Array Bool) (i:Nat):Bool :=
 Region.noSelect ops && Region.free md ops listed i && (Region.ready md ops listed).contains i && waitsT md ops m listed i
section
variable {P:Program} {c:Cx} {k:List Item} {f f0:Fm} {L L0:List Res} {ops:Array Oper} {n:Nat} {listed:Array Bool} {m:Option Nat} {T:List Nat} {o:Oper}
theorem JD.takeT (i:Nat) {t:Nat} {d:D} {U:List Nat} (hi:ops[i]?=some o) (hd:o.dst=some t) (hk:okTakeT .any ops m listed i=true) (hw:Wants ops o f0=true) (ht:t < c.N) (q:Qt P c U o f0 L0 d) (hu:(U.all fun j=>!T.contains j)=true) (h:JD P c ops m T n (listed.setIfInBounds i true) k ((t,d) :: f) L ((t,d) :: f0) L0):JD P c ops m T (n + 1) listed k f L f0 L0:=⟨fun a w w0 s s0 kp ho=>by
 obtain ⟨v,h1,h2⟩:=q.go a w0 s0;unfold okTakeT at hk;simp only [Bool.and_eq_true] at hk;obtain ⟨⟨⟨k1,k2⟩,k3⟩,k4⟩:=hk;have m1:Mon (okk c L0) (okk c L) w0 w:=Mon.of_keeps kp fun g hg hg'=>⟨⟨hg'.1,fun hx=>by rcases ho g hx with h | h;exact hg'.2 h;omega⟩,fun hm=>hg'.2 (blk_foots hm)⟩
 have hlat:∀ w',Keeps (blk L0 T) w0 w'→Later L0 U w0 w':=fun w' hw'=>⟨_,hw',fun x hx=>blk_foots hx,fun x hx j hj r hr hxr=>by
  obtain ⟨i,hi,r2,hr2,hx2⟩:=mem_blk.1 hx;have hij:j≠i:=fun e=>by
   subst e;have:=List.all_eq_true.1 hu j hj;simp [hi] at this
  exact Apart.ne s0.ap hr hr2 hij x hxr hx2⟩
 refine Gx.firstT hi (Region.noSelect_spec k1) (fun c a w h=>by cases h.1) n listed a w k4 (Region.free_spec hi k2) (by simpa using k3) (v:=v) (.inl ⟨Wants.run hw s0,fun w' hw'=>h2 w' (hlat w' hw')⟩) kp ?_;have:=h.go (a.put o.dst v) w w0 (by rw [hd];exact s.put0 ht (RD.mon m1 _ _ h1)) (by rw [hd];exact s0.put0 ht h1) kp ho;exact this⟩
end
end Fl
open Go.RowKit
namespace Fl
section
variable {P:Program} {c:Cx} {k:List Item} {f:Fm} {L:List Res} {ops:Array Oper} {n:Nat} {listed:Array Bool} {o:Oper}
structure JT (P:Program) (c:Cx) (ops:Array Oper) (n:Nat) (listed:Array Bool) (k:List Item) (f:Fm) (L:List Res) (i:Nat):Prop where
 go:∀ a w,St c f L a w→wpOp P ops (fun e a' w'=>e=.normal∧Run P c k a' w') i (fun a' w'=>wpAny P .any ops (fun e a' w'=>e=.normal∧Run P c k a' w') n (listed.setIfInBounds i true) a' w') a w
variable {T:TypeId} {ps:String} {af:Array Edge} {gd:Option (Nat × Bool)} {t:Nat}
theorem Ld.callF {F:FuncId} {args:List Operand} {tys:Array TypeId} {ds0 ds:List D} {ι:Type} {dd:ι→D} {M:ι→List Res} {Ll:List Res} (Lr:List Res) (L':ι→List Res) [i:TyC P F] (hC:Con P F ds Ll (fun x=>(dd x,M x))) (hL:(Ll ++ Lr).Perm L) (hL':∀ x,(L' x).Perm (M x ++ Lr)) (ht:t < c.N) (h:evDs f args=some ds0) (hle:LeDs ds0 ds) :
  Ld P c ⟨some t,.call ⟨.value (.func F),args.toArray,tys⟩,T,ps,af,gd⟩ f L (foots Ll) (fun x=>(t,dd x) :: f) L':=⟨fun a w s K Q hK=>by
 have h1:=Ld.call (P:=P) (c:=c) (T:=T) (ps:=ps) (af:=af) (gd:=gd) (L:=Ll ++ Lr) (f:=f) (tys:=tys) hC ht h hle (Ll:=Ll) (Lr:=Lr) rfl;refine h1.go a w (s.perm hL) K Q fun x v w' kp sx hf=>?_
 refine hK x v w' kp (sx.perm (hL' x)) fun y hy=>?_
 rcases hf y ((foots_perm (hL' x) y).1 hy) with h | h
 ·exact .inl ((foots_perm hL y).1 h)
 ·exact .inr h⟩
end
end Fl
open Go.RowKit
namespace Fl
theorem RX.rep {ok:Nat→Prop} {w:World} {zs:List Value} (h:zs.all (·.oneCell')=true):∀ n:Nat,RX ok w zs.length (List.replicate n (vs zs)) ((List.replicate n ()).flatMap fun _=>zs)
 | 0=>rfl
 | n + 1=>⟨zs,(List.replicate n ()).flatMap fun _=>zs,by rw [List.replicate_succ,List.flatMap_cons],rfl,RC.vs h,RX.rep h n⟩
section
variable {P:Program} {c:Cx} {k:List Item} {f:Fm} {L:List Res} {T X:TypeId} {ps:String} {af:Array Edge} {gd:Option (Nat × Bool)} {t:Nat}
theorem Ld.make {e sz bytes:Nat} {z:Value} {zs:List Value} [E:TyE P X e sz bytes z] [Z:TyZ' P e zs] {x y:Operand} {kl kc:IntKind} {N:Int} (n:Nat) (ht:t < c.N) (hx:evD f x=some (.c (.v (.int kl N)))) (hy:evD f y=some (.c (.v (.int kc N)))) (hN:N=(n:Int)) (hb:n * bytes≤281474976710656) :
  Ld P c ⟨some t,.makeSlice X x y,T,ps,af,gd⟩ f L [] (fun b:Nat=>(t,.c (.v (.slice (some ⟨b,0,none⟩) n n))) :: f) (fun b=>.row (.slice (some ⟨b,0,none⟩) n n) e sz (List.replicate n (vs zs)) :: L):=⟨fun a w s K Q hK=>by
 subst hN;obtain ⟨hu,hinf,hz,hpos,hby⟩:=E.h;obtain ⟨i,hi,hi1,hi2,hi3⟩:=info_parts hinf;have hsmall:n≤281474976710656:=Nat.le_trans (Nat.le_mul_of_pos_right _ hby) hb;have rx:=s.val hx;have ry:=s.val hy;obtain ⟨w',hrun,r1,r2⟩:=run_make_full (P:=P) w 0 X e i z sz hu hi hi1 hi2 kl kc n (by rw [hi3,Nat.mul_comm];exact hb) (by simp only [maxLen];omega) (Nat.zero_le _);have hk:Keeps [] w w':=(Keeps.refl [] w).grown r2 (by simp);have hr:=(Row.of_own r1).1;have hzs:z.cells.toList=zs:=by
  have h1:=Z.h;unfold tyZero at h1;rw [hi] at h1;simpa [hi1] using h1
 have hl:zs.length=sz:=by rw [← hzs];simpa using hz
 have hrow:(Res.row (.slice (some ⟨w.heap.size,0,none⟩) n n) e sz (List.replicate n (vs zs))).holds (okk c (.row (.slice (some ⟨w.heap.size,0,none⟩) n n) e sz (List.replicate n (vs zs)) :: L)) w':=by
  refine ⟨(List.replicate n ()).flatMap fun _=>zs,?_,?_⟩
  ·rw [List.length_replicate,← flat_made (f:=fun _=>zs) (fun _=>hl) (x0:=()) hzs hpos n];exact hr
  ·subst hl;exact RX.rep Z.o n
 have hf:∀ y∈(Res.row (.slice (some ⟨w.heap.size,0,none⟩) n n) e sz (List.replicate n (vs zs))).foot,w.heap.size≤y:=by simp [Res.foot,vfoot]
 unfold Oper.wp;simp only [execOp,rx,ry,hrun,Result.andThen,Sem.run_bind];exact hK w.heap.size _ _ hk (s.new ht hk hf hrow (by unfold RD RA;exact ⟨rfl,rfl⟩)) (foots_new hf)⟩
theorem Ld.lit1R {e sz:Nat} {x:Operand} {d:D} {cs:List A} {zs:List Value} [i:TyS P X e sz] [z:TyZ' P e zs] (ht:t < c.N) (h:evD f x=some d) (hc:cellsD d=some cs) (hn:cs.length=sz) (h0:Nat.ble 1 sz=true) (hs:Nat.ble sz 1000=true) :
  Ld P c ⟨some t,.buildSlice X 1 #[(0,x)],T,ps,af,gd⟩ f L [] (fun _:Unit=>(t,.c (.r sz [cs])) :: f) (fun _=>L):=⟨fun a w s K Q hK =>
 (Ld.lit1 (P:=P) (c:=c) (T:=T) (ps:=ps) (af:=af) (gd:=gd) (f:=f) (L:=L) (e:=e) (sz:=sz) (zs:=zs) (X:=X) (t:=t) ht h hc hn h0 hs).go a w s K Q fun b u w' k' s' hf=>hK () u w' k' s'.freeze fun y hy=>hf y ((foots_cons _ _ _).2 (.inr hy))⟩
theorem Ld.lit0R {e sz:Nat} [i:TyS P X e sz] (ht:t < c.N):Ld P c ⟨some t,.buildSlice X 0 #[],T,ps,af,gd⟩ f L [] (fun _:Unit=>(t,.c (.r sz [])) :: f) (fun _=>L):=⟨fun a w s K Q hK =>
 (Ld.lit0 (P:=P) (c:=c) (T:=T) (ps:=ps) (af:=af) (gd:=gd) (f:=f) (L:=L) (e:=e) (sz:=sz) (X:=X) (t:=t) ht).go a w s K Q fun b u w' k' s' hf=>hK () u w' k' s'.freeze fun y hy=>hf y ((foots_cons _ _ _).2 (.inr hy))⟩
theorem Qt.min {x y:Operand} {tys:Array TypeId} {k1:IntKind} {m n r:Int} (h:evD f x=some (.c (.v (.int k1 m)))) (hy:evD f y=some (.c (.v (.int k1 n)))) (hr:(if n < m then n else m)=r):Qt P c [] ⟨t,.call ⟨.builtin .min,#[x,y],tys⟩,T,ps,af,gd⟩ f L (.c (.v (.int k1 r))):=⟨fun a w s=>by
 have rx:=s.val h;have ry:=s.val hy;subst hr;refine ⟨_,by unfold RD RA;exact ⟨rfl,rfl⟩,fun w' k=>?_⟩;simp only [execOp,resolve,invoke,builtin,Sem.run_bind];simp [rx,ry,Builtin.min_,Builtin.min2,Sem.run_bind]⟩
end
end Fl
namespace Pn
structure Cs where
 send:Bool
 ch:Int
 v:Int
structure Op where
 kind:Int
 ch:Int
 n:Int
 v:Int
 cases:List Cs
 els:Bool
theorem Cs.ext {a b:Cs} (h1:a.send=b.send) (h2:a.ch=b.ch) (h3:a.v=b.v):a=b:=by cases a;cases b;simp_all
theorem Op.ext {a b:Op} (h1:a.kind=b.kind) (h2:a.ch=b.ch) (h3:a.n=b.n) (h4:a.v=b.v) (h5:a.cases=b.cases) (h6:a.els=b.els):a=b:=by cases a;cases b;simp_all
instance:DecidableEq Cs:=fun a b=>decidable_of_iff (a.send=b.send∧a.ch=b.ch∧a.v=b.v) ⟨fun ⟨h1,h2,h3⟩=>Cs.ext h1 h2 h3,fun h=>by subst h;simp⟩
instance:DecidableEq Op:=fun a b=>decidable_of_iff (a.kind=b.kind∧a.ch=b.ch∧a.n=b.n∧a.v=b.v∧a.cases=b.cases∧a.els=b.els) ⟨fun ⟨h1,h2,h3,h4,h5,h6⟩=>Op.ext h1 h2 h3 h4 h5 h6,fun h=>by subst h;simp⟩
instance:Inhabited Cs:=⟨⟨false,0,0⟩⟩
instance:Inhabited Op:=⟨⟨0,0,0,0,[],false⟩⟩
def hasCh (k:Int):Bool:=decide (2≤k) && decide (k≤8)
def hasV (k:Int):Bool:=(k == 2) || (k == 4)
def rightCs (c:Cs):Bool:=decide (0≤c.ch∧c.ch≤8∧0≤c.v∧c.v≤255∧(c.send=false→c.v=0))
def rightOp (o:Op):Bool:=decide (1≤o.kind∧o.kind≤9∧0≤o.ch∧o.ch≤8∧0≤o.n∧o.n≤4∧0≤o.v∧o.v≤255∧o.cases.length≤6 ∧
 (hasCh o.kind=false→o.ch=0)∧(hasV o.kind=false→o.v=0)∧(o.kind≠1→o.n=0)∧(o.kind≠9→o.cases=[]∧o.els=false)∧∀ c∈o.cases,rightCs c=true)
def rightOps (l:List Op):Bool:=decide (l.length≤16∧∀ o∈l,rightOp o=true)
def right (p:List (List Op)):Bool:=decide (1≤p.length∧p.length≤8∧∀ l∈p,rightOps l=true)
section
variable {α:Type} {f:Nat→α × Nat}
end
end Pn
namespace Md
structure Ch where
 cap:Int
 buf:List Int
 closed:Bool
structure St where
 chans:List Ch
 waits:Int→Option Pn.Op
structure Sd where
 ch:Int
 send:Bool
 v:Int
structure Res where
 code:Int
 cs:Int
 v:Int
 ok:Bool
 n:Int
def noSide:Sd:=⟨0,false,0⟩
def noRes:Res:=⟨0,0,0,false,0⟩
def side (o:Pn.Op) (i:Int):Option Sd :=
 if (o.kind=2∨o.kind=4)∧i=-1 then some ⟨o.ch,true,o.v⟩
 else if (o.kind=3∨o.kind=5)∧i=-1 then some ⟨o.ch,false,0⟩
 else if o.kind=9∧0≤i then (o.cases[i.toNat]?).map (fun c=>⟨c.ch,c.send,c.v⟩)
 else none
def anyUpto (o:Pn.Op) (p:Int→Sd→Bool):Nat→Bool
 | 0=>false
 | k + 1=>anyUpto o p k || (match side o ((k:Int) - 1) with | some s=>p ((k:Int) - 1) s | none=>false)
def any (o:Pn.Op) (p:Int→Sd→Bool):Bool:=anyUpto o p (o.cases.length + 1)
def chan (l:List Ch) (ch:Int):Option Ch:=if 1≤ch then l[(ch - 1).toNat]? else none
def Another (st:St) (g ch:Int) (sends:Bool):Prop:=∃ h o,st.waits h=some o∧h≠g∧any o (fun _ s=>s.ch == ch && s.send == sends)=true
noncomputable def another (st:St) (g ch:Int) (sends:Bool):Bool:=by classical exact decide (Another st g ch sends)
noncomputable def may (st:St) (g:Int) (s:Sd):Bool :=
 match chan st.chans s.ch with
 | none=>false
 | some c=>c.closed || (s.send && decide ((c.buf.length:Int) < c.cap)) || (!s.send && decide (0 < c.buf.length)) || (decide (c.cap=0) && another st g s.ch (!s.send))
noncomputable def mayAt (st:St) (g:Int) (o:Pn.Op) (i:Int):Bool:=match side o i with | some s=>may st g s | none=>false
noncomputable def anyMay (st:St) (g:Int) (o:Pn.Op):Bool:=any o (fun _ s=>may st g s)
def putChan (l:List Ch) (ch:Int) (c:Ch):List Ch:=l.set (ch - 1).toNat c
def makes (l:List Ch) (room:Int):List Ch × Res :=
 if 8≤l.length then (l,⟨7,-1,0,false,0⟩) else (l ++ [⟨room,[],false⟩],⟨1,-1,0,true,(l.length:Int) + 1⟩)
def looks (l:List Ch) (o:Pn.Op):Res :=
 match chan l o.ch with
 | none=>⟨1,-1,0,true,0⟩
 | some c=>⟨1,-1,0,true,if o.kind=7 then (c.buf.length:Int) else c.cap⟩
def closes (l:List Ch) (ch:Int):List Ch × Res :=
 match chan l ch with
 | none=>(l,⟨5,-1,0,false,0⟩)
 | some c=>if c.closed=true then (l,⟨4,-1,0,false,0⟩) else (putChan l ch ⟨c.cap,c.buf,true⟩,⟨1,-1,0,true,0⟩)
def does (l:List Ch) (o:Pn.Op) (i:Int):List Ch × Option Res :=
  match side o i with
  | none=>(l,none)
  | some s =>
    match chan l s.ch with
    | none=>(l,none)
    | some c =>
      if s.send=true then
        (if c.closed=true then (l,some ⟨3,i,0,false,0⟩)
         else if (c.buf.length:Int) < c.cap then (putChan l s.ch ⟨c.cap,c.buf ++ [s.v],c.closed⟩,some ⟨1,i,0,true,0⟩)
         else (l,none))
      else
        (if 0 < c.buf.length then (putChan l s.ch ⟨c.cap,c.buf.drop 1,c.closed⟩,some ⟨1,i,c.buf.getD 0 0,true,0⟩)
         else if c.closed=true then (l,some ⟨1,i,0,false,0⟩)
         else (l,none))
def fires (l:List Ch) (o:Pn.Op) (i:Int):List Ch × Option Res :=
 if o.kind=1 then ((makes l o.n).1,some (makes l o.n).2)
 else if o.kind=7∨o.kind=8 then (l,some (looks l o))
 else if o.kind=6 then ((closes l o.ch).1,some (closes l o.ch).2)
 else does l o i
def drops (f:Int→Option Pn.Op) (g:Int):Int→Option Pn.Op:=fun c=>if c=g then none else f c
def fire (st:St) (g:Int) (o:Pn.Op) (i:Int):St × Option Res :=
 match fires st.chans o i with
 | (l,some r)=>(⟨l,drops st.waits g⟩,some r)
 | (_,none)=>(st,none)
def begins (o:Pn.Op):Bool:=decide (o.kind=2∨o.kind=3∨(o.kind=9∧o.els=false))
def tries (o:Pn.Op):Bool:=decide (o.kind=4∨o.kind=5∨(o.kind=9∧o.els=true))
noncomputable def no (st:St) (g:Int) (o:Pn.Op):Bool:=tries o && !anyMay st g o
noncomputable def wait (st:St) (g:Int) (o:Pn.Op):St × Bool :=
 if begins o=true∧any o (fun _ s=>(chan st.chans s.ch).isSome)=true∧st.waits g=none∧anyMay st g o=false then (⟨st.chans,fun c=>if c=g then some o else st.waits c⟩,true)
 else (st,false)
theorem side_case {o:Pn.Op} {i:Int} (h:o.kind=9) (hi:0≤i):side o i=(o.cases[i.toNat]?).map (fun c=>⟨c.ch,c.send,c.v⟩):=by
 unfold side;rw [if_neg (by omega),if_neg (by omega),if_pos ⟨h,hi⟩]
theorem chan_none {l:List Ch} {ch:Int} (h:ch < 1∨(l.length:Int) < ch):chan l ch=none:=by
 unfold chan
 split
 ·exact List.getElem?_eq_none (by omega)
 ·rfl
theorem chan_some {l:List Ch} {ch:Int} (h:1≤ch) (h2:ch≤(l.length:Int)):∃ c,chan l ch=some c∧l[(ch - 1).toNat]?=some c:=by
 unfold chan;rw [if_pos h];exact ⟨_,List.getElem?_eq_getElem (by omega),List.getElem?_eq_getElem (by omega)⟩
end Md
namespace Sx
structure Gr where
 ops:List Pn.Op
 at_:Int
 place:Int
 status:Int
 token:Bool
 call:Int
 picked:Bool
 param:Int
 mine:Int
 hold:Int
 t:Int
 arrive:Int
 point:Int
 wi:Int
 fire:Int
 res:Md.Res
 order:List Int
 locks:List Int
 sgs:List Int
 wakes:List Int
 k:Int
structure Cn where
 cap:Int
 buf:List Int
 closed:Bool
 lock:Int
 recv:List Int
 send:List Int
structure Su where
 live:Bool
 g:Int
 ch:Int
 cs:Int
 send:Bool
 v:Int
 done:Bool
structure Mk where
 g:Int
 op:Int
 call:Int
 arrive:Int
 point:Int
 wi:Int
 fire:Int
 re:Int
 res:Md.Res
structure St where
 sudogN:Int
 cacheN:Int
 step:Int
 gs:List Gr
 chans:List Cn
 sudogs:List Su
 cache:List (List Int)
 middle:List Int
 fresh:Int
 draws:List Int
 drawn:Int
 done:List Mk
def noRes:Md.Res:=⟨0,-1,0,false,0⟩
def clean (ops:List Pn.Op) (a:Int):Gr:=⟨ops,a,0,0,false,0,false,-1,-1,-1,0,0,0,-1,-1,noRes,[],[],[],[],0⟩
end Sx
namespace Po
def taker (C:List (List Int)) (g:Int):Bool:=decide (0≤g) && decide (g < C.length)
structure St where
 C:List (List Int)
 M:List Int
 f:Nat
 H:List Bool
def room (most:Nat):Nat:=max 1 (most / 2)
def pulls (most:Nat) (c M:List Int):Nat:=if c=[] then min (room most) M.length else 0
def own (most:Nat) (c M:List Int):List Int:=c ++ M.reverse.take (pulls most c M)
def mid (most:Nat) (c M:List Int):List Int:=M.take (M.length - pulls most c M)
def took (s:St) (g:Nat) (o m:List Int):St:=⟨s.C.set g o.dropLast,m,s.f,s.H.set (o.getLastD 0).toNat false⟩
def take (size most:Nat) (s:St) (g:Int):St × Int × Bool :=
 if taker s.C g then
  if own most (s.C.getD g.toNat []) s.M=[] then (if s.f < size then (⟨s.C,s.M,s.f + 1,s.H⟩,(s.f:Int),true) else (s,0,false))
  else (took s g.toNat (own most (s.C.getD g.toNat []) s.M) (mid most (s.C.getD g.toNat []) s.M),(own most (s.C.getD g.toNat []) s.M).getLastD 0,true)
 else (s,0,false)
def cnt (s:St) (a:Int):Nat:=s.M.count a + s.C.flatten.count a
structure Inv (size most:Nat) (s:St):Prop where
 m1:1≤most
 m2:most≤16
 s1:size≤64
 hl:s.H.length=size
 fl:s.f≤size
 one:∀ a,cnt s a≤1
 bound:∀ a,1≤cnt s a→0≤a∧a < s.f
 home:∀ x:Nat,x < size→s.H.getD x false=decide (1≤cnt s (x:Int))
 caches:∀ c∈s.C,c.length≤most
end Po
namespace Sx
def noOp:Pn.Op:=⟨0,0,0,0,[],false⟩
def noCn:Cn:=⟨0,[],false,-1,[],[]⟩
def gr (s:St) (g:Nat):Gr:=s.gs.getD g (clean [] 0)
def cn (s:St) (ch:Int):Cn:=s.chans.getD (ch - 1).toNat noCn
def op (s:St) (g:Nat):Pn.Op:=(gr s g).ops.getD (gr s g).at_.toNat noOp
def made (s:St) (ch:Int):Bool:=decide (1≤ch∧ch≤s.chans.length)
def withG (s:St) (g:Nat) (x:Gr):St:={ s with gs:=s.gs.set g x }
def withC (s:St) (ch:Int) (c:Cn):St:={ s with chans:=s.chans.set (ch - 1).toNat c }
def withS (s:St) (i:Int) (x:Su):St:={ s with sudogs:=s.sudogs.set i.toNat x }
def goTo (s:St) (g:Nat) (p:Int):St:=withG s g { gr s g with place:=p }
def tryLock (s:St) (g:Nat) (ch:Int):St × Bool:=if (cn s ch).lock=-1 then (withC s ch { cn s ch with lock:=g },true) else (s,false)
def sudog (s:St) (g:Nat):St × Int × Bool :=
 if Po.own s.cacheN.toNat (s.cache.getD g []) s.middle=[] then (if s.fresh < s.sudogN then ({ s with fresh:=s.fresh + 1 },s.fresh,true) else (s,0,false))
 else ({ s with cache:=s.cache.set g (Po.own s.cacheN.toNat (s.cache.getD g []) s.middle).dropLast,middle:=Po.mid s.cacheN.toNat (s.cache.getD g []) s.middle },(Po.own s.cacheN.toNat (s.cache.getD g []) s.middle).getLastD 0,true)
def wakes (s:St) (g:Nat):St:=if 0 < (gr s g).wakes.length then goTo s g 17 else goTo s g 18
def res (c:Int):Md.Res:=⟨c,-1,0,false,0⟩
def mine (s:St) (g:Nat) (d:Su):St :=
 if (sudog s g).2.2=true then withG (withS (sudog s g).1 (sudog s g).2.1 d) g { gr s g with mine:=(sudog s g).2.1,place:=11 }
 else withG (sudog s g).1 g { gr s g with res:={ (gr s g).res with code:=6 },place:=16 }
def unlock (s:St) (g:Nat) (p:Int):St:=withG s g { gr s g with k:=(gr s g).locks.length,place:=p }
def atK (l:List Int) (k:Int):Int:=l.getD k.toNat 0
def lock (s:St) (g:Nat) (p:Int):St :=
 let x:=gr s g
 if (tryLock s g (atK x.locks x.k)).2=true then
  (if x.k + 1=x.locks.length then withG (tryLock s g (atK x.locks x.k)).1 g { x with k:=0,place:=p } else withG (tryLock s g (atK x.locks x.k)).1 g { x with k:=x.k + 1 })
 else s
def next (s:St) (g:Nat) (p:Int):St :=
 let x:=gr s g
 if x.k + 1=x.order.length then withG s g { x with k:=0,place:=p } else withG s g { x with k:=x.k + 1 }
def noCs:Pn.Cs:=⟨false,0,0⟩
def caseAt (o:Pn.Op) (i:Int):Pn.Cs:=o.cases.getD i.toNat noCs
def sudogs (s:St) (g:Nat) (o:Pn.Op):St :=
 let x:=gr s g
 let i:=atK x.order x.k
 let k:=caseAt o i
 if (sudog s g).2.2=true then
  next (withG (withS (sudog s g).1 (sudog s g).2.1 ⟨true,g,k.ch,i,k.send,k.v,false⟩) g { x with sgs:=x.sgs.set i.toNat (sudog s g).2.1 }) g 29
 else unlock (withG (sudog s g).1 g { x with res:={ x.res with code:=6 } }) g 30
def draw (l:List Int) (at_ n:Int):Int × Int:=if n < 1∨(l.length:Int)≤at_ then (0,at_) else ((atK l at_) % n,at_ + 1)
def drawn:St→Nat→List Int × Int
 | s,0=>([],s.drawn)
 | s,n + 1=>((drawn s n).1 ++ [(draw s.draws (drawn s n).2 (n + 1)).1],(draw s.draws (drawn s n).2 (n + 1)).2)
def insert (x:Int):List Int→List Int
 | []=>[x]
 | y :: l=>if y≤x then y :: insert x l else x :: y :: l
def sort (l:List Int):List Int:=l.foldl (fun acc x=>insert x acc) []
def addLock (acc:List Int) (x:Int):List Int:=if x≤0∨(0 < acc.length∧acc.getLastD 0=x) then acc else acc ++ [x]
def locks (l:List Int):List Int:=(sort l).foldl addLock []
end Sx
end Go.Proofs.Ytdibmkjoaghafaa
