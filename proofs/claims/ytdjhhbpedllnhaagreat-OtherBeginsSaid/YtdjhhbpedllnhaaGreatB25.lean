/-
  What the laws need, part B25.
  Conditions: none.
-/
import Derived.Test.YtdjhhbpedllnhaaGreatB24
set_option linter.unusedVariables false
set_option linter.unusedSimpArgs false
set_option linter.unnecessarySimpa false
set_option maxHeartbeats 2000000
namespace Go.Proofs.YtdjhhbpedllnhaaGreat
open Go.RowKit
namespace Po
theorem Lw (f:Int):∀ (L:List Int) (H:List Bool),f≤H.length→(settle f H L).2=true→∀ j:Nat,(settle f H L).1.getD j false=(H.getD j false || decide ((j:Int)∈L))
 | [],H,_,_,j=>by simp [settle]
 | x :: r,H,hf,h,j=>by
  rw [xW] at h ⊢
  by_cases hl:live f H x=true
  ·rw [if_pos hl] at h ⊢;obtain ⟨h1,h2,h3⟩:=mO.1 hl;have hx:x.toNat < H.length:=by omega
   rw [Lw f r _ (by simpa using hf) h j,lZ _ _ _ _ _ hx]
   by_cases e:x.toNat=j
   ·have ex:(j:Int)=x:=by omega
    rw [if_pos e];simp [ex]
   ·have ex:¬ (j:Int)=x:=by omega
    rw [if_neg e];simp [ex]
  ·rw [if_neg hl] at h;cases h
theorem Vc {n m f:Nat} {C:List (List Int)} {M:List Int} {H:List Bool} (h:of n m f C M=true) (hs:settle f (List.replicate n false) (C.flatten ++ M)=(H,true)):Inv n m ⟨C,M,f,H⟩:=by
 unfold of at h;simp only [Bool.and_eq_true,decide_eq_true_eq] at h;obtain ⟨⟨⟨⟨h1,h2⟩,h3⟩,h4⟩,h5⟩:=h;obtain ⟨a1,a2,a3,a4,a5,a6⟩:=G9 h1;have hf:(f:Int)≤((List.replicate n false).length:Int):=by simp;omega
 have Lx:(settle f (List.replicate n false) (C.flatten ++ M)).2=true:=by rw [hs]
 obtain ⟨b1,b2,b3⟩:=(Hj f _ _ hf).1 Lx;have xg:=Lw f _ _ hf Lx;rw [hs] at xg;have hlen:=Aq f (List.replicate n false) (C.flatten ++ M);rw [hs] at hlen;have FQ:∀ a,ei ⟨C,M,f,H⟩ a=(C.flatten ++ M).count a:=fun a=>by
  unfold ei;rw [List.count_append,Nat.add_comm]
 have h9:f≤n:=by omega
 have Dy:∀ a,(C.flatten ++ M).count a≤1:=fun a=>List.nodup_iff_count.1 b2 a
 refine ⟨by omega,by omega,by omega,by simpa using hlen,h9,fun a=>by rw [FQ];exact Dy a,fun a ha=>?_,fun x hx=>?_,fun c hc=>by have:=h4 c hc;omega⟩
 ·rw [FQ] at ha;exact b1 a (List.count_pos_iff.1 ha)
 ·have:=xg x;rw [FQ];have hr:(List.replicate n false).getD x false=false:=by
   rw [List.getD_eq_getElem?_getD,List.getElem?_replicate];split <;> rfl
  rw [hr,Bool.false_or] at this;rw [this];exact decide_eq_decide.2 List.count_pos_iff.symm
end Po
namespace Fl
open Sx Go.Proofs.Tryz
set_option maxRecDepth 100000
def tn (s:ah):Bool :=
 decide (s.av.length≤8) && (List.range s.av.length).all fun k =>
  ((cn s ((k:Int) + 1)).recv ++ (cn s ((k:Int) + 1)).send).all (fun i=>decide (0≤i∧i < s.aA.length∧(su s i).ch=(k:Int) + 1∧((su s i).send=false→i∉(cn s ((k:Int) + 1)).send)∧((su s i).send=true→i∉(cn s ((k:Int) + 1)).recv)))
  && decide ((cn s ((k:Int) + 1)).recv.Nodup∧(cn s ((k:Int) + 1)).send.Nodup∧(cn s ((k:Int) + 1)).recv.length≤1000∧(cn s ((k:Int) + 1)).send.length≤1000∧((cn s ((k:Int) + 1)).lock=-1∨0≤(cn s ((k:Int) + 1)).lock)
  ∧0≤(cn s ((k:Int) + 1)).cap∧(cn s ((k:Int) + 1)).cap≤64∧(((cn s ((k:Int) + 1)).buf.length:Nat):Int)≤(cn s ((k:Int) + 1)).cap)
theorem tn.qs {s:ah} (h:tn s=true):Qs s:=by
 unfold tn at h;simp only [Bool.and_eq_true,decide_eq_true_eq,List.all_eq_true,List.mem_range] at h;exact ⟨h.1,fun k hk i hi=>(h.2 k hk).1 i (List.mem_append.2 hi),fun k hk=>⟨(h.2 k hk).2.1,(h.2 k hk).2.2.1⟩⟩
def zJ (s:ah):Bool :=
 decide (s.gs.length≤8∧s.av.length≤8∧s.aA.length≤64∧s.done.length≤100000∧s.di.length≤100000∧s.cache.length=s.gs.length∧(∀ l∈s.cache,l.length≤1000)∧s.middle.length≤1000∧0≤s.fresh∧(∀ c∈s.av,0≤c.cap)
 ∧(∀ x∈s.gs,x.ops.length≤100000∧∀ o∈x.ops,o.cases.length≤1000)∧(∀ x∈s.gs,x.order.length≤1000∧x.aB.length≤1000∧x.aq.length≤1000∧x.au.length≤1000))
theorem zJ.fw {s:ah} (h:zJ s=true):Fw s:=by
 have h:=of_decide_eq_true h;exact ⟨h.1,h.2.1,h.2.2.1,h.2.2.2.1,h.2.2.2.2.1,h.2.2.2.2.2.1,h.2.2.2.2.2.2.1,h.2.2.2.2.2.2.2.1,h.2.2.2.2.2.2.2.2.1,h.2.2.2.2.2.2.2.2.2.1,h.2.2.2.2.2.2.2.2.2.2.1,h.2.2.2.2.2.2.2.2.2.2.2⟩
def Cg (s:ah):Bool :=
 zJ s && tn s && (List.range s.gs.length).all (fun g=>decide (0≤(aa s g).status∧(aa s g).status≤2)) && decide (0≤s.dx∧0≤s.bX∧0≤s.drawn∧s.drawn≤s.di.length)
  && Po.of s.dx.toNat s.bX.toNat s.fresh.toNat s.cache s.middle
theorem Cg.ok {s:ah} (h:Cg s=true):FI s:=by
 unfold Cg at h;simp only [Bool.and_eq_true] at h;obtain ⟨⟨⟨⟨h1,h2⟩,h3⟩,h4⟩,h5⟩:=h;have q:=h2;unfold tn at q;simp only [Bool.and_eq_true,decide_eq_true_eq,List.all_eq_true,List.mem_range] at q h3 h4;exact ⟨zJ.fw h1,tn.qs h2,h3,fun k hk=>(q.2 k hk).2.2.2.2.2.1,fun k hk=>(q.2 k hk).2.2.2.2.2.2,fun k hk=>⟨(q.2 k hk).2.2.2.1,(q.2 k hk).2.2.2.2.1⟩,h4.1,h4.2.1,h5,fun H hH=>Po.Vc h5 hH,h4.2.2.1,h4.2.2.2⟩
def Ci (s:ah) (g:Nat):Bool :=
 decide (g < s.gs.length∧0≤(aa s g).at_∧(ag s g).cases.length≤1000∧0≤(ag s g).ch∧(ag s g).ch≤1000∧s.av.length≤8∧0≤s.fresh∧((aa s g).place=4→aT s (ag s g).ch=true)
 ∧((aa s g).place=12∨(aa s g).place=16→aT s (ag s g).ch=true∧(cn s (ag s g).ch).lock=g)
 ∧((aa s g).place=15→g < s.cache.length∧0≤(aa s g).bh∧(aa s g).bh < s.aA.length)
 ∧((aa s g).place=17→(aa s g).au≠[]∧0≤(aa s g).au.headD 0∧((aa s g).au.headD 0).toNat < s.gs.length∧((aa s g).au.headD 0).toNat≠g∧(aa s g).au.tail.length≤1000))
theorem Ci.ok {s:ah} {g:Nat} (h:Ci s g=true):uO s g:=by
 have h:=of_decide_eq_true h;obtain ⟨a1,a2,a3,a4,a5,a6,a7,a8,a9,lM,nj⟩:=h;refine ⟨a1,a2,a3,⟨a4,a5⟩,a6,a7,a8,a9,lM,fun e=>?_⟩;obtain ⟨b1,b2,b3,b4,b5⟩:=nj e
 cases hw:(aa s g).au with
 | nil=>exact absurd hw b1
 | cons a l =>
  rw [hw] at b2 b3 b4 b5;simp only [List.headD_cons,List.tail_cons] at b2 b3 b4 b5;exact ⟨a.toNat,l,by rw [Int.toNat_of_nonneg b2],b3,b4,b5⟩
end Fl
end Go.Proofs.YtdjhhbpedllnhaaGreat
