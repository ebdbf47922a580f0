/-
  What the laws need, part H3.
  Conditions: none.
-/
import Derived.Test.YtofnbflkhgammaaGreatH1
import Derived.Test.YtofnbflkhgammaaGreatH2
set_option linter.unusedVariables false
set_option linter.unusedSimpArgs false
set_option linter.unnecessarySimpa false
set_option maxHeartbeats 2000000
namespace Go.Proofs.YtofnbflkhgammaaGreat
open Go.RowKit
namespace Po
theorem ND (f:Int):∀ (L:List Int) (H:List Bool),f≤H.length→(settle f H L).2=true→∀ j:Nat,(settle f H L).1.getD j false=(H.getD j false || decide ((j:Int)∈L))
 | [],H,_,_,j=>by simp [settle]
 | x :: r,H,hf,h,j=>by
  rw [vW] at h ⊢
  by_cases hl:live f H x=true
  ·rw [if_pos hl] at h ⊢;obtain ⟨h1,h2,h3⟩:=mU.1 hl;have hx:x.toNat < H.length:=by omega
   rw [ND f r _ (by simpa using hf) h j,lQ _ _ _ _ _ hx]
   by_cases e:x.toNat=j
   ·have ex:(j:Int)=x:=by omega
    rw [if_pos e];simp [ex]
   ·have ex:¬ (j:Int)=x:=by omega
    rw [if_neg e];simp [ex]
  ·rw [if_neg hl] at h;cases h
theorem Zi {n m f:Nat} {C:List (List Int)} {M:List Int} {H:List Bool} (h:of n m f C M=true) (hs:settle f (List.replicate n false) (C.flatten ++ M)=(H,true)):Inv n m ⟨C,M,f,H⟩:=by
 unfold of at h;simp only [Bool.and_eq_true,decide_eq_true_eq] at h;obtain ⟨⟨⟨⟨h1,h2⟩,h3⟩,h4⟩,h5⟩:=h;obtain ⟨a1,a2,a3,a4,a5,a6⟩:=I5 h1;have hf:(f:Int)≤((List.replicate n false).length:Int):=by simp;omega
 have NF:(settle f (List.replicate n false) (C.flatten ++ M)).2=true:=by rw [hs]
 obtain ⟨b1,b2,b3⟩:=(Nv f _ _ hf).1 NF;have wT:=ND f _ _ hf NF;rw [hs] at wT;have hlen:=Bx f (List.replicate n false) (C.flatten ++ M);rw [hs] at hlen;have GA:∀ a,dN ⟨C,M,f,H⟩ a=(C.flatten ++ M).count a:=fun a=>by
  unfold dN;rw [List.count_append,Nat.add_comm]
 have h9:f≤n:=by omega
 have sy:∀ a,(C.flatten ++ M).count a≤1:=fun a=>List.nodup_iff_count.1 b2 a
 refine ⟨by omega,by omega,by omega,by simpa using hlen,h9,fun a=>by rw [GA];exact sy a,fun a ha=>?_,fun x hx=>?_,fun c hc=>by have:=h4 c hc;omega⟩
 ·rw [GA] at ha;exact b1 a (List.count_pos_iff.1 ha)
 ·have:=wT x;rw [GA];have hr:(List.replicate n false).getD x false=false:=by
   rw [List.getD_eq_getElem?_getD,List.getElem?_replicate];split <;> rfl
  rw [hr,Bool.false_or] at this;rw [this];exact decide_eq_decide.2 List.count_pos_iff.symm
end Po
namespace Fl
open Sx
set_option maxRecDepth 100000
def tD (s:Sx.St):Bool :=
 decide (s.an.length≤8) && (List.range s.an.length).all fun k =>
  ((cn s ((k:Int) + 1)).recv ++ (cn s ((k:Int) + 1)).send).all (fun i=>decide (0≤i∧i < s.aB.length∧(su s i).ch=(k:Int) + 1∧((su s i).send=false→i∉(cn s ((k:Int) + 1)).send)∧((su s i).send=true→i∉(cn s ((k:Int) + 1)).recv)))
  && decide ((cn s ((k:Int) + 1)).recv.Nodup∧(cn s ((k:Int) + 1)).send.Nodup∧(cn s ((k:Int) + 1)).recv.length≤1000∧(cn s ((k:Int) + 1)).send.length≤1000∧((cn s ((k:Int) + 1)).lock=-1∨0≤(cn s ((k:Int) + 1)).lock)
  ∧0≤(cn s ((k:Int) + 1)).cap∧(cn s ((k:Int) + 1)).cap≤64∧(((cn s ((k:Int) + 1)).buf.length:Nat):Int)≤(cn s ((k:Int) + 1)).cap)
theorem tD.qs {s:Sx.St} (h:tD s=true):Qs s:=by
 unfold tD at h;simp only [Bool.and_eq_true,decide_eq_true_eq,List.all_eq_true,List.mem_range] at h;exact ⟨h.1,fun k hk i hi=>(h.2 k hk).1 i (List.mem_append.2 hi),fun k hk=>⟨(h.2 k hk).2.1,(h.2 k hk).2.2.1⟩⟩
def zH (s:Sx.St):Bool :=
 decide (s.gs.length≤8∧s.an.length≤8∧s.aB.length≤64∧s.done.length≤100000∧s.cL.length≤100000∧s.cache.length=s.gs.length∧(∀ l∈s.cache,l.length≤1000)∧s.middle.length≤1000∧0≤s.fresh∧(∀ c∈s.an,0≤c.cap)
 ∧(∀ x∈s.gs,x.ops.length≤100000∧∀ o∈x.ops,o.cases.length≤1000)∧(∀ x∈s.gs,x.order.length≤1000∧x.aC.length≤1000∧x.ak.length≤1000∧x.ah.length≤1000))
theorem zH.fw {s:Sx.St} (h:zH s=true):Fw s:=by
 have h:=of_decide_eq_true h;exact ⟨h.1,h.2.1,h.2.2.1,h.2.2.2.1,h.2.2.2.2.1,h.2.2.2.2.2.1,h.2.2.2.2.2.2.1,h.2.2.2.2.2.2.2.1,h.2.2.2.2.2.2.2.2.1,h.2.2.2.2.2.2.2.2.2.1,h.2.2.2.2.2.2.2.2.2.2.1,h.2.2.2.2.2.2.2.2.2.2.2⟩
def Cp (s:Sx.St):Bool :=
 zH s && tD s && (List.range s.gs.length).all (fun g=>decide (0≤(Sx.gr s g).status∧(Sx.gr s g).status≤2)) && decide (0≤s.dB∧0≤s.bN∧0≤s.drawn∧s.drawn≤s.cL.length)
  && Po.of s.dB.toNat s.bN.toNat s.fresh.toNat s.cache s.middle
theorem Cp.ok {s:Sx.St} (h:Cp s=true):Gn s:=by
 unfold Cp at h;simp only [Bool.and_eq_true] at h;obtain ⟨⟨⟨⟨h1,h2⟩,h3⟩,h4⟩,h5⟩:=h;have q:=h2;unfold tD at q;simp only [Bool.and_eq_true,decide_eq_true_eq,List.all_eq_true,List.mem_range] at q h3 h4;exact ⟨zH.fw h1,tD.qs h2,h3,fun k hk=>(q.2 k hk).2.2.2.2.2.1,fun k hk=>(q.2 k hk).2.2.2.2.2.2,fun k hk=>⟨(q.2 k hk).2.2.2.1,(q.2 k hk).2.2.2.2.1⟩,h4.1,h4.2.1,h5,fun H hH=>Po.Zi h5 hH,h4.2.2.1,h4.2.2.2⟩
def Cq (s:Sx.St) (g:Nat):Bool :=
 decide (g < s.gs.length∧0≤(Sx.gr s g).at_∧(Sx.op s g).cases.length≤1000∧0≤(Sx.op s g).ch∧(Sx.op s g).ch≤1000∧s.an.length≤8∧0≤s.fresh∧((Sx.gr s g).place=4→Sx.made s (Sx.op s g).ch=true)
 ∧((Sx.gr s g).place=12∨(Sx.gr s g).place=16→Sx.made s (Sx.op s g).ch=true∧(cn s (Sx.op s g).ch).lock=g)
 ∧((Sx.gr s g).place=15→g < s.cache.length∧0≤(Sx.gr s g).aK∧(Sx.gr s g).aK < s.aB.length)
 ∧((Sx.gr s g).place=17→(Sx.gr s g).ah≠[]∧0≤(Sx.gr s g).ah.headD 0∧((Sx.gr s g).ah.headD 0).toNat < s.gs.length∧((Sx.gr s g).ah.headD 0).toNat≠g∧(Sx.gr s g).ah.tail.length≤1000))
theorem Cq.ok {s:Sx.St} {g:Nat} (h:Cq s g=true):Ck s g:=by
 have h:=of_decide_eq_true h;obtain ⟨a1,a2,a3,a4,a5,a6,a7,a8,a9,iy,jH⟩:=h;refine ⟨a1,a2,a3,⟨a4,a5⟩,a6,a7,a8,a9,iy,fun e=>?_⟩;obtain ⟨b1,b2,b3,b4,b5⟩:=jH e
 cases hw:(Sx.gr s g).ah with
 | nil=>exact absurd hw b1
 | cons a l =>
  rw [hw] at b2 b3 b4 b5;simp only [List.headD_cons,List.tail_cons] at b2 b3 b4 b5;exact ⟨a.toNat,l,by rw [Int.toNat_of_nonneg b2],b3,b4,b5⟩
def wI (s:Sx.St) (g:Nat) (i:Int):Bool:=decide (0≤i∧i < s.aB.length∧0≤(su s i).g∧(su s i).g.toNat < s.gs.length∧(su s i).g.toNat≠g)
theorem wI.ok {s:Sx.St} {g:Nat} {i:Int} (h:wI s g i=true):∃ o,rS s g o i:=by
 have h:=of_decide_eq_true h;exact ⟨(su s i).g.toNat,h.1,h.2.1,by rw [Int.toNat_of_nonneg h.2.2.1],h.2.2.2.1,h.2.2.2.2⟩
def zI (s:Sx.St) (g:Nat):Bool :=
 Cq s g && tD s && decide ((Sx.gr s g).ah.length≤1000∧Sx.made s (Sx.op s g).ch=true) && ((cn s (Sx.op s g).ch).recv ++ (cn s (Sx.op s g).ch).send).all (fun i=>wI s g i && decide (-1≤(su s i).cs)) && (decide ((Sx.gr s g).place≠23) || wI s g (Sx.gr s g).hold)
theorem zI.ok {s:Sx.St} {g:Nat} (h:zI s g=true):Gy s g:=by
 unfold zI at h;simp only [Bool.and_eq_true,decide_eq_true_eq,List.all_eq_true,Bool.or_eq_true] at h;obtain ⟨⟨⟨⟨h1,h2⟩,h3⟩,h4⟩,h5⟩:=h;exact ⟨Cq.ok h1,tD.qs h2,h3.1,fun _ _=>h3.2,fun _ _ i hi=>⟨wI.ok (h4 i (List.mem_append.2 hi)).1,(h4 i (List.mem_append.2 hi)).2⟩,fun _ e=>wI.ok (h5.resolve_left fun n=>n e)⟩
end Fl
end Go.Proofs.YtofnbflkhgammaaGreat
