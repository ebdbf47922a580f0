/-
  What the laws need, part B20.
  Conditions: none.
-/
import Derived.Test.YtgjpdogjekmemaaGreatB13
import Derived.Test.YtgjpdogjekmemaaGreatB17
import Derived.Test.YtgjpdogjekmemaaGreatB19
set_option linter.unusedVariables false
set_option linter.unusedSimpArgs false
set_option linter.unnecessarySimpa false
set_option maxHeartbeats 2000000
namespace Go.Proofs.YtgjpdogjekmemaaGreat
open Go.RowKit
namespace Fl
open Sx Go.Proofs.Tryz
open Sx (MInv)
variable {s:ai} {g:Nat}
theorem Dw (s:ai) (ch:Int):(∃ c,1≤c∧c≤(s.aK.length:Int)∧cn s ch=cn s c)∨cn s ch=uF:=by
 by_cases h:(ch - 1).toNat < s.aK.length
 ·refine .inl ⟨(ch - 1).toNat + 1,by omega,by omega,?_⟩;unfold cn;rw [show (((ch - 1).toNat:Int) + 1 - 1).toNat=(ch - 1).toNat by omega]
 ·right
  unfold cn;rw [List.getD_eq_getElem?_getD,List.getElem?_eq_none (by omega)];rfl
theorem za {l:List Int} {n:Nat} (h1:l.Nodup) (h2:∀ a∈l,0≤a∧a < (n:Int)):l.length≤n :=
 Qu.Hy (fun a=>List.nodup_iff_count.1 h1 a) h2
theorem Lw (h:MInv s) (ch:Int):(cn s ch).recv.length≤64∧(cn s ch).send.length≤64∧(cn s ch).buf.length≤4:=by
 rcases Dw s ch with ⟨c,c0,c1,e⟩ | e
 ·rw [e];have nd:=Sx.Inv.nd h.v c c0 c1;have hc:=h.fA c0 c1;have hl:=h.mT;have r:=za (n:=s.aL.length) nd.1 (fun a ha=>by have:=Sx.Inv.q h.v c c0 c1 a (.inl ha);omega);have t:=za (n:=s.aL.length) nd.2 (fun a ha=>by have:=Sx.Inv.q h.v c c0 c1 a (.inr ha);omega);omega
 ·rw [e];simp [uF]
theorem qY (h:MInv s) {ch i:Int} (hi:i∈(cn s ch).recv∨i∈(cn s ch).send):cP s i:=by
 rcases Dw s ch with ⟨c,c0,c1,e⟩ | e
 ·rw [e] at hi;have:=Sx.Inv.q h.v c c0 c1 i hi;exact ⟨this.1,this.2.1,this.2.2.2.2.2.1,this.2.2.2.2.2.2.1⟩
 ·rw [e] at hi;simp [uF] at hi
theorem Lx (h:MInv s) (k:Nat):(∃ g,g < s.gs.length∧aa s k=aa s g)∨aa s k=clean [] 0:=by
 by_cases c:k < s.gs.length
 ·exact .inl ⟨k,c,rfl⟩
 ·right
  unfold aa;rw [List.getD_eq_getElem?_getD,List.getElem?_eq_none (by omega)];rfl
theorem Dx (h:MInv s):Few s:=by
 have h1:=h.n8;have h2:=h.c8;have h3:=h.mT;exact ⟨by omega,by omega,by omega⟩
theorem Dy (h:MInv s):kE s≤128:=by
 have key:∀ n:Nat,n≤s.gs.length→((List.range n).map (fun g=>(aa s g).at_)).sum≤16 * n:=by
  intro n
  induction n with
  | zero=>intro _;simp
  | succ n ih =>
   intro hn;have L:=h.loc (g:=n) (by omega);have a1:=L.a1;have op:=L.kS;have:=ih (by omega);rw [List.range_succ,List.map_append,List.sum_append];simp only [List.map_cons,List.map_nil,List.sum_cons,List.sum_nil];omega
 have:=key s.gs.length (Nat.le_refl _);have:=h.n8;unfold kE;omega
theorem vY (h:MInv s):kr s:=by
 obtain ⟨H,I⟩:=h.po;have ln:=I.lens;have fl:=I.fl;have s1:=I.s1;have c1:=h.c1;have oq:=h.oq;have f0:=h.f0;have n8:=h.n8;have ca:=h.ca;simp only at ln fl;refine ⟨by omega,?_,by omega,by rw [List.length_append];omega,by omega,by omega⟩;intro k
 by_cases c:k < s.cache.length
 ·have:=I.qa (s.cache.getD k []) (by rw [List.getD_eq_getElem?_getD,List.getElem?_eq_getElem c];exact List.getElem_mem c);omega
 ·rw [List.getD_eq_getElem?_getD,List.getElem?_eq_none (by omega)];simp
theorem pF (h:Sx.Good s):Fit s:=by
 have h':=h.toMInv;have q:=Lw h';have p:=vY h';have n8:=h.n8;refine ⟨Dx h',?_,fun ch=>by have:=q ch;omega,fun ch=>by have:=q ch;omega,fun ch=>by have:=q ch;omega,fun k=>by have:=(h.z k).od;omega,fun k=>by have:=(h.z k).sg;omega,?_,p.c1,p.c2,by have:=p.c3;have:=p.c4;obtain ⟨H,I⟩:=h'.po;have ln:=I.lens;simp only at ln;omega⟩
 ·intro k;rcases Lx h' k with ⟨g,hg,e⟩ | e
  ·rw [e];have L:=h'.loc hg;have:=za (n:=s.gs.length) L.w4 (fun a ha=>L.w3 a ha);omega
  ·rw [e];simp [clean]
 ·have:=h'.dn;have:=Dy h';omega
theorem ud (h:MInv s) (hg:g < s.gs.length) (e:(aa s g).place≠0):bp (ag s g).kind (aa s g).place:=((h.loc hg).pl.resolve_left e).2
theorem zb (h:MInv s) (hg:g < s.gs.length) (e:(aa s g).place=4∨(aa s g).place=12∨(aa s g).place=16):aR s (ag s g).ch=true:=by
 have pl:=ud h hg (by omega);have k:2≤(ag s g).kind∧(ag s g).kind≤6:=by unfold bp at pl;omega
 exact l5.2 (h.mV hg (by omega) k)
theorem vZ (h:Sx.Good s) (hg:g < s.gs.length):qw s g:=by
 have h':=h.toMInv;have L:=h'.loc hg;refine ⟨hg,L.a0,Dx h',fun e=>zb h' hg (.inl e),fun e=>zb h' hg (.inr (.inl e)),fun e=>?_,fun e=>zb h' hg (.inr (.inr e)),fun e=>?_⟩
 ·have pl:=ud h' hg (by omega);have k:Sx.SR (aa s g):=by unfold bp at pl;unfold Sx.SR;show (ag s g).kind=2∨(ag s g).kind=3;omega
  have:=L.mi k (by omega) (by omega);exact ⟨vY h',by rw [h.ca];exact hg,this.1,this.2⟩
 ·cases w:(aa s g).an with
  | nil=>exact absurd w (L.w2 e)
  | cons a l =>
   have r:=L.w3 a (by rw [w];simp);have:=(pF h).wk g;rw [w] at this;exact ⟨a,l,rfl,r.1,r.2,by simp at this;omega⟩
theorem pG (h:MInv s) (hg:g < s.gs.length) (e:(aa s g).place=7∨(aa s g).place=8∨(aa s g).place=23∨(aa s g).place=26∨(aa s g).place=27):cP s (aa s g).hold:=by
 have:=(h.loc hg).hd e;have t:=Sx.Inv.su h.v _ this.1 this.2;exact ⟨this.1,this.2,t.1,t.2.1⟩
theorem zc (h:MInv s) (hg:g < s.gs.length):kr s∧g < s.cache.length∧((bw s g).2.2=true→0≤(bw s g).2.1∧(bw s g).2.1 < s.aL.length) :=
 ⟨vY h,by rw [h.ca];exact hg,fun ok=>⟨(vl h hg ok).i0,(vl h hg ok).i1⟩⟩
theorem ze (h:MInv s) (hg:g < s.gs.length) (st:(aa s g).status=0) (e:(aa s g).place=14):0≤(aa s g).param∧(aa s g).param < s.aL.length:=by
 have L:=h.loc hg;exact ⟨L.p1 e st,L.p0.2⟩
theorem Ly (h:Sx.Good s) (hg:g < s.gs.length) (st:(aa s g).status=0):jS s g:=by
 have h':=h.toMInv;exact ⟨vZ h hg,pF h,fun _ i l e=>qY h' (.inl (by rw [e];simp)),fun e=>pG h' hg (by omega),fun e=>pG h' hg (by omega),fun _=>zc h' hg,fun e=>ze h' hg st e⟩
theorem Lz (h:Sx.Good s) (hg:g < s.gs.length) (st:(aa s g).status=0):jz s g:=by
 have h':=h.toMInv;exact ⟨vZ h hg,pF h,fun _ i l e=>qY h' (.inr (by rw [e];simp)),fun e=>pG h' hg (by omega),fun e=>pG h' hg (by omega),fun _=>zc h' hg,fun e=>ze h' hg st e⟩
theorem LA (h:Sx.Good s) (hg:g < s.gs.length):qV s g:=by
 have h':=h.toMInv;exact ⟨vZ h hg,pF h,fun _=>⟨fun i l e=>qY h' (.inl (by rw [e];simp)),fun i l e=>qY h' (.inr (by rw [e];simp))⟩,fun e=>pG h' hg (by omega)⟩
theorem LC (h:Sx.Good s) (hg:g < s.gs.length):Dv s g:=by
 have h':=h.toMInv;have L:=h'.loc hg;have d0:=h.ot;have d1:=h.oX;have d5:=h.d5;have a1:=L.a1;have o1:=L.kS;exact ⟨⟨hg,pF h,L.a0,⟨d0,by omega⟩,h.du,by have:=vJ h.z (g:=g);omega⟩,by omega⟩
theorem LD (h:MInv s) (hg:g < s.gs.length) (e:24≤(aa s g).place∧(aa s g).place≤34):(ag s g).kind=9∧Sx.eN s.aK.length s.aL.length (aa s g):=by
 have pl:=ud h hg (by omega);have k:(ag s g).kind=9:=by unfold bp at pl;omega
 exact ⟨k,h.ic hg k (by unfold cU;omega)⟩
theorem LF (h:Sx.Good s) (hg:g < s.gs.length) (st:(aa s g).status=0):iG s g:=by
 have h':=h.toMInv;have L:=h'.loc hg;have z:=h.z g;have sl:=fun e=>LD h' hg e
 refine ⟨vZ h hg,pF h,fun e=>?_,fun e=>?_,fun e=>?_,fun e=>pG h' hg (by omega),fun _=>zc h' hg,fun e=>?_,fun e=>?_,fun e=>ze h' hg st e,fun e=>?_,fun e=>?_⟩
 ·have b:=(sl (by omega)).2;have k1:=b.k1 e;have lk:=z.lk;have:=b.l1 _ (Sx.nF b.k0 k1);exact ⟨b.k0,k1,by omega,l5.2 this⟩
 ·have b:=(sl (by omega)).2;have hn:=b.hand (by omega);have hc:=vJ h.z (g:=g);refine ⟨hn.2.1,hn.2.2.1,⟨hg,pF h,b.k0,b.k2 (by omega),l5.2 hn.2.2.2.2,fun a l e=>qY h' (.inl (by rw [e];simp)),fun a l e=>qY h' (.inr (by rw [e];simp))⟩,by omega⟩
 ·have b:=(sl (by omega)).2;exact ⟨pG h' hg (by omega),b.k0,b.k2 (by omega)⟩
 ·have b:=(sl (by omega)).2;exact b.s2 (by omega)
 ·have b:=(sl (by omega)).2;have k3:=b.k3 e;have lk:=z.lk;have:=b.l1 _ (Sx.nF (l:=(aa s g).aE) (k:=(aa s g).k - 1) (by omega) (by omega));exact ⟨k3.1,k3.2,by omega,l5.2 this⟩
 ·have bb:=sl (by omega);have b:=bb.2;have hn:=b.hand (by omega);have hl:=b.s2 (by omega);have il:aB (aa s g).order (aa s g).k < ((aa s g).aq.length:Int):=by rw [hl];exact hn.2.2.1
  have v0:=b.s6 (by omega) _ hn.1;have v1:=b.s4 _ hn.2.1 il;exact ⟨b.k0,b.k2 (by omega),hn.2.1,il,v0,v1.2.1⟩
 ·have bb:=sl (by omega);have b:=bb.2;have hn:=b.hand (by omega);have hl:=b.s2 (by omega);have il:aB (aa s g).order (aa s g).k < ((aa s g).aq.length:Int):=by rw [hl];exact hn.2.2.1
  have v1:=b.s4 _ hn.2.1 il;exact ⟨b.k0,b.k2 (by omega),hn.2.1,il,by rw [h.ca];exact hg,vY h',v1.2.1⟩
end Fl
end Go.Proofs.YtgjpdogjekmemaaGreat
