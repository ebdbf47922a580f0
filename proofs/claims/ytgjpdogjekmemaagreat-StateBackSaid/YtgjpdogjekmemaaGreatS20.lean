/-
  What the laws need, part S20.
  Conditions: none.
-/
import Derived.Test.YtgjpdogjekmemaaGreatS5
import Derived.Test.YtgjpdogjekmemaaGreatS17
import Derived.Test.YtgjpdogjekmemaaGreatS19
set_option linter.unusedVariables false
set_option linter.unusedSimpArgs false
set_option linter.unnecessarySimpa false
set_option maxHeartbeats 2000000
namespace Go.Proofs.YtgjpdogjekmemaaGreat
open Go.RowKit
namespace Fl
open Sx Go.Proofs.Tryz
open Sx (MInv)
variable {s:ah} {g:Nat}
theorem FV (s:ah) (ch:Int):(∃ c,1≤c∧c≤(s.ax.length:Int)∧cn s ch=cn s c)∨cn s ch=rN:=by
 by_cases h:(ch - 1).toNat < s.ax.length
 ·refine .inl ⟨(ch - 1).toNat + 1,by omega,by omega,?_⟩;unfold cn;rw [show (((ch - 1).toNat:Int) + 1 - 1).toNat=(ch - 1).toNat by omega]
 ·right
  unfold cn;rw [List.getD_eq_getElem?_getD,List.getElem?_eq_none (by omega)];rfl
theorem xI {l:List Int} {n:Nat} (h1:l.Nodup) (h2:∀ a∈l,0≤a∧a < (n:Int)):l.length≤n :=
 Qu.y8 (fun a=>List.nodup_iff_count.1 h1 a) h2
theorem AJ (h:MInv s) (ch:Int):(cn s ch).recv.length≤64∧(cn s ch).send.length≤64∧(cn s ch).buf.length≤4:=by
 rcases FV s ch with ⟨c,c0,c1,e⟩ | e
 ·rw [e];have nd:=Sx.Inv.nd h.v c c0 c1;have hc:=h.fH c0 c1;have hl:=h.jT;have r:=xI (n:=s.aD.length) nd.1 (fun a ha=>by have:=Sx.Inv.q h.v c c0 c1 a (.inl ha);omega);have t:=xI (n:=s.aD.length) nd.2 (fun a ha=>by have:=Sx.Inv.q h.v c c0 c1 a (.inr ha);omega);omega
 ·rw [e];simp [rN]
theorem sP (h:MInv s) {ch i:Int} (hi:i∈(cn s ch).recv∨i∈(cn s ch).send):cV s i:=by
 rcases FV s ch with ⟨c,c0,c1,e⟩ | e
 ·rw [e] at hi;have:=Sx.Inv.q h.v c c0 c1 i hi;exact ⟨this.1,this.2.1,this.2.2.2.2.2.1,this.2.2.2.2.2.2.1⟩
 ·rw [e] at hi;simp [rN] at hi
theorem OT (h:MInv s) (k:Nat):(∃ g,g < s.gs.length∧aa s k=aa s g)∨aa s k=clean [] 0:=by
 by_cases c:k < s.gs.length
 ·exact .inl ⟨k,c,rfl⟩
 ·right
  unfold aa;rw [List.getD_eq_getElem?_getD,List.getElem?_eq_none (by omega)];rfl
theorem FX (h:MInv s):Few s:=by
 have h1:=h.n8;have h2:=h.c8;have h3:=h.jT;exact ⟨by omega,by omega,by omega⟩
theorem AK (h:MInv s):lE s≤128:=by
 have key:∀ n:Nat,n≤s.gs.length→((List.range n).map (fun g=>(aa s g).at_)).sum≤16 * n:=by
  intro n
  induction n with
  | zero=>intro _;simp
  | succ n ih =>
   intro hn;have L:=h.loc (g:=n) (by omega);have a1:=L.a1;have op:=L.lB;have:=ih (by omega);rw [List.range_succ,List.map_append,List.sum_append];simp only [List.map_cons,List.map_nil,List.sum_cons,List.sum_nil];omega
 have:=key s.gs.length (Nat.le_refl _);have:=h.n8;unfold lE;omega
theorem xJ (h:MInv s):lQ s:=by
 obtain ⟨H,I⟩:=h.po;have ln:=I.lens;have fl:=I.fl;have s1:=I.s1;have c1:=h.c1;have pH:=h.pH;have f0:=h.f0;have n8:=h.n8;have ca:=h.ca;simp only at ln fl;refine ⟨by omega,?_,by omega,by rw [List.length_append];omega,by omega,by omega⟩;intro k
 by_cases c:k < s.cache.length
 ·have:=I.oY (s.cache.getD k []) (by rw [List.getD_eq_getElem?_getD,List.getElem?_eq_getElem c];exact List.getElem_mem c);omega
 ·rw [List.getD_eq_getElem?_getD,List.getElem?_eq_none (by omega)];simp
theorem p6 (h:Sx.Good s):Fit s:=by
 have h':=h.toMInv;have q:=AJ h';have p:=xJ h';have n8:=h.n8;refine ⟨FX h',?_,fun ch=>by have:=q ch;omega,fun ch=>by have:=q ch;omega,fun ch=>by have:=q ch;omega,fun k=>by have:=(h.z k).od;omega,fun k=>by have:=(h.z k).sg;omega,?_,p.c1,p.c2,by have:=p.c3;have:=p.c4;obtain ⟨H,I⟩:=h'.po;have ln:=I.lens;simp only at ln;omega⟩
 ·intro k;rcases OT h' k with ⟨g,hg,e⟩ | e
  ·rw [e];have L:=h'.loc hg;have:=xI (n:=s.gs.length) L.w4 (fun a ha=>L.w3 a ha);omega
  ·rw [e];simp [clean]
 ·have:=h'.dn;have:=AK h';omega
theorem vJ (h:MInv s) (hg:g < s.gs.length) (e:(aa s g).place≠0):bn (ag s g).kind (aa s g).place:=((h.loc hg).pl.resolve_left e).2
theorem AL (h:MInv s) (hg:g < s.gs.length) (e:(aa s g).place=4∨(aa s g).place=12∨(aa s g).place=16):aM s (ag s g).ch=true:=by
 have pl:=vJ h hg (by omega);have k:2≤(ag s g).kind∧(ag s g).kind≤6:=by unfold bn at pl;omega
 exact nt.2 (h.oE hg (by omega) k)
theorem xK (h:Sx.Good s) (hg:g < s.gs.length):sJ s g:=by
 have h':=h.toMInv;have L:=h'.loc hg;refine ⟨hg,L.a0,FX h',fun e=>AL h' hg (.inl e),fun e=>AL h' hg (.inr (.inl e)),fun e=>?_,fun e=>AL h' hg (.inr (.inr e)),fun e=>?_⟩
 ·have pl:=vJ h' hg (by omega);have k:Sx.SR (aa s g):=by unfold bn at pl;unfold Sx.SR;show (ag s g).kind=2∨(ag s g).kind=3;omega
  have:=L.mi k (by omega) (by omega);exact ⟨xJ h',by rw [h.ca];exact hg,this.1,this.2⟩
 ·cases w:(aa s g).an with
  | nil=>exact absurd w (L.w2 e)
  | cons a l =>
   have r:=L.w3 a (by rw [w];simp);have:=(p6 h).wk g;rw [w] at this;exact ⟨a,l,rfl,r.1,r.2,by simp at this;omega⟩
theorem qV (h:MInv s) (hg:g < s.gs.length) (e:(aa s g).place=7∨(aa s g).place=8∨(aa s g).place=23∨(aa s g).place=26∨(aa s g).place=27):cV s (aa s g).hold:=by
 have:=(h.loc hg).hd e;have t:=Sx.Inv.su h.v _ this.1 this.2;exact ⟨this.1,this.2,t.1,t.2.1⟩
theorem AM (h:MInv s) (hg:g < s.gs.length):lQ s∧g < s.cache.length∧((bw s g).2.2=true→0≤(bw s g).2.1∧(bw s g).2.1 < s.aD.length) :=
 ⟨xJ h,by rw [h.ca];exact hg,fun ok=>⟨(wL h hg ok).i0,(wL h hg ok).i1⟩⟩
theorem AN (h:MInv s) (hg:g < s.gs.length) (st:(aa s g).status=0) (e:(aa s g).place=14):0≤(aa s g).param∧(aa s g).param < s.aD.length:=by
 have L:=h.loc hg;exact ⟨L.p1 e st,L.p0.2⟩
theorem OU (h:Sx.Good s) (hg:g < s.gs.length) (st:(aa s g).status=0):kU s g:=by
 have h':=h.toMInv;exact ⟨xK h hg,p6 h,fun _ i l e=>sP h' (.inl (by rw [e];simp)),fun e=>qV h' hg (by omega),fun e=>qV h' hg (by omega),fun _=>AM h' hg,fun e=>AN h' hg st e⟩
theorem OV (h:Sx.Good s) (hg:g < s.gs.length) (st:(aa s g).status=0):kq s g:=by
 have h':=h.toMInv;exact ⟨xK h hg,p6 h,fun _ i l e=>sP h' (.inr (by rw [e];simp)),fun e=>qV h' hg (by omega),fun e=>qV h' hg (by omega),fun _=>AM h' hg,fun e=>AN h' hg st e⟩
theorem OX (h:Sx.Good s) (hg:g < s.gs.length):sM s g:=by
 have h':=h.toMInv;exact ⟨xK h hg,p6 h,fun _=>⟨fun i l e=>sP h' (.inl (by rw [e];simp)),fun i l e=>sP h' (.inr (by rw [e];simp))⟩,fun e=>qV h' hg (by omega)⟩
theorem OY (h:Sx.Good s) (hg:g < s.gs.length):FU s g:=by
 have h':=h.toMInv;have L:=h'.loc hg;have d0:=h.oD;have d1:=h.pI;have d5:=h.d5;have a1:=L.a1;have o1:=L.lB;exact ⟨⟨hg,p6 h,L.a0,⟨d0,by omega⟩,h.du,by have:=w7 h.z (g:=g);omega⟩,by omega⟩
theorem OZ (h:MInv s) (hg:g < s.gs.length) (e:24≤(aa s g).place∧(aa s g).place≤34):(ag s g).kind=9∧Sx.ff s.ax.length s.aD.length (aa s g):=by
 have pl:=vJ h hg (by omega);have k:(ag s g).kind=9:=by unfold bn at pl;omega
 exact ⟨k,h.iN hg k (by unfold cZ;omega)⟩
theorem O0 (h:Sx.Good s) (hg:g < s.gs.length) (st:(aa s g).status=0):jo s g:=by
 have h':=h.toMInv;have L:=h'.loc hg;have z:=h.z g;have sl:=fun e=>OZ h' hg e
 refine ⟨xK h hg,p6 h,fun e=>?_,fun e=>?_,fun e=>?_,fun e=>qV h' hg (by omega),fun _=>AM h' hg,fun e=>?_,fun e=>?_,fun e=>AN h' hg st e,fun e=>?_,fun e=>?_⟩
 ·have b:=(sl (by omega)).2;have k1:=b.k1 e;have lk:=z.lk;have:=b.l1 _ (Sx.pe b.k0 k1);exact ⟨b.k0,k1,by omega,nt.2 this⟩
 ·have b:=(sl (by omega)).2;have hn:=b.hand (by omega);have hc:=w7 h.z (g:=g);refine ⟨hn.2.1,hn.2.2.1,⟨hg,p6 h,b.k0,b.k2 (by omega),nt.2 hn.2.2.2.2,fun a l e=>sP h' (.inl (by rw [e];simp)),fun a l e=>sP h' (.inr (by rw [e];simp))⟩,by omega⟩
 ·have b:=(sl (by omega)).2;exact ⟨qV h' hg (by omega),b.k0,b.k2 (by omega)⟩
 ·have b:=(sl (by omega)).2;exact b.s2 (by omega)
 ·have b:=(sl (by omega)).2;have k3:=b.k3 e;have lk:=z.lk;have:=b.l1 _ (Sx.pe (l:=(aa s g).aC) (k:=(aa s g).k - 1) (by omega) (by omega));exact ⟨k3.1,k3.2,by omega,nt.2 this⟩
 ·have bb:=sl (by omega);have b:=bb.2;have hn:=b.hand (by omega);have hl:=b.s2 (by omega);have il:aB (aa s g).order (aa s g).k < ((aa s g).au.length:Int):=by rw [hl];exact hn.2.2.1
  have v0:=b.s6 (by omega) _ hn.1;have v1:=b.s4 _ hn.2.1 il;exact ⟨b.k0,b.k2 (by omega),hn.2.1,il,v0,v1.2.1⟩
 ·have bb:=sl (by omega);have b:=bb.2;have hn:=b.hand (by omega);have hl:=b.s2 (by omega);have il:aB (aa s g).order (aa s g).k < ((aa s g).au.length:Int):=by rw [hl];exact hn.2.2.1
  have v1:=b.s4 _ hn.2.1 il;exact ⟨b.k0,b.k2 (by omega),hn.2.1,il,by rw [h.ca];exact hg,xJ h',v1.2.1⟩
end Fl
end Go.Proofs.YtgjpdogjekmemaaGreat
