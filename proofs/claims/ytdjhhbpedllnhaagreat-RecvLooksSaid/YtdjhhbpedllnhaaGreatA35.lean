/-
  What the laws need, part A35.
  Conditions: none.
-/
import Derived.Test.YtdjhhbpedllnhaaGreatA22
import Derived.Test.YtdjhhbpedllnhaaGreatA32
import Derived.Test.YtdjhhbpedllnhaaGreatA34
set_option linter.unusedVariables false
set_option linter.unusedSimpArgs false
set_option linter.unnecessarySimpa false
set_option maxHeartbeats 2000000
namespace Go.Proofs.YtdjhhbpedllnhaaGreat
open Go.RowKit
namespace Fl
open Sx Go.Proofs.Tryz
open Sx (MInv)
variable {s:ah} {g:Nat}
theorem G6 (s:ah) (ch:Int):(∃ c,1≤c∧c≤(s.au.length:Int)∧cn s ch=cn s c)∨cn s ch=rP:=by
 by_cases h:(ch - 1).toNat < s.au.length
 ·refine .inl ⟨(ch - 1).toNat + 1,by omega,by omega,?_⟩;unfold cn;rw [show (((ch - 1).toNat:Int) + 1 - 1).toNat=(ch - 1).toNat by omega]
 ·right
  unfold cn;rw [List.getD_eq_getElem?_getD,List.getElem?_eq_none (by omega)];rfl
theorem uo {l:List Int} {n:Nat} (h1:l.Nodup) (h2:∀ a∈l,0≤a∧a < (n:Int)):l.length≤n :=
 Qu.Bx (fun a=>List.nodup_iff_count.1 h1 a) h2
theorem Dl (h:MInv s) (ch:Int):(cn s ch).recv.length≤64∧(cn s ch).send.length≤64∧(cn s ch).buf.length≤4:=by
 rcases G6 s ch with ⟨c,c0,c1,e⟩ | e
 ·rw [e];have nd:=Sx.Inv.nd h.v c c0 c1;have hc:=h.g9 c0 c1;have hl:=h.mw;have r:=uo (n:=s.aB.length) nd.1 (fun a ha=>by have:=Sx.Inv.q h.v c c0 c1 a (.inl ha);omega);have t:=uo (n:=s.aB.length) nd.2 (fun a ha=>by have:=Sx.Inv.q h.v c c0 c1 a (.inr ha);omega);omega
 ·rw [e];simp [rP]
theorem xK (h:MInv s) {ch i:Int} (hi:i∈(cn s ch).recv∨i∈(cn s ch).send):dL s i:=by
 rcases G6 s ch with ⟨c,c0,c1,e⟩ | e
 ·rw [e] at hi;have:=Sx.Inv.q h.v c c0 c1 i hi;exact ⟨this.1,this.2.1,this.2.2.2.2.2.1,this.2.2.2.2.2.2.1⟩
 ·rw [e] at hi;simp [rP] at hi
theorem YV (h:MInv s) (k:Nat):(∃ g,g < s.gs.length∧aa s k=aa s g)∨aa s k=clean [] 0:=by
 by_cases c:k < s.gs.length
 ·exact .inl ⟨k,c,rfl⟩
 ·right
  unfold aa;rw [List.getD_eq_getElem?_getD,List.getElem?_eq_none (by omega)];rfl
theorem N1 (h:MInv s):Few s:=by
 have h1:=h.n8;have h2:=h.c8;have h3:=h.mw;exact ⟨by omega,by omega,by omega⟩
theorem N2 (h:MInv s):oJ s≤128:=by
 have key:∀ n:Nat,n≤s.gs.length→((List.range n).map (fun g=>(aa s g).at_)).sum≤16 * n:=by
  intro n
  induction n with
  | zero=>intro _;simp
  | succ n ih =>
   intro hn;have L:=h.loc (g:=n) (by omega);have a1:=L.a1;have op:=L.oI;have:=ih (by omega);rw [List.range_succ,List.map_append,List.sum_append];simp only [List.map_cons,List.map_nil,List.sum_cons,List.sum_nil];omega
 have:=key s.gs.length (Nat.le_refl _);have:=h.n8;unfold oJ;omega
theorem Dm (h:MInv s):oN s:=by
 obtain ⟨H,I⟩:=h.po;have ln:=I.lens;have fl:=I.fl;have s1:=I.s1;have c1:=h.c1;have tV:=h.tV;have f0:=h.f0;have n8:=h.n8;have ca:=h.ca;simp only at ln fl;refine ⟨by omega,?_,by omega,by rw [List.length_append];omega,by omega,by omega⟩;intro k
 by_cases c:k < s.cache.length
 ·have:=I.qv (s.cache.getD k []) (by rw [List.getD_eq_getElem?_getD,List.getElem?_eq_getElem c];exact List.getElem_mem c);omega
 ·rw [List.getD_eq_getElem?_getD,List.getElem?_eq_none (by omega)];simp
theorem uq (h:Sx.Good s):Fit s:=by
 have h':=h.toMInv;have q:=Dl h';have p:=Dm h';have n8:=h.n8;refine ⟨N1 h',?_,fun ch=>by have:=q ch;omega,fun ch=>by have:=q ch;omega,fun ch=>by have:=q ch;omega,fun k=>by have:=(h.z k).od;omega,fun k=>by have:=(h.z k).sg;omega,?_,p.c1,p.c2,by have:=p.c3;have:=p.c4;obtain ⟨H,I⟩:=h'.po;have ln:=I.lens;simp only at ln;omega⟩
 ·intro k;rcases YV h' k with ⟨g,hg,e⟩ | e
  ·rw [e];have L:=h'.loc hg;have:=uo (n:=s.gs.length) L.w4 (fun a ha=>L.w3 a ha);omega
  ·rw [e];simp [clean]
 ·have:=h'.dn;have:=N2 h';omega
theorem we (h:MInv s) (hg:g < s.gs.length) (e:(aa s g).place≠0):bJ (ag s g).kind (aa s g).place:=((h.loc hg).pl.resolve_left e).2
theorem AE (h:MInv s) (hg:g < s.gs.length) (e:(aa s g).place=4∨(aa s g).place=12∨(aa s g).place=16):aL s (ag s g).ch=true:=by
 have pl:=we h hg (by omega);have k:2≤(ag s g).kind∧(ag s g).kind≤6:=by unfold bJ at pl;omega
 exact m9.2 (h.kn hg (by omega) k)
theorem AF (h:Sx.Good s) (hg:g < s.gs.length):xE s g:=by
 have h':=h.toMInv;have L:=h'.loc hg;refine ⟨hg,L.a0,N1 h',fun e=>AE h' hg (.inl e),fun e=>AE h' hg (.inr (.inl e)),fun e=>?_,fun e=>AE h' hg (.inr (.inr e)),fun e=>?_⟩
 ·have pl:=we h' hg (by omega);have k:Sx.SR (aa s g):=by unfold bJ at pl;unfold Sx.SR;show (ag s g).kind=2∨(ag s g).kind=3;omega
  have:=L.mi k (by omega) (by omega);exact ⟨Dm h',by rw [h.ca];exact hg,this.1,this.2⟩
 ·cases w:(aa s g).ak with
  | nil=>exact absurd w (L.w2 e)
  | cons a l =>
   have r:=L.w3 a (by rw [w];simp);have:=(uq h).wk g;rw [w] at this;exact ⟨a,l,rfl,r.1,r.2,by simp at this;omega⟩
theorem vP (h:MInv s) (hg:g < s.gs.length) (e:(aa s g).place=7∨(aa s g).place=8∨(aa s g).place=23∨(aa s g).place=26∨(aa s g).place=27):dL s (aa s g).hold:=by
 have:=(h.loc hg).hd e;have t:=Sx.Inv.su h.v _ this.1 this.2;exact ⟨this.1,this.2,t.1,t.2.1⟩
theorem Dp (h:MInv s) (hg:g < s.gs.length):oN s∧g < s.cache.length∧((aQ s g).2.2=true→0≤(aQ s g).2.1∧(aQ s g).2.1 < s.aB.length) :=
 ⟨Dm h,by rw [h.ca];exact hg,fun ok=>⟨(B9 h hg ok).i0,(B9 h hg ok).i1⟩⟩
theorem Dq (h:MInv s) (hg:g < s.gs.length) (st:(aa s g).status=0) (e:(aa s g).place=14):0≤(aa s g).param∧(aa s g).param < s.aB.length:=by
 have L:=h.loc hg;exact ⟨L.p1 e st,L.p0.2⟩
theorem YW (h:Sx.Good s) (hg:g < s.gs.length) (st:(aa s g).status=0):nW s g:=by
 have h':=h.toMInv;exact ⟨AF h hg,uq h,fun _ i l e=>xK h' (.inl (by rw [e];simp)),fun e=>vP h' hg (by omega),fun e=>vP h' hg (by omega),fun _=>Dp h' hg,fun e=>Dq h' hg st e⟩
theorem YX (h:Sx.Good s) (hg:g < s.gs.length) (st:(aa s g).status=0):nr s g:=by
 have h':=h.toMInv;exact ⟨AF h hg,uq h,fun _ i l e=>xK h' (.inr (by rw [e];simp)),fun e=>vP h' hg (by omega),fun e=>vP h' hg (by omega),fun _=>Dp h' hg,fun e=>Dq h' hg st e⟩
theorem YY (h:Sx.Good s) (hg:g < s.gs.length):xI s g:=by
 have h':=h.toMInv;exact ⟨AF h hg,uq h,fun _=>⟨fun i l e=>xK h' (.inl (by rw [e];simp)),fun i l e=>xK h' (.inr (by rw [e];simp))⟩,fun e=>vP h' hg (by omega)⟩
theorem YZ (h:Sx.Good s) (hg:g < s.gs.length):N0 s g:=by
 have h':=h.toMInv;have L:=h'.loc hg;have d0:=h.sE;have d1:=h.tW;have d5:=h.d5;have a1:=L.a1;have o1:=L.oI;exact ⟨⟨hg,uq h,L.a0,⟨d0,by omega⟩,h.du,by have:=Cu h.z (g:=g);omega⟩,by omega⟩
theorem Y0 (h:MInv s) (hg:g < s.gs.length) (e:24≤(aa s g).place∧(aa s g).place≤34):(ag s g).kind=9∧Sx.gN s.au.length s.aB.length (aa s g):=by
 have pl:=we h hg (by omega);have k:(ag s g).kind=9:=by unfold bJ at pl;omega
 exact ⟨k,h.ko hg k (by unfold dV;omega)⟩
theorem Y1 (h:Sx.Good s) (hg:g < s.gs.length) (st:(aa s g).status=0):kX s g:=by
 have h':=h.toMInv;have L:=h'.loc hg;have z:=h.z g;have sl:=fun e=>Y0 h' hg e
 refine ⟨AF h hg,uq h,fun e=>?_,fun e=>?_,fun e=>?_,fun e=>vP h' hg (by omega),fun _=>Dp h' hg,fun e=>?_,fun e=>?_,fun e=>Dq h' hg st e,fun e=>?_,fun e=>?_⟩
 ·have b:=(sl (by omega)).2;have k1:=b.k1 e;have lk:=z.lk;have:=b.l1 _ (Sx.rR b.k0 k1);exact ⟨b.k0,k1,by omega,m9.2 this⟩
 ·have b:=(sl (by omega)).2;have hn:=b.hand (by omega);have hc:=Cu h.z (g:=g);refine ⟨hn.2.1,hn.2.2.1,⟨hg,uq h,b.k0,b.k2 (by omega),m9.2 hn.2.2.2.2,fun a l e=>xK h' (.inl (by rw [e];simp)),fun a l e=>xK h' (.inr (by rw [e];simp))⟩,by omega⟩
 ·have b:=(sl (by omega)).2;exact ⟨vP h' hg (by omega),b.k0,b.k2 (by omega)⟩
 ·have b:=(sl (by omega)).2;exact b.s2 (by omega)
 ·have b:=(sl (by omega)).2;have k3:=b.k3 e;have lk:=z.lk;have:=b.l1 _ (Sx.rR (l:=(aa s g).aF) (k:=(aa s g).k - 1) (by omega) (by omega));exact ⟨k3.1,k3.2,by omega,m9.2 this⟩
 ·have bb:=sl (by omega);have b:=bb.2;have hn:=b.hand (by omega);have hl:=b.s2 (by omega);have il:aE (aa s g).order (aa s g).k < ((aa s g).ax.length:Int):=by rw [hl];exact hn.2.2.1
  have v0:=b.s6 (by omega) _ hn.1;have v1:=b.s4 _ hn.2.1 il;exact ⟨b.k0,b.k2 (by omega),hn.2.1,il,v0,v1.2.1⟩
 ·have bb:=sl (by omega);have b:=bb.2;have hn:=b.hand (by omega);have hl:=b.s2 (by omega);have il:aE (aa s g).order (aa s g).k < ((aa s g).ax.length:Int):=by rw [hl];exact hn.2.2.1
  have v1:=b.s4 _ hn.2.1 il;exact ⟨b.k0,b.k2 (by omega),hn.2.1,il,by rw [h.ca];exact hg,Dm h',v1.2.1⟩
end Fl
open Go.RowKit
namespace Fl
open Sx Go.Proofs.Tryz
set_option maxRecDepth 100000
theorem Dr (b:Nat) (u:U) (s:ah) (g:Nat) (hg:g < s.gs.length) (h0:0≤(aa s g).at_) (hc:(ag s g).cases.length≤1000) :
  av prog 68 [.c (.v (pt b)),.c (nI g)] (wd b u s) (fun _:Unit=>(.agg (eL (ag s g)),wd b u s)):=by
 refine av.intro func68 rfl rfl rfl (fun ok e=>?_);have OW:∀ x:Int,x=g→0≤x∧x < (fI u s).length:=fun x hx=>by rw [wS];omega
 have A:=wT (u:=u) hg;have c1:(decide ((g:Int) < 0))=false:=decide_eq_false (by omega);have c2:(decide ((g:Int) ≥ ((fI u s).length:Int)))=false:=decide_eq_false (by rw [wS];omega);have c3:(decide ((aa s g).at_ < 0))=false:=decide_eq_false (by omega)
 repeat (first | (refine K.indexAddr ?_;refine jq rfl rfl rfl (Qt.aV rfl rfl (OW _ rfl).1 (OW _ rfl).2) ?_) | refine ay ?_ | intro _)
 refine J.draw (by kernel_rfl) rfl ?_;refine JW.base none ?_;refine tk 0 ?_;refine tk 1 ?_;refine tk 2 ?_;refine JD.take 3 rfl rfl (by kernel_rfl) rfl (qb rfl) (Qt.bM rfl A rfl) rfl ?_;refine JD.take 4 rfl rfl (by kernel_rfl) rfl (qb rfl) (Qt.cmp rfl rfl (congrArg some c3)) rfl ?_;refine tk 5 ?_;refine tk 6 ?_;refine tk 7 ?_;refine tk 8 ?_
 (refine JD.take 9 rfl rfl (by kernel_rfl) rfl (qb rfl) (Qt.bM rfl A rfl) rfl ?_)
 refine tk 10 ?_;refine tk 11 ?_;refine tk 12 ?_
 (refine JD.take 13 rfl rfl (by kernel_rfl) rfl (qb rfl) (Qt.bM rfl A rfl) rfl ?_)
 refine tk 14 ?_;refine tk 15 ?_;refine tk 16 ?_;refine bX ?_;refine J.cond rfl (fun h=>?_) (fun h=>?_)
 ·have h1:(aa s g).ops.length≤(aa s g).at_:=by simpa using h
  rw [KW h0 h1]
  repeat (refine gn ?_)
  (exact J.jR [_] rfl func68 rfl (.cons (.cell 0 rfl rfl rfl) .nil) () (by (exact .agg (by repeat (first | exact .nil | refine .cons .refl ?_ | refine .cons .nil ?_)))) rfl)
 ·have h1:(aa s g).at_ < (aa s g).ops.length:=by simp at h;omega
  repeat (refine gn ?_)
  refine J.draw (by kernel_rfl) rfl ?_;refine JW.base (some 11) ?_;refine tk 0 ?_;refine tk 1 ?_;refine tk 2 ?_;refine JD.take 3 rfl rfl (by kernel_rfl) rfl (qb rfl) (Qt.bM rfl A rfl) rfl ?_;refine tk 4 ?_;refine tk 5 ?_;refine tk 6 ?_;refine JD.take 7 rfl rfl (by kernel_rfl) rfl (qb rfl) (Qt.bM rfl A rfl) rfl ?_;refine JD.take 8 rfl rfl (by kernel_rfl) rfl (qb rfl) (Qt.dc rfl rfl h0 (KV h0 h1)) rfl ?_;refine tk 9 ?_;refine jl 10 rfl rfl rfl rfl (Ld.alloc (qb rfl)) .none (fun _=>?_);refine jt 11 rfl rfl (Ld.bh rfl rfl rfl (by exact rfl) (by exact rfl)) (fun _=>?_);refine cu ?_
  repeat (first | (refine K.bi ?_;refine JO.ld (Ld.iV (qb rfl) rfl rfl .read (by (simp;omega))) rfl (fun _=>?_)) | refine gn ?_)
  (exact J.jR [_,_] rfl func68 rfl (.cons (.cell 1 rfl rfl rfl) .nil) () la rfl)
end Fl
end Go.Proofs.YtdjhhbpedllnhaaGreat
