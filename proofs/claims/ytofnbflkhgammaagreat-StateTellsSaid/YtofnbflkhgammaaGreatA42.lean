/-
  What the laws need, part A42.
  Conditions: none.
-/
import Derived.Test.YtofnbflkhgammaaGreatA11
import Derived.Test.YtofnbflkhgammaaGreatA17
import Derived.Test.YtofnbflkhgammaaGreatA33
import Derived.Test.YtofnbflkhgammaaGreatA38
import Derived.Test.YtofnbflkhgammaaGreatA41
set_option linter.unusedVariables false
set_option linter.unusedSimpArgs false
set_option linter.unnecessarySimpa false
set_option maxHeartbeats 2000000
namespace Go.Proofs.YtofnbflkhgammaaGreat
open Go.RowKit
namespace Fl
open Sx
open Sx (MInv)
variable {s:Sx.St} {g:Nat}
theorem Nf (s:Sx.St) (ch:Int):(∃ c,1≤c∧c≤(s.an.length:Int)∧cn s ch=cn s c)∨cn s ch=nu:=by
 by_cases h:(ch - 1).toNat < s.an.length
 ·refine .inl ⟨(ch - 1).toNat + 1,by omega,by omega,?_⟩;unfold cn;rw [show (((ch - 1).toNat:Int) + 1 - 1).toNat=(ch - 1).toNat by omega]
 ·right
  unfold cn;rw [List.getD_eq_getElem?_getD,List.getElem?_eq_none (by omega)];rfl
theorem zB {l:List Int} {n:Nat} (h1:l.Nodup) (h2:∀ a∈l,0≤a∧a < (n:Int)):l.length≤n :=
 Qu.Ao (fun a=>List.nodup_iff_count.1 h1 a) h2
theorem Gj (h:MInv s) (ch:Int):(cn s ch).recv.length≤64∧(cn s ch).send.length≤64∧(cn s ch).buf.length≤4:=by
 rcases Nf s ch with ⟨c,c0,c1,e⟩ | e
 ·rw [e];have nd:=Sx.Inv.nd h.v c c0 c1;have hc:=h.gK c0 c1;have hl:=h.iJ;have r:=zB (n:=s.aB.length) nd.1 (fun a ha=>by have:=Sx.Inv.q h.v c c0 c1 a (.inl ha);omega);have t:=zB (n:=s.aB.length) nd.2 (fun a ha=>by have:=Sx.Inv.q h.v c c0 c1 a (.inr ha);omega);omega
 ·rw [e];simp [nu]
theorem wD (h:MInv s) {ch i:Int} (hi:i∈(cn s ch).recv∨i∈(cn s ch).send):dm s i:=by
 rcases Nf s ch with ⟨c,c0,c1,e⟩ | e
 ·rw [e] at hi;have:=Sx.Inv.q h.v c c0 c1 i hi;exact ⟨this.1,this.2.1,this.2.2.2.2.2.1,this.2.2.2.2.2.2.1⟩
 ·rw [e] at hi;simp [nu] at hi
theorem YB (h:MInv s) (k:Nat):(∃ g,g < s.gs.length∧Sx.gr s k=Sx.gr s g)∨Sx.gr s k=clean [] 0:=by
 by_cases c:k < s.gs.length
 ·exact .inl ⟨k,c,rfl⟩
 ·right
  unfold Sx.gr;rw [List.getD_eq_getElem?_getD,List.getElem?_eq_none (by omega)];rfl
theorem Gk (h:MInv s):Few s:=by
 have h1:=h.n8;have h2:=h.c8;have h3:=h.iJ;exact ⟨by omega,by omega,by omega⟩
theorem Ng (h:MInv s):nW s≤128:=by
 have key:∀ n:Nat,n≤s.gs.length→((List.range n).map (fun g=>(Sx.gr s g).at_)).sum≤16 * n:=by
  intro n
  induction n with
  | zero=>intro _;simp
  | succ n ih =>
   intro hn;have L:=h.loc (g:=n) (by omega);have a1:=L.a1;have op:=L.nV;have:=ih (by omega);rw [List.range_succ,List.map_append,List.sum_append];simp only [List.map_cons,List.map_nil,List.sum_cons,List.sum_nil];omega
 have:=key s.gs.length (Nat.le_refl _);have:=h.n8;unfold nW;omega
theorem Ci (h:MInv s):ot s:=by
 obtain ⟨H,I⟩:=h.po;have ln:=I.lens;have fl:=I.fl;have s1:=I.s1;have c1:=h.c1;have sQ:=h.sQ;have f0:=h.f0;have n8:=h.n8;have ca:=h.ca;simp only at ln fl;refine ⟨by omega,?_,by omega,by rw [List.length_append];omega,by omega,by omega⟩;intro k
 by_cases c:k < s.cache.length
 ·have:=I.qN (s.cache.getD k []) (by rw [List.getD_eq_getElem?_getD,List.getElem?_eq_getElem c];exact List.getElem_mem c);omega
 ·rw [List.getD_eq_getElem?_getD,List.getElem?_eq_none (by omega)];simp
theorem rQ (h:Sx.Good s):Fit s:=by
 have h':=h.toMInv;have q:=Gj h';have p:=Ci h';have n8:=h.n8;refine ⟨Gk h',?_,fun ch=>by have:=q ch;omega,fun ch=>by have:=q ch;omega,fun ch=>by have:=q ch;omega,fun k=>by have:=(h.z k).od;omega,fun k=>by have:=(h.z k).sg;omega,?_,p.c1,p.c2,by have:=p.c3;have:=p.c4;obtain ⟨H,I⟩:=h'.po;have ln:=I.lens;simp only at ln;omega⟩
 ·intro k;rcases YB h' k with ⟨g,hg,e⟩ | e
  ·rw [e];have L:=h'.loc hg;have:=zB (n:=s.gs.length) L.w4 (fun a ha=>L.w3 a ha);omega
  ·rw [e];simp [clean]
 ·have:=h'.dn;have:=Ng h';omega
theorem wQ (h:MInv s) (hg:g < s.gs.length) (e:(Sx.gr s g).place≠0):aZ (Sx.op s g).kind (Sx.gr s g).place:=((h.loc hg).pl.resolve_left e).2
theorem zC (h:MInv s) (hg:g < s.gs.length) (e:(Sx.gr s g).place=4∨(Sx.gr s g).place=12∨(Sx.gr s g).place=16):Sx.made s (Sx.op s g).ch=true:=by
 have pl:=wQ h hg (by omega);have k:2≤(Sx.op s g).kind∧(Sx.op s g).kind≤6:=by unfold aZ at pl;omega
 exact oV.2 (h.qd hg (by omega) k)
theorem wE (h:Sx.Good s) (hg:g < s.gs.length):wz s g:=by
 have h':=h.toMInv;have L:=h'.loc hg;refine ⟨hg,L.a0,Gk h',fun e=>zC h' hg (.inl e),fun e=>zC h' hg (.inr (.inl e)),fun e=>?_,fun e=>zC h' hg (.inr (.inr e)),fun e=>?_⟩
 ·have pl:=wQ h' hg (by omega);have k:Sx.SR (Sx.gr s g):=by unfold aZ at pl;unfold Sx.SR;show (Sx.op s g).kind=2∨(Sx.op s g).kind=3;omega
  have:=L.mi k (by omega) (by omega);exact ⟨Ci h',by rw [h.ca];exact hg,this.1,this.2⟩
 ·cases w:(Sx.gr s g).ah with
  | nil=>exact absurd w (L.w2 e)
  | cons a l =>
   have r:=L.w3 a (by rw [w];simp);have:=(rQ h).wk g;rw [w] at this;exact ⟨a,l,rfl,r.1,r.2,by simp at this;omega⟩
theorem uP (h:MInv s) (hg:g < s.gs.length) (e:(Sx.gr s g).place=7∨(Sx.gr s g).place=8∨(Sx.gr s g).place=23∨(Sx.gr s g).place=26∨(Sx.gr s g).place=27):dm s (Sx.gr s g).hold:=by
 have:=(h.loc hg).hd e;have t:=Sx.Inv.su h.v _ this.1 this.2;exact ⟨this.1,this.2,t.1,t.2.1⟩
theorem Gl (h:MInv s) (hg:g < s.gs.length):ot s∧g < s.cache.length∧((bu s g).2.2=true→0≤(bu s g).2.1∧(bu s g).2.1 < s.aB.length) :=
 ⟨Ci h,by rw [h.ca];exact hg,fun ok=>⟨(Bb h hg ok).i0,(Bb h hg ok).i1⟩⟩
theorem Gm (h:MInv s) (hg:g < s.gs.length) (st:(Sx.gr s g).status=0) (e:(Sx.gr s g).place=14):0≤(Sx.gr s g).param∧(Sx.gr s g).param < s.aB.length:=by
 have L:=h.loc hg;exact ⟨L.p1 e st,L.p0.2⟩
theorem YC (h:Sx.Good s) (hg:g < s.gs.length) (st:(Sx.gr s g).status=0):mY s g:=by
 have h':=h.toMInv;exact ⟨wE h hg,rQ h,fun _ i l e=>wD h' (.inl (by rw [e];simp)),fun e=>uP h' hg (by omega),fun e=>uP h' hg (by omega),fun _=>Gl h' hg,fun e=>Gm h' hg st e⟩
theorem YD (h:Sx.Good s) (hg:g < s.gs.length) (st:(Sx.gr s g).status=0):mg s g:=by
 have h':=h.toMInv;exact ⟨wE h hg,rQ h,fun _ i l e=>wD h' (.inr (by rw [e];simp)),fun e=>uP h' hg (by omega),fun e=>uP h' hg (by omega),fun _=>Gl h' hg,fun e=>Gm h' hg st e⟩
theorem Nh (h:Sx.Good s) (hg:g < s.gs.length):uM s g:=by
 have h':=h.toMInv;exact ⟨wE h hg,rQ h,fun _=>⟨fun i l e=>wD h' (.inl (by rw [e];simp)),fun i l e=>wD h' (.inr (by rw [e];simp))⟩,fun e=>uP h' hg (by omega)⟩
theorem YE (h:Sx.Good s) (hg:g < s.gs.length):Nd s g:=by
 have h':=h.toMInv;have L:=h'.loc hg;have d0:=h.rA;have d1:=h.sR;have d5:=h.d5;have a1:=L.a1;have o1:=L.nV;exact ⟨⟨hg,rQ h,L.a0,⟨d0,by omega⟩,h.du,by have:=Bw h.z (g:=g);omega⟩,by omega⟩
theorem YF (h:MInv s) (hg:g < s.gs.length) (e:24≤(Sx.gr s g).place∧(Sx.gr s g).place≤34):(Sx.op s g).kind=9∧Sx.fY s.an.length s.aB.length (Sx.gr s g):=by
 have pl:=wQ h hg (by omega);have k:(Sx.op s g).kind=9:=by unfold aZ at pl;omega
 exact ⟨k,h.jL hg k (by unfold dG;omega)⟩
theorem YG (h:Sx.Good s) (hg:g < s.gs.length) (st:(Sx.gr s g).status=0):ku s g:=by
 have h':=h.toMInv;have L:=h'.loc hg;have z:=h.z g;have sl:=fun e=>YF h' hg e
 refine ⟨wE h hg,rQ h,fun e=>?_,fun e=>?_,fun e=>?_,fun e=>uP h' hg (by omega),fun _=>Gl h' hg,fun e=>?_,fun e=>?_,fun e=>Gm h' hg st e,fun e=>?_,fun e=>?_⟩
 ·have b:=(sl (by omega)).2;have k1:=b.k1 e;have lk:=z.lk;have:=b.l1 _ (Sx.qP b.k0 k1);exact ⟨b.k0,k1,by omega,oV.2 this⟩
 ·have b:=(sl (by omega)).2;have hn:=b.hand (by omega);have hc:=Bw h.z (g:=g);refine ⟨hn.2.1,hn.2.2.1,⟨hg,rQ h,b.k0,b.k2 (by omega),oV.2 hn.2.2.2.2,fun a l e=>wD h' (.inl (by rw [e];simp)),fun a l e=>wD h' (.inr (by rw [e];simp))⟩,by omega⟩
 ·have b:=(sl (by omega)).2;exact ⟨uP h' hg (by omega),b.k0,b.k2 (by omega)⟩
 ·have b:=(sl (by omega)).2;exact b.s2 (by omega)
 ·have b:=(sl (by omega)).2;have k3:=b.k3 e;have lk:=z.lk;have:=b.l1 _ (Sx.qP (l:=(Sx.gr s g).aC) (k:=(Sx.gr s g).k - 1) (by omega) (by omega));exact ⟨k3.1,k3.2,by omega,oV.2 this⟩
 ·have bb:=sl (by omega);have b:=bb.2;have hn:=b.hand (by omega);have hl:=b.s2 (by omega);have il:aA (Sx.gr s g).order (Sx.gr s g).k < ((Sx.gr s g).ak.length:Int):=by rw [hl];exact hn.2.2.1
  have v0:=b.s6 (by omega) _ hn.1;have v1:=b.s4 _ hn.2.1 il;exact ⟨b.k0,b.k2 (by omega),hn.2.1,il,v0,v1.2.1⟩
 ·have bb:=sl (by omega);have b:=bb.2;have hn:=b.hand (by omega);have hl:=b.s2 (by omega);have il:aA (Sx.gr s g).order (Sx.gr s g).k < ((Sx.gr s g).ak.length:Int):=by rw [hl];exact hn.2.2.1
  have v1:=b.s4 _ hn.2.1 il;exact ⟨b.k0,b.k2 (by omega),hn.2.1,il,by rw [h.ca];exact hg,Ci h',v1.2.1⟩
end Fl
open Go.RowKit
namespace Fl
open Sx
set_option maxRecDepth 100000
theorem Cj (b:Nat) (u:U) (s:Sx.St) (g:Nat) (hg:g < s.gs.length) (h0:0≤(Sx.gr s g).at_) (hc:(Sx.op s g).cases.length≤1000) :
  aq Tryz.prog 22 [.c (.v (pt b)),.c (nI g)] (wd b u s) (fun _:Unit=>(.agg (dO (Sx.op s g)),wd b u s)):=by
 refine aq.intro Tryz.func22 rfl rfl rfl (fun ok e=>?_);have OW:∀ x:Int,x=g→0≤x∧x < (dc u s).length:=fun x hx=>by rw [oL];omega
 have A:=sJ (u:=u) hg;have c1:(decide ((g:Int) < 0))=false:=decide_eq_false (by omega);have c2:(decide ((g:Int) ≥ ((dc u s).length:Int)))=false:=decide_eq_false (by rw [oL];omega);have c3:(decide ((Sx.gr s g).at_ < 0))=false:=decide_eq_false (by omega)
 repeat (first | (refine K.indexAddr ?_;refine jq rfl rfl rfl (Qt.bF rfl rfl (OW _ rfl).1 (OW _ rfl).2) ?_) | refine au ?_ | intro _)
 refine J.draw (by kernel_rfl) rfl ?_;refine JW.base none ?_;refine tk 0 ?_;refine tk 1 ?_;refine tk 2 ?_;refine JD.take 3 rfl rfl (by kernel_rfl) rfl (qb rfl) (Qt.cJ rfl A rfl) rfl ?_;refine JD.take 4 rfl rfl (by kernel_rfl) rfl (qb rfl) (Qt.cmp rfl rfl (congrArg some c3)) rfl ?_;refine tk 5 ?_;refine tk 6 ?_;refine tk 7 ?_;refine tk 8 ?_
 (refine JD.take 9 rfl rfl (by kernel_rfl) rfl (qb rfl) (Qt.cJ rfl A rfl) rfl ?_)
 refine tk 10 ?_;refine tk 11 ?_;refine tk 12 ?_
 (refine JD.take 13 rfl rfl (by kernel_rfl) rfl (qb rfl) (Qt.cJ rfl A rfl) rfl ?_)
 refine tk 14 ?_;refine tk 15 ?_;refine tk 16 ?_;refine bH ?_;refine J.cond rfl (fun h=>?_) (fun h=>?_)
 ·have h1:(Sx.gr s g).ops.length≤(Sx.gr s g).at_:=by simpa using h
  rw [Mb h0 h1]
  repeat (refine gn ?_)
  (exact J.nQ [_] rfl Tryz.func22 rfl (.cons (.cell 0 rfl rfl rfl) .nil) () (by (exact .agg (by repeat (first | exact .nil | refine .cons .refl ?_ | refine .cons .nil ?_)))) rfl)
 ·have h1:(Sx.gr s g).at_ < (Sx.gr s g).ops.length:=by simp at h;omega
  repeat (refine gn ?_)
  refine J.draw (by kernel_rfl) rfl ?_;refine JW.base (some 11) ?_;refine tk 0 ?_;refine tk 1 ?_;refine tk 2 ?_;refine JD.take 3 rfl rfl (by kernel_rfl) rfl (qb rfl) (Qt.cJ rfl A rfl) rfl ?_;refine tk 4 ?_;refine tk 5 ?_;refine tk 6 ?_;refine JD.take 7 rfl rfl (by kernel_rfl) rfl (qb rfl) (Qt.cJ rfl A rfl) rfl ?_;refine JD.take 8 rfl rfl (by kernel_rfl) rfl (qb rfl) (Qt.cq rfl rfl h0 (Ma h0 h1)) rfl ?_;refine tk 9 ?_;refine jl 10 rfl rfl rfl rfl (Ld.alloc (qb rfl)) .none (fun _=>?_);refine jt 11 rfl rfl (Ld.aP rfl rfl rfl (by exact rfl) (by exact rfl)) (fun _=>?_);refine bJ ?_
  repeat (first | (refine K.bi ?_;refine JO.ld (Ld.gE (qb rfl) rfl rfl .read (by (simp;omega))) rfl (fun _=>?_)) | refine gn ?_)
  (exact J.nQ [_,_] rfl Tryz.func22 rfl (.cons (.cell 1 rfl rfl rfl) .nil) () la rfl)
end Fl
end Go.Proofs.YtofnbflkhgammaaGreat
