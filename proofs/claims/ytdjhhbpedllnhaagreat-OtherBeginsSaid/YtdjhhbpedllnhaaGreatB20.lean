/-
  What the laws need, part B20.
  Conditions: none.
-/
import Derived.Test.YtdjhhbpedllnhaaGreatB7
import Derived.Test.YtdjhhbpedllnhaaGreatB17
import Derived.Test.YtdjhhbpedllnhaaGreatB19
set_option linter.unusedVariables false
set_option linter.unusedSimpArgs false
set_option linter.unnecessarySimpa false
set_option maxHeartbeats 2000000
namespace Go.Proofs.YtdjhhbpedllnhaaGreat
open Go.RowKit
namespace Fl
open Sx Go.Proofs.Tryz
open Sx (MInv)
variable {s:ah} {g:Nat}
theorem zD (s:ah) (ch:Int):(∃ c,1≤c∧c≤(s.av.length:Int)∧cn s ch=cn s c)∨cn s ch=oF:=by
 by_cases h:(ch - 1).toNat < s.av.length
 ·refine .inl ⟨(ch - 1).toNat + 1,by omega,by omega,?_⟩;unfold cn;rw [show (((ch - 1).toNat:Int) + 1 - 1).toNat=(ch - 1).toNat by omega]
 ·right
  unfold cn;rw [List.getD_eq_getElem?_getD,List.getElem?_eq_none (by omega)];rfl
theorem zE {l:List Int} {n:Nat} (h1:l.Nodup) (h2:∀ a∈l,0≤a∧a < (n:Int)):l.length≤n :=
 Qu.Aw (fun a=>List.nodup_iff_count.1 h1 a) h2
theorem Cb (h:MInv s) (ch:Int):(cn s ch).recv.length≤64∧(cn s ch).send.length≤64∧(cn s ch).buf.length≤4:=by
 rcases zD s ch with ⟨c,c0,c1,e⟩ | e
 ·rw [e];have nd:=Sx.Inv.nd h.v c c0 c1;have hc:=h.gP c0 c1;have hl:=h.mA;have r:=zE (n:=s.aA.length) nd.1 (fun a ha=>by have:=Sx.Inv.q h.v c c0 c1 a (.inl ha);omega);have t:=zE (n:=s.aA.length) nd.2 (fun a ha=>by have:=Sx.Inv.q h.v c c0 c1 a (.inr ha);omega);omega
 ·rw [e];simp [oF]
theorem wN (h:MInv s) {ch i:Int} (hi:i∈(cn s ch).recv∨i∈(cn s ch).send):dK s i:=by
 rcases zD s ch with ⟨c,c0,c1,e⟩ | e
 ·rw [e] at hi;have:=Sx.Inv.q h.v c c0 c1 i hi;exact ⟨this.1,this.2.1,this.2.2.2.2.2.1,this.2.2.2.2.2.2.1⟩
 ·rw [e] at hi;simp [oF] at hi
theorem UB (h:MInv s) (k:Nat):(∃ g,g < s.gs.length∧aa s k=aa s g)∨aa s k=clean [] 0:=by
 by_cases c:k < s.gs.length
 ·exact .inl ⟨k,c,rfl⟩
 ·right
  unfold aa;rw [List.getD_eq_getElem?_getD,List.getElem?_eq_none (by omega)];rfl
theorem K8 (h:MInv s):Few s:=by
 have h1:=h.n8;have h2:=h.c8;have h3:=h.mA;exact ⟨by omega,by omega,by omega⟩
theorem Lb (h:MInv s):nX s≤128:=by
 have key:∀ n:Nat,n≤s.gs.length→((List.range n).map (fun g=>(aa s g).at_)).sum≤16 * n:=by
  intro n
  induction n with
  | zero=>intro _;simp
  | succ n ih =>
   intro hn;have L:=h.loc (g:=n) (by omega);have a1:=L.a1;have op:=L.nU;have:=ih (by omega);rw [List.range_succ,List.map_append,List.sum_append];simp only [List.map_cons,List.map_nil,List.sum_cons,List.sum_nil];omega
 have:=key s.gs.length (Nat.le_refl _);have:=h.n8;unfold nX;omega
theorem Cc (h:MInv s):ou s:=by
 obtain ⟨H,I⟩:=h.po;have ln:=I.lens;have fl:=I.fl;have s1:=I.s1;have c1:=h.c1;have sM:=h.sM;have f0:=h.f0;have n8:=h.n8;have ca:=h.ca;simp only at ln fl;refine ⟨by omega,?_,by omega,by rw [List.length_append];omega,by omega,by omega⟩;intro k
 by_cases c:k < s.cache.length
 ·have:=I.pZ (s.cache.getD k []) (by rw [List.getD_eq_getElem?_getD,List.getElem?_eq_getElem c];exact List.getElem_mem c);omega
 ·rw [List.getD_eq_getElem?_getD,List.getElem?_eq_none (by omega)];simp
theorem tg (h:Sx.Good s):Fit s:=by
 have h':=h.toMInv;have q:=Cb h';have p:=Cc h';have n8:=h.n8;refine ⟨K8 h',?_,fun ch=>by have:=q ch;omega,fun ch=>by have:=q ch;omega,fun ch=>by have:=q ch;omega,fun k=>by have:=(h.z k).od;omega,fun k=>by have:=(h.z k).sg;omega,?_,p.c1,p.c2,by have:=p.c3;have:=p.c4;obtain ⟨H,I⟩:=h'.po;have ln:=I.lens;simp only at ln;omega⟩
 ·intro k;rcases UB h' k with ⟨g,hg,e⟩ | e
  ·rw [e];have L:=h'.loc hg;have:=zE (n:=s.gs.length) L.w4 (fun a ha=>L.w3 a ha);omega
  ·rw [e];simp [clean]
 ·have:=h'.dn;have:=Lb h';omega
theorem w8 (h:MInv s) (hg:g < s.gs.length) (e:(aa s g).place≠0):bU (ag s g).kind (aa s g).place:=((h.loc hg).pl.resolve_left e).2
theorem zF (h:MInv s) (hg:g < s.gs.length) (e:(aa s g).place=4∨(aa s g).place=12∨(aa s g).place=16):aT s (ag s g).ch=true:=by
 have pl:=w8 h hg (by omega);have k:2≤(ag s g).kind∧(ag s g).kind≤6:=by unfold bU at pl;omega
 exact nt.2 (h.rL hg (by omega) k)
theorem zG (h:Sx.Good s) (hg:g < s.gs.length):wJ s g:=by
 have h':=h.toMInv;have L:=h'.loc hg;refine ⟨hg,L.a0,K8 h',fun e=>zF h' hg (.inl e),fun e=>zF h' hg (.inr (.inl e)),fun e=>?_,fun e=>zF h' hg (.inr (.inr e)),fun e=>?_⟩
 ·have pl:=w8 h' hg (by omega);have k:Sx.SR (aa s g):=by unfold bU at pl;unfold Sx.SR;show (ag s g).kind=2∨(ag s g).kind=3;omega
  have:=L.mi k (by omega) (by omega);exact ⟨Cc h',by rw [h.ca];exact hg,this.1,this.2⟩
 ·cases w:(aa s g).au with
  | nil=>exact absurd w (L.w2 e)
  | cons a l =>
   have r:=L.w3 a (by rw [w];simp);have:=(tg h).wk g;rw [w] at this;exact ⟨a,l,rfl,r.1,r.2,by simp at this;omega⟩
theorem uN (h:MInv s) (hg:g < s.gs.length) (e:(aa s g).place=7∨(aa s g).place=8∨(aa s g).place=23∨(aa s g).place=26∨(aa s g).place=27):dK s (aa s g).hold:=by
 have:=(h.loc hg).hd e;have t:=Sx.Inv.su h.v _ this.1 this.2;exact ⟨this.1,this.2,t.1,t.2.1⟩
theorem FE (h:MInv s) (hg:g < s.gs.length):ou s∧g < s.cache.length∧((bn s g).2.2=true→0≤(bn s g).2.1∧(bn s g).2.1 < s.aA.length) :=
 ⟨Cc h,by rw [h.ca];exact hg,fun ok=>⟨(Bi h hg ok).i0,(Bi h hg ok).i1⟩⟩
theorem FF (h:MInv s) (hg:g < s.gs.length) (st:(aa s g).status=0) (e:(aa s g).place=14):0≤(aa s g).param∧(aa s g).param < s.aA.length:=by
 have L:=h.loc hg;exact ⟨L.p1 e st,L.p0.2⟩
theorem UC (h:Sx.Good s) (hg:g < s.gs.length) (st:(aa s g).status=0):nD s g:=by
 have h':=h.toMInv;exact ⟨zG h hg,tg h,fun _ i l e=>wN h' (.inl (by rw [e];simp)),fun e=>uN h' hg (by omega),fun e=>uN h' hg (by omega),fun _=>FE h' hg,fun e=>FF h' hg st e⟩
theorem UD (h:Sx.Good s) (hg:g < s.gs.length) (st:(aa s g).status=0):mH s g:=by
 have h':=h.toMInv;exact ⟨zG h hg,tg h,fun _ i l e=>wN h' (.inr (by rw [e];simp)),fun e=>uN h' hg (by omega),fun e=>uN h' hg (by omega),fun _=>FE h' hg,fun e=>FF h' hg st e⟩
theorem UE (h:Sx.Good s) (hg:g < s.gs.length):wM s g:=by
 have h':=h.toMInv;exact ⟨zG h hg,tg h,fun _=>⟨fun i l e=>wN h' (.inl (by rw [e];simp)),fun i l e=>wN h' (.inr (by rw [e];simp))⟩,fun e=>uN h' hg (by omega)⟩
theorem UF (h:Sx.Good s) (hg:g < s.gs.length):K7 s g:=by
 have h':=h.toMInv;have L:=h'.loc hg;have d0:=h.rK;have d1:=h.sO;have d5:=h.d5;have a1:=L.a1;have o1:=L.nU;exact ⟨⟨hg,tg h,L.a0,⟨d0,by omega⟩,h.du,by have:=y8 h.z (g:=g);omega⟩,by omega⟩
theorem UG (h:MInv s) (hg:g < s.gs.length) (e:24≤(aa s g).place∧(aa s g).place≤34):(ag s g).kind=9∧Sx.gw s.av.length s.aA.length (aa s g):=by
 have pl:=w8 h hg (by omega);have k:(ag s g).kind=9:=by unfold bU at pl;omega
 exact ⟨k,h.iF hg k (by unfold c9;omega)⟩
theorem FG (h:Sx.Good s) (hg:g < s.gs.length) (st:(aa s g).status=0):j5 s g:=by
 have h':=h.toMInv;have L:=h'.loc hg;have z:=h.z g;have sl:=fun e=>UG h' hg e
 refine ⟨zG h hg,tg h,fun e=>?_,fun e=>?_,fun e=>?_,fun e=>uN h' hg (by omega),fun _=>FE h' hg,fun e=>?_,fun e=>?_,fun e=>FF h' hg st e,fun e=>?_,fun e=>?_⟩
 ·have b:=(sl (by omega)).2;have k1:=b.k1 e;have lk:=z.lk;have:=b.l1 _ (Sx.oI b.k0 k1);exact ⟨b.k0,k1,by omega,nt.2 this⟩
 ·have b:=(sl (by omega)).2;have hn:=b.hand (by omega);have hc:=y8 h.z (g:=g);refine ⟨hn.2.1,hn.2.2.1,⟨hg,tg h,b.k0,b.k2 (by omega),nt.2 hn.2.2.2.2,fun a l e=>wN h' (.inl (by rw [e];simp)),fun a l e=>wN h' (.inr (by rw [e];simp))⟩,by omega⟩
 ·have b:=(sl (by omega)).2;exact ⟨uN h' hg (by omega),b.k0,b.k2 (by omega)⟩
 ·have b:=(sl (by omega)).2;exact b.s2 (by omega)
 ·have b:=(sl (by omega)).2;have k3:=b.k3 e;have lk:=z.lk;have:=b.l1 _ (Sx.oI (l:=(aa s g).aB) (k:=(aa s g).k - 1) (by omega) (by omega));exact ⟨k3.1,k3.2,by omega,nt.2 this⟩
 ·have bb:=sl (by omega);have b:=bb.2;have hn:=b.hand (by omega);have hl:=b.s2 (by omega);have il:ax (aa s g).order (aa s g).k < ((aa s g).aq.length:Int):=by rw [hl];exact hn.2.2.1
  have v0:=b.s6 (by omega) _ hn.1;have v1:=b.s4 _ hn.2.1 il;exact ⟨b.k0,b.k2 (by omega),hn.2.1,il,v0,v1.2.1⟩
 ·have bb:=sl (by omega);have b:=bb.2;have hn:=b.hand (by omega);have hl:=b.s2 (by omega);have il:ax (aa s g).order (aa s g).k < ((aa s g).aq.length:Int):=by rw [hl];exact hn.2.2.1
  have v1:=b.s4 _ hn.2.1 il;exact ⟨b.k0,b.k2 (by omega),hn.2.1,il,by rw [h.ca];exact hg,Cc h',v1.2.1⟩
end Fl
open Go.RowKit
namespace Fl
open Sx Go.Proofs.Tryz
set_option maxRecDepth 100000
theorem FH (b:Nat) (u:U) (s:ah) (g:Nat) (hg:g < s.gs.length) (h0:0≤(aa s g).at_) (hc:(ag s g).cases.length≤1000) :
  an prog 68 [.c (.v (pt b)),.c (nI g)] (wd b u s) (fun _:Unit=>(.agg (dH (ag s g)),wd b u s)):=by
 refine an.intro func68 rfl rfl rfl (fun ok e=>?_);have OW:∀ x:Int,x=g→0≤x∧x < (dQ u s).length:=fun x hx=>by rw [vQ];omega
 have A:=vV (u:=u) hg;have c1:(decide ((g:Int) < 0))=false:=decide_eq_false (by omega);have c2:(decide ((g:Int) ≥ ((dQ u s).length:Int)))=false:=decide_eq_false (by rw [vQ];omega);have c3:(decide ((aa s g).at_ < 0))=false:=decide_eq_false (by omega)
 repeat (first | (refine K.indexAddr ?_;refine jq rfl rfl rfl (Qt.aI rfl rfl (OW _ rfl).1 (OW _ rfl).2) ?_) | refine ay ?_ | intro _)
 refine J.draw (by kernel_rfl) rfl ?_;refine JW.base none ?_;refine tk 0 ?_;refine tk 1 ?_;refine tk 2 ?_;refine JD.take 3 rfl rfl (by kernel_rfl) rfl (qb rfl) (Qt.aL rfl A rfl) rfl ?_;refine JD.take 4 rfl rfl (by kernel_rfl) rfl (qb rfl) (Qt.cmp rfl rfl (congrArg some c3)) rfl ?_;refine tk 5 ?_;refine tk 6 ?_;refine tk 7 ?_;refine tk 8 ?_
 (refine JD.take 9 rfl rfl (by kernel_rfl) rfl (qb rfl) (Qt.aL rfl A rfl) rfl ?_)
 refine tk 10 ?_;refine tk 11 ?_;refine tk 12 ?_
 (refine JD.take 13 rfl rfl (by kernel_rfl) rfl (qb rfl) (Qt.aL rfl A rfl) rfl ?_)
 refine tk 14 ?_;refine tk 15 ?_;refine tk 16 ?_;refine bE ?_;refine J.cond rfl (fun h=>?_) (fun h=>?_)
 ·have h1:(aa s g).ops.length≤(aa s g).at_:=by simpa using h
  rw [IG h0 h1]
  repeat (refine gn ?_)
  (exact J.fC [_] rfl func68 rfl (.cons (.cell 0 rfl rfl rfl) .nil) () (by (exact .agg (by repeat (first | exact .nil | refine .cons .refl ?_ | refine .cons .nil ?_)))) rfl)
 ·have h1:(aa s g).at_ < (aa s g).ops.length:=by simp at h;omega
  repeat (refine gn ?_)
  refine J.draw (by kernel_rfl) rfl ?_;refine JW.base (some 11) ?_;refine tk 0 ?_;refine tk 1 ?_;refine tk 2 ?_;refine JD.take 3 rfl rfl (by kernel_rfl) rfl (qb rfl) (Qt.aL rfl A rfl) rfl ?_;refine tk 4 ?_;refine tk 5 ?_;refine tk 6 ?_;refine JD.take 7 rfl rfl (by kernel_rfl) rfl (qb rfl) (Qt.aL rfl A rfl) rfl ?_;refine JD.take 8 rfl rfl (by kernel_rfl) rfl (qb rfl) (Qt.cI rfl rfl h0 (IF h0 h1)) rfl ?_;refine tk 9 ?_;refine jl 10 rfl rfl rfl rfl (Ld.alloc (qb rfl)) .none (fun _=>?_);refine jt 11 rfl rfl (Ld.bq rfl rfl rfl (by exact rfl) (by exact rfl)) (fun _=>?_);refine bR ?_
  repeat (first | (refine K.bi ?_;refine JO.ld (Ld.iI (qb rfl) rfl rfl .read (by (simp;omega))) rfl (fun _=>?_)) | refine gn ?_)
  (exact J.fC [_,_] rfl func68 rfl (.cons (.cell 1 rfl rfl rfl) .nil) () la rfl)
end Fl
end Go.Proofs.YtdjhhbpedllnhaaGreat
