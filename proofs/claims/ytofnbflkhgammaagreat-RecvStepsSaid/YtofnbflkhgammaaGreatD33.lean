/-
  What the laws need, part D33.
  Conditions: none.
-/
import Derived.Test.YtofnbflkhgammaaGreatD32
set_option linter.unusedVariables false
set_option linter.unusedSimpArgs false
set_option linter.unnecessarySimpa false
set_option maxHeartbeats 2000000
namespace Go.Proofs.YtofnbflkhgammaaGreat
open Go.RowKit
namespace Fl
open Sx Go.Proofs.Tryz
set_option maxRecDepth 100000
theorem AE {o:Pn.Op} {i:Int} (h0:0≤i) (h:i < o.cases.length):(o.cases.map tr)[i.toNat]?=some (tr (cy o i)):=by
 have:i.toNat < o.cases.length:=by omega
 exact at_map (by unfold cy;rw [List.getD_eq_getElem?_getD,List.getElem?_eq_getElem this];rfl)
structure AF (s:ah) (g:Nat) (o:Pn.Op):Prop where
 i0:0≤aD (aa s g).order (aa s g).k
 i1:aD (aa s g).order (aa s g).k < o.cases.length
 ca:AD s g (cy o (aD (aa s g).order (aa s g).k))
 cl:o.cases.length≤50000
theorem Yc (s:ah) (g:Nat) (o:Pn.Op) (h:AF s g o) :
  Pure prog 202 [.agg (az s),.c (nI g),.agg (dH o)] (.agg (az (kq s g o))):=by
 have hg:=h.ca.lt;have hb:=h.ca.fit.1.1;have k0:=h.ca.k0;have k1:=h.ca.k1;have ob:=h.ca.fit.od g;have I1:=oO k0 k1;have i0:=h.i0;have i1:=h.i1;have cl:=h.cl;have J1:=AE i0 i1;have C1:=Yb s g (aD (aa s g).order (aa s g).k) _ h.ca;have C2:=Ya s g (aD (aa s g).order (aa s g).k) _ h.ca;have aj:kq s g o=kq s g o:=rfl
 conv at aj=>rhs;unfold kq;simp only
 refine ax.intro func202 rfl rfl rfl (fun ok e=>?_)
 repeat (first | refine av ?_ | intro _)
 refine J.draw (by kernel_rfl) rfl ?_;refine JW.base none ?_;refine tk 0 ?_;refine tk 1 ?_;refine tk 2 ?_;refine JD.take 3 rfl rfl (by kernel_rfl) rfl (qb rfl) (Qt.bw rfl rfl (by omega) (iz hg)) rfl ?_;refine tk 4 ?_;refine tk 5 ?_;refine tk 6 ?_;refine tk 7 ?_;refine tk 8 ?_;refine JD.take 9 rfl rfl (by kernel_rfl) rfl (qb rfl) (Qt.bw rfl rfl (by omega) (iz hg)) rfl ?_;refine tk 10 ?_;refine tk 11 ?_;refine JD.take 12 rfl rfl (by kernel_rfl) rfl (qb rfl) (Qt.bw rfl rfl k0 I1) rfl ?_;refine tk 13 ?_;refine tk 14 ?_;refine bt ?_;generalize aD (aa s g).order (aa s g).k=i at *;generalize cD:cy o i=kk at *;have key:∃ R:ah × Bool,R=(if kk.send=true then iU s g i kk else jH s g i kk)∧((kk.send=true∧R=iU s g i kk)∨(kk.send=false∧R=jH s g i kk)):=by
  cases hs:kk.send with
  | true=>exact ⟨_,rfl,.inl ⟨rfl,by simp⟩⟩
  | false=>exact ⟨_,rfl,.inr ⟨rfl,by simp⟩⟩
 obtain ⟨R,hR,hW⟩:=key;rw [← hR] at aj;clear hR
 by_cases hr:R.2=true
 case pos =>
  rw [if_pos hr] at aj;rw [aj];rcases hW with ⟨hs,rfl⟩ | ⟨hs,rfl⟩
  ·rw [hr] at C2
   repeat (first | refine J.gZ (congrArg (fun b=>some (D.c (bI b))) hs) ?_ | (refine K.store ?_;refine JO.ld (Ld.aX rfl rfl rfl (by exact rfl) (by exact rfl)) rfl (fun _=>?_)) | refine av ?_ | intro _)
   exact aA func202
  ·rw [hr] at C1
   repeat (first | refine J.gw (congrArg (fun b=>some (D.c (bI b))) hs) ?_ | (refine K.store ?_;refine JO.ld (Ld.aX rfl rfl rfl (by exact rfl) (by exact rfl)) rfl (fun _=>?_)) | refine av ?_ | intro _)
   exact aA func202
 case neg =>
 have gf:R.2=false:=by simpa using hr
 rw [if_neg hr] at aj
 by_cases hk:(aa s g).k + 1 < (aa s g).order.length
 case pos =>
  rw [if_pos hk] at aj;rw [aj];have aQ:(decide ((aa s g).k + 1 < ((aa s g).order.length:Int)))=true:=decide_eq_true hk;have C3:=qY s g 25 hg hb k0 (by omega);rcases hW with ⟨hs,rfl⟩ | ⟨hs,rfl⟩
  ·rw [gf] at C2
   repeat (first | refine J.gZ (congrArg (fun b=>some (D.c (bI b))) hs) ?_ | (refine K.store ?_;refine JO.ld (Ld.aX rfl rfl rfl (by exact rfl) (by exact rfl)) rfl (fun _=>?_)) | refine av ?_ | intro _)
   exact aA func202
  ·rw [gf] at C1
   repeat (first | refine J.gw (congrArg (fun b=>some (D.c (bI b))) hs) ?_ | (refine K.store ?_;refine JO.ld (Ld.aX rfl rfl rfl (by exact rfl) (by exact rfl)) rfl (fun _=>?_)) | refine av ?_ | intro _)
   exact aA func202
 case neg =>
 rw [if_neg hk] at aj;have aQ:(decide ((aa s g).k + 1 < ((aa s g).order.length:Int)))=false:=decide_eq_false hk
 cases qd:o.dN with
 | true =>
  rw [if_pos qd] at aj;rw [aj];have C3:=AB s g ⟨2,0,0,false,0⟩ (-1) hg hb;rcases hW with ⟨hs,rfl⟩ | ⟨hs,rfl⟩
  ·rw [gf] at C2
   repeat (first | refine J.gZ (congrArg (fun b=>some (D.c (bI b))) hs) ?_ | refine J.gZ (congrArg (fun b=>some (D.c (bI b))) qd) ?_ | (refine K.store ?_;refine JO.ld (Ld.aX rfl rfl rfl (by exact rfl) (by exact rfl)) rfl (fun _=>?_)) | refine av ?_ | intro _)
   exact aA func202
  ·rw [gf] at C1
   repeat (first | refine J.gw (congrArg (fun b=>some (D.c (bI b))) hs) ?_ | refine J.gZ (congrArg (fun b=>some (D.c (bI b))) qd) ?_ | (refine K.store ?_;refine JO.ld (Ld.aX rfl rfl rfl (by exact rfl) (by exact rfl)) rfl (fun _=>?_)) | refine av ?_ | intro _)
   exact aA func202
 | false =>
  rw [if_neg (by rw [qd];simp)] at aj;rw [aj];have C3:=cP s g { aa s g with ay:=List.replicate o.cases.length (-1) } hg hb;have kx:(aa (ai s g { aa s g with ay:=List.replicate o.cases.length (-1) }) g).k=(aa s g).k:=qZ Gr.k rfl;have C4:=qY (ai s g { aa s g with ay:=List.replicate o.cases.length (-1) }) g 28 (by rw [cr];exact hg) (by rw [cr];exact hb) (by rw [kx];exact k0) (by rw [kx];omega);rcases hW with ⟨hs,rfl⟩ | ⟨hs,rfl⟩
  case' inl =>
   rw [gf] at C2
   repeat (first | refine J.gZ (congrArg (fun b=>some (D.c (bI b))) hs) ?_ | refine J.gw (congrArg (fun b=>some (D.c (bI b))) qd) ?_ | (refine K.store ?_;first | refine JO.ld (Ld.aX rfl rfl rfl (by exact rfl) (by exact rfl)) rfl (fun _=>?_) | refine JO.ld (Ld.cZ rfl rfl (by exact rfl)) rfl (fun _=>?_)) | refine av ?_ | intro _)
   rename_i b6 b5 b4 b3 u3 b2 u2 u22 b1 u1 b0 u0
  case' inr =>
   rw [gf] at C1
   repeat (first | refine J.gw (congrArg (fun b=>some (D.c (bI b))) hs) ?_ | refine J.gw (congrArg (fun b=>some (D.c (bI b))) qd) ?_ | (refine K.store ?_;first | refine JO.ld (Ld.aX rfl rfl rfl (by exact rfl) (by exact rfl)) rfl (fun _=>?_) | refine JO.ld (Ld.cZ rfl rfl (by exact rfl)) rfl (fun _=>?_)) | refine av ?_ | intro _)
   rename_i b6 b5 b4 b3 u3 b2 u2 b1 u1 b0 u0
  all_goals
   refine J.eP 5 ?_;refine J.eP 3 ?_;refine J.eP 2 ?_;refine J.loop (ι:={ p:Nat × Value // p.1≤o.cases.length }) (fun p=>[(77,.c (nI p.1.1)),(76,.c (nI o.cases.length)),(11,.c (.v (.pointer (some ⟨b1,0,none⟩)))),(3,.c (.v (.pointer (some ⟨b6,0,none⟩)))),(6,.c (.v (.pointer (some ⟨b4,0,none⟩)))),(1,.c (nI g))]) (fun p=>[.row p.1.2 3 1 ((List.replicate p.1.1 (-1:Int)).map fun n=>[nI n]),.box b1 47 ((eG (aa s g)).set 22 (.v p.1.2)),.box b4 36 rP,.box b6 36 (az s)]) (fun p=>o.cases.length - p.1.1) ⟨(0,.slice (some ⟨b0,0,none⟩) 0 0),Nat.zero_le _⟩ (fun X h=>h.aW ⟨rfl,rfl,rfl,rfl,rfl,rfl,trivial⟩) (fun p ih=>?_);obtain ⟨⟨k,v⟩,fD⟩:=p;simp only at fD ih ⊢
   by_cases Od:k < o.cases.length
   ·have h1:(decide ((k:Int) < (o.cases.length:Int)))=true:=by simpa using Od
    repeat (first | (refine K.store ?_;refine JO.ld (Ld.cZ rfl rfl (by exact rfl)) rfl (fun _=>?_)) | (refine K.bi ?_;refine JO.ld (Ld.cA (qb rfl) rfl rfl .cY (by (simp;omega))) rfl (fun _=>?_)) | refine av ?_ | intro _)
    rename_i b9 v2 u9;refine J.eP 1 ?_;refine J.fK ?_ ((ih ⟨(k + 1,v2),by simp only;omega⟩ (by simp only;omega)).aW ⟨rfl,rfl,rfl,rfl,rfl,rfl,trivial⟩);simp only [List.replicate_succ',List.map_append,List.map_cons,List.map_nil];rfl
   ·have h1:(decide ((k:Int) < (o.cases.length:Int)))=false:=by simpa using Od
    obtain rfl:k=o.cases.length:=by omega
    refine J.nk 0 1 22 rfl rfl rfl ?_
    repeat (first | (refine K.store ?_;refine JO.ld (Ld.aX rfl rfl rfl (by exact rfl) (by exact rfl)) rfl (fun _=>?_)) | refine gn ?_)
    exact aA func202
end Fl
end Go.Proofs.YtofnbflkhgammaaGreat
