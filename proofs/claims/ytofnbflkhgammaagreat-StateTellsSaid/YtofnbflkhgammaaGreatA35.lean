/-
  What the laws need, part A35.
  Conditions: none.
-/
import Derived.Test.YtofnbflkhgammaaGreatA34
set_option linter.unusedVariables false
set_option linter.unusedSimpArgs false
set_option linter.unnecessarySimpa false
set_option maxHeartbeats 2000000
namespace Go.Proofs.YtofnbflkhgammaaGreat
open Go.RowKit
namespace Fl
open Sx
set_option maxRecDepth 100000
theorem zy {o:Pn.Op} {i:Int} (h0:0≤i) (h:i < o.cases.length):(o.cases.map sA)[i.toNat]?=some (sA (bZ o i)):=by
 have:i.toNat < o.cases.length:=by omega
 exact at_map (by unfold bZ;rw [List.getD_eq_getElem?_getD,List.getElem?_eq_getElem this];rfl)
structure zz (s:Sx.St) (g:Nat) (o:Pn.Op):Prop where
 i0:0≤aA (Sx.gr s g).order (Sx.gr s g).k
 i1:aA (Sx.gr s g).order (Sx.gr s g).k < o.cases.length
 ca:zw s g (bZ o (aA (Sx.gr s g).order (Sx.gr s g).k))
 cl:o.cases.length≤50000
theorem XI (s:Sx.St) (g:Nat) (o:Pn.Op) (h:zz s g o) :
  Pure Tryz.prog 202 [.agg (ay s),.c (nI g),.agg (dO o)] (.agg (ay (jZ s g o))):=by
 have hg:=h.ca.lt;have hb:=h.ca.fit.1.1;have k0:=h.ca.k0;have k1:=h.ca.k1;have ob:=h.ca.fit.od g;have I1:=ou k0 k1;have i0:=h.i0;have i1:=h.i1;have cl:=h.cl;have J1:=zy i0 i1;have C1:=XH s g (aA (Sx.gr s g).order (Sx.gr s g).k) _ h.ca;have C2:=XG s g (aA (Sx.gr s g).order (Sx.gr s g).k) _ h.ca;have ag:jZ s g o=jZ s g o:=rfl
 conv at ag=>rhs;unfold jZ;simp only
 refine aq.intro Tryz.func202 rfl rfl rfl (fun ok e=>?_)
 repeat (first | refine au ?_ | intro _)
 refine J.draw (by kernel_rfl) rfl ?_;refine JW.base none ?_;refine tk 0 ?_;refine tk 1 ?_;refine tk 2 ?_;refine JD.take 3 rfl rfl (by kernel_rfl) rfl (qb rfl) (Qt.cq rfl rfl (by omega) (iA hg)) rfl ?_;refine tk 4 ?_;refine tk 5 ?_;refine tk 6 ?_;refine tk 7 ?_;refine tk 8 ?_;refine JD.take 9 rfl rfl (by kernel_rfl) rfl (qb rfl) (Qt.cq rfl rfl (by omega) (iA hg)) rfl ?_;refine tk 10 ?_;refine tk 11 ?_;refine JD.take 12 rfl rfl (by kernel_rfl) rfl (qb rfl) (Qt.cq rfl rfl k0 I1) rfl ?_;refine tk 13 ?_;refine tk 14 ?_;refine bH ?_;generalize aA (Sx.gr s g).order (Sx.gr s g).k=i at *;generalize ck:bZ o i=kk at *;have key:∃ R:Sx.St × Bool,R=(if kk.send=true then iF s g i kk else jo s g i kk)∧((kk.send=true∧R=iF s g i kk)∨(kk.send=false∧R=jo s g i kk)):=by
  cases hs:kk.send with
  | true=>exact ⟨_,rfl,.inl ⟨rfl,by simp⟩⟩
  | false=>exact ⟨_,rfl,.inr ⟨rfl,by simp⟩⟩
 obtain ⟨R,hR,hW⟩:=key;rw [← hR] at ag;clear hR
 by_cases hr:R.2=true
 case pos =>
  rw [if_pos hr] at ag;rw [ag];rcases hW with ⟨hs,rfl⟩ | ⟨hs,rfl⟩
  ·rw [hr] at C2
   repeat (first | refine J.eN (congrArg (fun b=>some (D.c (bI b))) hs) ?_ | (refine K.store ?_;refine JO.ld (Ld.aP rfl rfl rfl (by exact rfl) (by exact rfl)) rfl (fun _=>?_)) | refine au ?_ | intro _)
   exact az Tryz.func202
  ·rw [hr] at C1
   repeat (first | refine J.ez (congrArg (fun b=>some (D.c (bI b))) hs) ?_ | (refine K.store ?_;refine JO.ld (Ld.aP rfl rfl rfl (by exact rfl) (by exact rfl)) rfl (fun _=>?_)) | refine au ?_ | intro _)
   exact az Tryz.func202
 case neg =>
 have fS:R.2=false:=by simpa using hr
 rw [if_neg hr] at ag
 by_cases hk:(Sx.gr s g).k + 1 < (Sx.gr s g).order.length
 case pos =>
  rw [if_pos hk] at ag;rw [ag];have aR:(decide ((Sx.gr s g).k + 1 < ((Sx.gr s g).order.length:Int)))=true:=decide_eq_true hk;have C3:=qm s g 25 hg hb k0 (by omega);rcases hW with ⟨hs,rfl⟩ | ⟨hs,rfl⟩
  ·rw [fS] at C2
   repeat (first | refine J.eN (congrArg (fun b=>some (D.c (bI b))) hs) ?_ | (refine K.store ?_;refine JO.ld (Ld.aP rfl rfl rfl (by exact rfl) (by exact rfl)) rfl (fun _=>?_)) | refine au ?_ | intro _)
   exact az Tryz.func202
  ·rw [fS] at C1
   repeat (first | refine J.ez (congrArg (fun b=>some (D.c (bI b))) hs) ?_ | (refine K.store ?_;refine JO.ld (Ld.aP rfl rfl rfl (by exact rfl) (by exact rfl)) rfl (fun _=>?_)) | refine au ?_ | intro _)
   exact az Tryz.func202
 case neg =>
 rw [if_neg hk] at ag;have aR:(decide ((Sx.gr s g).k + 1 < ((Sx.gr s g).order.length:Int)))=false:=decide_eq_false hk
 cases pn:o.de with
 | true =>
  rw [if_pos pn] at ag;rw [ag];have C3:=zu s g ⟨2,0,0,false,0⟩ (-1) hg hb;rcases hW with ⟨hs,rfl⟩ | ⟨hs,rfl⟩
  ·rw [fS] at C2
   repeat (first | refine J.eN (congrArg (fun b=>some (D.c (bI b))) hs) ?_ | refine J.eN (congrArg (fun b=>some (D.c (bI b))) pn) ?_ | (refine K.store ?_;refine JO.ld (Ld.aP rfl rfl rfl (by exact rfl) (by exact rfl)) rfl (fun _=>?_)) | refine au ?_ | intro _)
   exact az Tryz.func202
  ·rw [fS] at C1
   repeat (first | refine J.ez (congrArg (fun b=>some (D.c (bI b))) hs) ?_ | refine J.eN (congrArg (fun b=>some (D.c (bI b))) pn) ?_ | (refine K.store ?_;refine JO.ld (Ld.aP rfl rfl rfl (by exact rfl) (by exact rfl)) rfl (fun _=>?_)) | refine au ?_ | intro _)
   exact az Tryz.func202
 | false =>
  rw [if_neg (by rw [pn];simp)] at ag;rw [ag];have C3:=cE s g { Sx.gr s g with ak:=List.replicate o.cases.length (-1) } hg hb;have kx:(Sx.gr (Sx.aa s g { Sx.gr s g with ak:=List.replicate o.cases.length (-1) }) g).k=(Sx.gr s g).k:=qn Gr.k rfl;have C4:=qm (Sx.aa s g { Sx.gr s g with ak:=List.replicate o.cases.length (-1) }) g 28 (by rw [bV];exact hg) (by rw [bV];exact hb) (by rw [kx];exact k0) (by rw [kx];omega);rcases hW with ⟨hs,rfl⟩ | ⟨hs,rfl⟩
  case' inl =>
   rw [fS] at C2
   repeat (first | refine J.eN (congrArg (fun b=>some (D.c (bI b))) hs) ?_ | refine J.ez (congrArg (fun b=>some (D.c (bI b))) pn) ?_ | (refine K.store ?_;first | refine JO.ld (Ld.aP rfl rfl rfl (by exact rfl) (by exact rfl)) rfl (fun _=>?_) | refine JO.ld (Ld.cG rfl rfl (by exact rfl)) rfl (fun _=>?_)) | refine au ?_ | intro _)
   rename_i b6 b5 b4 b3 u3 b2 u2 u22 b1 u1 b0 u0
  case' inr =>
   rw [fS] at C1
   repeat (first | refine J.ez (congrArg (fun b=>some (D.c (bI b))) hs) ?_ | refine J.ez (congrArg (fun b=>some (D.c (bI b))) pn) ?_ | (refine K.store ?_;first | refine JO.ld (Ld.aP rfl rfl rfl (by exact rfl) (by exact rfl)) rfl (fun _=>?_) | refine JO.ld (Ld.cG rfl rfl (by exact rfl)) rfl (fun _=>?_)) | refine au ?_ | intro _)
   rename_i b6 b5 b4 b3 u3 b2 u2 b1 u1 b0 u0
  all_goals
   refine J.eF 5 ?_;refine J.eF 3 ?_;refine J.eF 2 ?_;refine J.loop (ι:={ p:Nat × Value // p.1≤o.cases.length }) (fun p=>[(77,.c (nI p.1.1)),(76,.c (nI o.cases.length)),(11,.c (.v (.pointer (some ⟨b1,0,none⟩)))),(3,.c (.v (.pointer (some ⟨b6,0,none⟩)))),(6,.c (.v (.pointer (some ⟨b4,0,none⟩)))),(1,.c (nI g))]) (fun p=>[.row p.1.2 3 1 ((List.replicate p.1.1 (-1:Int)).map fun n=>[nI n]),.box b1 47 ((eG (Sx.gr s g)).set 22 (.v p.1.2)),.box b4 36 qO,.box b6 36 (ay s)]) (fun p=>o.cases.length - p.1.1) ⟨(0,.slice (some ⟨b0,0,none⟩) 0 0),Nat.zero_le _⟩ (fun X h=>h.aU ⟨rfl,rfl,rfl,rfl,rfl,rfl,trivial⟩) (fun p ih=>?_);obtain ⟨⟨k,v⟩,fR⟩:=p;simp only at fR ih ⊢
   by_cases MU:k < o.cases.length
   ·have h1:(decide ((k:Int) < (o.cases.length:Int)))=true:=by simpa using MU
    repeat (first | (refine K.store ?_;refine JO.ld (Ld.cG rfl rfl (by exact rfl)) rfl (fun _=>?_)) | (refine K.bi ?_;refine JO.ld (Ld.bY (qb rfl) rfl rfl .cR (by (simp;omega))) rfl (fun _=>?_)) | refine au ?_ | intro _)
    rename_i b9 v2 u9;refine J.eF 1 ?_;refine J.dZ ?_ ((ih ⟨(k + 1,v2),by simp only;omega⟩ (by simp only;omega)).aU ⟨rfl,rfl,rfl,rfl,rfl,rfl,trivial⟩);simp only [List.replicate_succ',List.map_append,List.map_cons,List.map_nil];rfl
   ·have h1:(decide ((k:Int) < (o.cases.length:Int)))=false:=by simpa using MU
    obtain rfl:k=o.cases.length:=by omega
    refine J.mF 0 1 22 rfl rfl rfl ?_
    repeat (first | (refine K.store ?_;refine JO.ld (Ld.aP rfl rfl rfl (by exact rfl) (by exact rfl)) rfl (fun _=>?_)) | refine gn ?_)
    exact az Tryz.func202
end Fl
end Go.Proofs.YtofnbflkhgammaaGreat
