/-
  What the laws need, part H6.
  Conditions: none.
-/
import Derived.Test.YtdjhhbpedllnhaaGreatH4
import Derived.Test.YtdjhhbpedllnhaaGreatH5
set_option linter.unusedVariables false
set_option linter.unusedSimpArgs false
set_option linter.unnecessarySimpa false
set_option maxHeartbeats 2000000
namespace Go.Proofs.YtdjhhbpedllnhaaGreat
open Go.RowKit
namespace Fl
open Sx Go.Proofs.Tryz
set_option maxRecDepth 100000
theorem ZL (p:List (List Pn.Op)) (sn cn:Int) (d l:List Int) (hd:∀ x∈d,0≤x∧x < 65536) :
  Pure prog 4 [.agg (pq p sn cn d),.c (ints l)] (.c (bI true)):=by
 have CR:=Oe p sn cn d l hd;have HG:=Od (p:=p) (sn:=sn) (cn:=cn) (l:=l) hd;generalize kY p sn cn d l=r at CR HG;obtain ⟨s,o⟩:=r;refine av.intro func4 rfl rfl rfl (fun ok e=>?_)
 cases o with
 | false =>
  repeat (first | (refine K.store ?_;refine JO.ld (Ld.bh rfl rfl rfl (by exact rfl) (by exact rfl)) rfl (fun _=>?_)) | refine mM (OB) ?_ | refine ay ?_ | intro _)
  exact aC func4
 | true =>
 have G:Sx.Good s:=HG rfl;have g8:=G.n8;have c8:=G.c8;clear HG
 repeat (first | (refine K.store ?_;refine JO.ld (Ld.bh rfl rfl rfl (by exact rfl) (by exact rfl)) rfl (fun _=>?_)) | refine mM (OB) ?_ | refine ay ?_ | intro _)
 rename_i b2 b5 _;refine J.loop (ι:={ k:Nat // k≤s.gs.length }) (fun q=>[(31,.c (nI q.1)),(30,.c (nI s.gs.length)),(29,.c (.r 25 (s.gs.map eG))),(5,.c (.v (pt b5)))]) (fun _=>[.box b5 36 (aD s),.box b2 27 (pq p sn cn d)]) (fun q=>s.gs.length - q.1) ⟨0,Nat.zero_le _⟩ (fun X h=>h.bO ⟨rfl,rfl,rfl,rfl,trivial⟩) (fun q ih=>?_);obtain ⟨g,hk⟩:=q;simp only at hk ih ⊢
 by_cases hg:g < s.gs.length
 case neg =>
  have t1:(decide ((g:Int) < (s.gs.length:Int)))=false:=by simpa using hg
  repeat (refine gn ?_)
  exact aC func4
 have t1:(decide ((g:Int) < (s.gs.length:Int)))=true:=by simpa using hg
 have COP:=dH s g hg (G.toMInv.loc hg).a0
 cases st:((aa s g).status != 0) with
 | true =>
  repeat (first | (refine K.store ?_;refine JO.ld (Ld.bh rfl rfl rfl (by exact rfl) (by exact rfl)) rfl (fun _=>?_)) | refine ay ?_ | intro _)
  refine J.dF 0 ?_;refine J.dF 0 ?_;exact (ih ⟨g + 1,by omega⟩ (by simp only;omega)).bO ⟨rfl,rfl,rfl,rfl,trivial⟩
 | false =>
 cases kd:((ag s g).kind != 6) with
 | true =>
  repeat (first | (refine K.store ?_;refine JO.ld (Ld.bh rfl rfl rfl (by exact rfl) (by exact rfl)) rfl (fun _=>?_)) | refine ay ?_ | intro _)
  refine J.dF 0 ?_;refine J.dF 0 ?_;exact (ih ⟨g + 1,by omega⟩ (by simp only;omega)).bO ⟨rfl,rfl,rfl,rfl,trivial⟩
 | false =>
 cases pl:((aa s g).place != 21) with
 | true =>
  repeat (first | (refine K.store ?_;refine JO.ld (Ld.bh rfl rfl rfl (by exact rfl) (by exact rfl)) rfl (fun _=>?_)) | refine ay ?_ | intro _)
  refine J.dF 0 ?_;refine J.dF 0 ?_;exact (ih ⟨g + 1,by omega⟩ (by simp only;omega)).bO ⟨rfl,rfl,rfl,rfl,trivial⟩
 | false =>
 have jC:(aa s g).status=0:=by simpa using st
 have k6:(ag s g).kind=6:=by simpa using kd
 have Ax:(aa s g).place=21:=by simpa using pl
 have m:=G.toMInv.kn hg (by omega) (by omega);obtain ⟨k,ek⟩:∃ k:Nat,(ag s g).ch=(k:Int) + 1:=⟨((ag s g).ch - 1).toNat,by omega⟩
 have bu:k < s.au.length:=by omega
 have w1:IntKind.i64.wrap ((ag s g).ch - 1)=(k:Int):=by rw [eK (by omega) (by omega)];omega
 have A1:(s.au.map eC)[((k:Int)).toNat]?=some (eC (Sx.cn s (ag s g).ch)):=by
  rw [ek,Int.toNat_natCast,List.getElem?_map,lH bu];rfl
 generalize nC:Sx.cn s (ag s g).ch=kc at A1;obtain ⟨acq,Hj,ZM,jS,sV,sW⟩:=kc;have hlen:=Dl G.toMInv (ag s g).ch;rw [nC] at hlen;obtain ⟨hr,vE,_⟩:=hlen;simp only at hr vE
 cases ZM with
 | true =>
  repeat (first | (refine K.store ?_;refine JO.ld (Ld.bh rfl rfl rfl (by exact rfl) (by exact rfl)) rfl (fun _=>?_)) | (refine K.binOp ?_;refine jq rfl rfl rfl ((Qt.cI rfl rfl rfl w1)) ?_) | refine ay ?_ | intro _)
  refine J.dF 0 ?_;refine J.dF 0 ?_;exact (ih ⟨g + 1,by omega⟩ (by simp only;omega)).bO ⟨rfl,rfl,rfl,rfl,trivial⟩
 | false =>
 have CO:=Dt s (Ob G)
 repeat (first | (refine K.store ?_;refine JO.ld (Ld.bh rfl rfl rfl (by exact rfl) (by exact rfl)) rfl (fun _=>?_)) | (refine K.binOp ?_;first | refine jq rfl rfl rfl ((Qt.cI rfl rfl rfl w1)) ?_ | refine jq rfl rfl rfl (Qt.zu zw rfl rfl) ?_) | (refine K.call ?_;(refine JO.ld (Ld.bw CO (qb rfl) rfl (.cons .refl .nil)) rfl ?_;intro x)) | refine ay ?_ | intro _)
 obtain ⟨⟨lN,u⟩,hu⟩:=x;simp only at hu ⊢;rename_i b8 _ b9 _;have GO:=ZK ⟨G,hg,jC⟩ k6 rfl Ax (by rw [nC]);refine J.loop (ι:={ q:(Nat × Nat) × ah × U // q.1.1 + q.1.2≤299∧Sx.lT g (fun t=>Sx.Ok t g∧((aa t g).place=18→Sx.Shut s t g (ag s g).ch)) q.1.2 q.2.1∧cA q.2.2 q.2.1 }) (fun q=>[(66,.c (nI q.1.1.1)),(10,.c (.v (pt lN))),(7,.c (nI g)),(8,.c (.v (pt b8))),(9,.c (.v (pt b9))),(31,.c (nI g)),(30,.c (nI s.gs.length)),(29,.c (.r 25 (s.gs.map eG))),(5,.c (.v (pt b5)))]) (fun q=>.box b9 50 (eL (ag s g)) :: .box b8 47 (eG (aa s g)) :: .box b5 36 (aD s) :: .box b2 27 (pq p sn cn d) :: wd lN q.1.2.2 q.1.2.1) (fun q=>299 - q.1.1.1) ⟨((0,299),s,u),by simp only;omega,GO,hu⟩ (fun X h=>h.bO ⟨rfl,rfl,rfl,rfl,rfl,rfl,rfl,rfl,rfl,trivial⟩) (fun q kj=>?_);obtain ⟨⟨⟨i,n⟩,t,v⟩,hn,OK,hv⟩:=q;simp only at hn OK hv kj ⊢;have t2:(decide ((i:Int) < 300))=true:=decide_eq_true (by omega);rcases OK.cases with ⟨AM,bF,hS⟩ | ⟨m',rfl,ZN,bF,h2,ZO⟩
 ·haveI:Sx.bt g t:=⟨bF.hg⟩
  have ZP:((aa t g).place == 18)=true:=by rw [AM];rfl
  have SH:=hS AM;have CT:=Fy lN v t (Bd.fw (AH bF.fX) (by omega));have bZ:k < t.au.length:=by have:=SH.cl;omega
  have A2:(t.au.map eC)[((k:Int)).toNat]?=some (eC (Sx.cn t (ag s g).ch)):=by
   rw [ek,Int.toNat_natCast,List.getElem?_map,lH bZ];rfl
  have hb:=SH.ri;rw [nC] at hb;have A2:(t.au.map eC)[((k:Int)).toNat]?=some (eC ⟨(Sx.cn t (ag s g).ch).cap,Hj,true,-1,[],[]⟩):=by
   rw [A2];have e1:=SH.qZ;have e2:=SH.lk;have e3:=SH.rq;have e4:=SH.sq;generalize Sx.cn t (ag s g).ch=z at hb e1 e2 e3 e4 ⊢;obtain ⟨z1,z2,z3,z4,z5,z6⟩:=z;simp only at hb e1 e2 e3 e4;subst hb e1 e2 e3 e4;rfl
  have E2:(t.gs.map eG)[((g:Int)).toNat]?=some (eG { aa t g with place:=18,res:=⟨1,-1,0,true,0⟩ }):=by
   rw [← AM,show (⟨1,-1,0,true,0⟩:Md.an)=gj from rfl,← SH.res];exact gZ bF.hg
  have q1:((Hj.length:Int) != (Hj.length:Int))=false:=by simp
  repeat (first | (refine K.load ?_;((refine jq rfl rfl rfl (Qt.bM rfl (aP) (by exact rfl)) ?_))) | (refine K.store ?_;refine JO.ld (Ld.bh rfl rfl rfl (by exact rfl) (by exact rfl)) rfl (fun _=>?_)) | (refine K.indexAddr ?_;refine jq rfl rfl rfl (Qt.aV rfl rfl cW cX) ?_) | (refine K.binOp ?_;refine jq rfl rfl rfl ((Qt.cI rfl rfl rfl w1)) ?_) | (refine K.call ?_;refine JO.ld (Ld.bw CT (qb rfl) rfl (.cons .refl .nil)) rfl ?_;intro _) | refine ay ?_ | intro _)
  refine J.Ai lN ?_;rename_i pN _ sC _ xg _;refine J.draw (by kernel_rfl) rfl ?_;refine JW.base none ?_;refine tk 1 ?_;refine tk 2 ?_;refine tk 4 ?_;refine tk 5 ?_;refine tk 8 ?_;refine jl 0 rfl rfl rfl rfl (Ld.gR (qb rfl)) .none (fun _=>?_);refine jl 3 rfl rfl rfl rfl (Ld.cB (qb rfl) rfl rfl .read (by (simp;omega))) (by (exact .row (by repeat ((exact .refl))))) (fun _=>?_);refine jl 6 rfl rfl rfl rfl (Ld.fP (qb rfl) rfl rfl .read (by (simp;omega))) (by (exact .row (by repeat ((exact .refl))))) (fun _=>?_);refine jk 7 rfl rfl rfl rfl (Qt.wz rfl) ?_;refine bX ?_
  repeat ((refine J.block ?_))
  refine J.dF 0 ?_;refine J.dF 0 ?_;refine J.dF 2 ?_;refine J.loop (ι:={ q:Nat // q≤(sV ++ sW).length }) (fun q=>[(156,.c (nI q.1)),(155,.c (.v (.int .i64 (([] ++ sV.map (fun n=>[nI n]) ++ sW.map (fun n=>[nI n]):List (List A)).length:Nat)))),(154,.c (.r 1 ([] ++ sV.map (fun n=>[nI n]) ++ sW.map (fun n=>[nI n]):List (List A)))),(11,.c (.v (pt pN))),(9,.c (.v (pt b9))),(31,.c (nI g)),(30,.c (nI s.gs.length)),(29,.c (.r 25 (s.gs.map eG))),(5,.c (.v (pt b5)))]) (fun _=>[.box pN 36 (aD t),.box b9 50 (eL (ag s g)),.box b5 36 (aD s),.box b2 27 (pq p sn cn d)]) (fun q=>(sV ++ sW).length - q.1) ⟨0,Nat.zero_le _⟩ (fun X h=>h.bO ⟨rfl,rfl,rfl,rfl,rfl,rfl,rfl,rfl,rfl,trivial⟩) (fun q uu=>?_);obtain ⟨jz,hj⟩:=q;simp only at hj uu ⊢
  by_cases eP:jz < (sV ++ sW).length
  case neg =>
   have t4:(decide ((jz:Int) < ((([] ++ sV.map (fun n=>[nI n]) ++ sW.map (fun n=>[nI n]):List (List A)).length:Nat):Int)))=false:=decide_eq_false (by simp at eP ⊢;omega)
   repeat (refine gn ?_)
   refine J.dF 0 ?_;refine J.dF 0 ?_;exact (ih ⟨g + 1,by omega⟩ (by simp only;omega)).bO ⟨rfl,rfl,rfl,rfl,trivial⟩
  have t4:(decide ((jz:Int) < ((([] ++ sV.map (fun n=>[nI n]) ++ sW.map (fun n=>[nI n]):List (List A)).length:Nat):Int)))=true:=decide_eq_true (by simp at eP ⊢;omega);have hjb:jz < 128:=by rw [List.length_append] at eP;omega
  obtain ⟨i,hi⟩:∃ i,(sV ++ sW)[jz]?=some i:=⟨_,List.getElem?_eq_getElem eP⟩
  have OL:i∈(Sx.cn s (ag s g).ch).recv∨i∈(Sx.cn s (ag s g).ch).send:=by rw [nC];exact List.mem_append.1 (List.mem_of_getElem? hi)
  have A3:([] ++ sV.map (fun n=>[nI n]) ++ sW.map (fun n=>[nI n]):List (List A))[((jz:Nat):Int).toNat]?=some [nI i]:=by
   rw [Int.toNat_natCast,List.nil_append,← List.map_append,List.getElem?_map,hi];rfl
  obtain ⟨⟨o,ho⟩,_⟩:=Hh G.toMInv hg k6 m.1 m.2 OL;have A4:(s.aB.map eS)[i.toNat]?=some (eS { su s i with g:=(o:Int) }):=by rw [← ho.e];exact iB ho.h0 ho.h1
  have E1:=gZ (s:=s) ho.o1;have i0:=ho.h0
  cases pk:(aa s o).aU with
  | true =>
   have E1:(s.gs.map eG)[((o:Int)).toNat]?=some (eG { aa s o with aU:=true }):=by rw [← pk];exact E1
   repeat (first | (refine K.indexAddr ?_;refine jq rfl rfl rfl (Qt.dc rfl rfl (Int.natCast_nonneg o) E1) ?_) | refine gn ?_)
   exact (uu ⟨jz + 1,by omega⟩ (by simp only;omega)).bO ⟨rfl,rfl,rfl,rfl,rfl,rfl,rfl,rfl,rfl,trivial⟩
  | false =>
  have W:=SH.w i OL;rw [ho.e,Int.toNat_natCast,pk] at W;obtain ⟨w0,ZQ,w2,w3,w4,w5,w6⟩:=W.resolve_left (by simp);have ZR:o < t.gs.length:=by rw [SH.gl];exact ho.o1
  have E1:(s.gs.map eG)[((o:Int)).toNat]?=some (eG { aa s o with aU:=false }):=by rw [← pk];exact E1
  have E5:(t.gs.map eG)[((o:Int)).toNat]?=some (eG { aa t o with bE:=s.step,status:=0 }):=by rw [← w4,← w5];exact gZ ZR
  have A5:(t.aB.map eS)[(aa t o).param.toNat]?=some (eS { su t (aa t o).param with done:=false,ch:=(ag s g).ch }):=by rw [← w2,← w3];exact iB w0 ZQ
  have x1:decide ((aa t o).param < 0)=false:=decide_eq_false (by omega);have x2:decide ((aa t o).param ≥ (t.aB.length:Int))=false:=decide_eq_false (by omega)
  cases sb:((aa s o).status == 0) with
  | true =>
   have w6:=w6 (by simpa using sb);have E5:(t.gs.map eG)[((o:Int)).toNat]?=some (eG { aa t o with bE:=s.step,status:=0,token:=true }):=by rw [← w6];exact E5
   repeat (first | (refine K.store ?_;refine JO.ld (Ld.bh rfl rfl rfl (by exact rfl) (by exact rfl)) rfl (fun _=>?_)) | (refine K.indexAddr ?_;first | refine jq rfl rfl rfl (Qt.dc rfl rfl (Int.natCast_nonneg o) E1) ?_ | refine jq rfl rfl rfl (Qt.dc rfl rfl (Int.natCast_nonneg o) E5) ?_) | refine ay ?_ | intro _)
   refine J.draw (by kernel_rfl) rfl ?_;refine JW.base none ?_;refine tk 0 ?_;refine tk 1 ?_;refine JD.take 2 rfl rfl (by kernel_rfl) rfl (qb rfl) (Qt.cmp rfl rfl (congrArg some x1)) rfl ?_;refine tk 3 ?_;refine tk 4 ?_;refine tk 5 ?_;refine tk 6 ?_;refine tk 7 ?_;refine tk 8 ?_
   (refine JD.take 9 rfl rfl (by kernel_rfl) rfl (qb rfl) (Qt.cmp rfl rfl (congrArg some x2)) rfl ?_)
   refine tk 10 ?_;refine tk 11 ?_;refine tk 12 ?_;refine tk 13 ?_;refine tk 14 ?_;refine tk 15 ?_
   (refine JD.take 16 rfl rfl (by kernel_rfl) rfl (qb rfl) (Qt.dc rfl rfl w0 A5) rfl ?_)
   refine tk 17 ?_;refine tk 18 ?_;refine tk 19 ?_;refine tk 20 ?_;refine tk 21 ?_;refine tk 22 ?_;refine tk 23 ?_;refine tk 24 ?_
   (refine JD.take 25 rfl rfl (by kernel_rfl) rfl (qb rfl) (Qt.dc rfl rfl w0 A5) rfl ?_)
   refine tk 26 ?_;refine tk 27 ?_;refine tk 28 ?_;refine tk 29 ?_
   (refine JD.take 30 rfl rfl (by kernel_rfl) rfl (qb rfl) (Qt.wX rfl rfl) rfl ?_)
   refine tk 31 ?_;refine tk 32 ?_;refine tk 33 ?_;refine tk 34 ?_;refine tk 35 ?_;refine tk 36 ?_
   (refine JD.take 37 rfl rfl (by kernel_rfl) rfl (qb rfl) (Qt.wX rfl rfl) rfl ?_)
   refine tk 38 ?_;refine tk 39 ?_;refine tk 40 ?_;refine tk 41 ?_;refine tk 42 ?_;refine tk 43 ?_;refine tk 44 ?_;refine tk 45 ?_;refine tk 46 ?_;refine tk 47 ?_
   (refine JD.take 48 rfl rfl (by kernel_rfl) rfl (qb rfl) (Qt.dc rfl rfl (Int.natCast_nonneg o) E1) rfl ?_)
   refine tk 49 ?_;refine tk 50 ?_
   (refine JD.take 51 rfl rfl (by kernel_rfl) rfl (qb rfl) (Qt.cmp rfl rfl (congrArg some sb)) rfl ?_)
   refine tk 52 ?_;refine tk 53 ?_;refine tk 54 ?_;refine tk 55 ?_;refine tk 56 ?_;refine tk 57 ?_;refine bX ?_
   repeat (refine gn ?_)
   refine J.dF 0 ?_;exact (uu ⟨jz + 1,by omega⟩ (by simp only;omega)).bO ⟨rfl,rfl,rfl,rfl,rfl,rfl,rfl,rfl,rfl,trivial⟩
  | false =>
   repeat (first | (refine K.store ?_;refine JO.ld (Ld.bh rfl rfl rfl (by exact rfl) (by exact rfl)) rfl (fun _=>?_)) | (refine K.indexAddr ?_;first | refine jq rfl rfl rfl (Qt.dc rfl rfl (Int.natCast_nonneg o) E1) ?_ | refine jq rfl rfl rfl (Qt.dc rfl rfl (Int.natCast_nonneg o) E5) ?_) | refine ay ?_ | intro _)
   refine J.draw (by kernel_rfl) rfl ?_;refine JW.base none ?_;refine tk 0 ?_;refine tk 1 ?_;refine JD.take 2 rfl rfl (by kernel_rfl) rfl (qb rfl) (Qt.cmp rfl rfl (congrArg some x1)) rfl ?_;refine tk 3 ?_;refine tk 4 ?_;refine tk 5 ?_;refine tk 6 ?_;refine tk 7 ?_;refine tk 8 ?_
   (refine JD.take 9 rfl rfl (by kernel_rfl) rfl (qb rfl) (Qt.cmp rfl rfl (congrArg some x2)) rfl ?_)
   refine tk 10 ?_;refine tk 11 ?_;refine tk 12 ?_;refine tk 13 ?_;refine tk 14 ?_;refine tk 15 ?_
   (refine JD.take 16 rfl rfl (by kernel_rfl) rfl (qb rfl) (Qt.dc rfl rfl w0 A5) rfl ?_)
   refine tk 17 ?_;refine tk 18 ?_;refine tk 19 ?_;refine tk 20 ?_;refine tk 21 ?_;refine tk 22 ?_;refine tk 23 ?_;refine tk 24 ?_
   (refine JD.take 25 rfl rfl (by kernel_rfl) rfl (qb rfl) (Qt.dc rfl rfl w0 A5) rfl ?_)
   refine tk 26 ?_;refine tk 27 ?_;refine tk 28 ?_;refine tk 29 ?_
   (refine JD.take 30 rfl rfl (by kernel_rfl) rfl (qb rfl) (Qt.wX rfl rfl) rfl ?_)
   refine tk 31 ?_;refine tk 32 ?_;refine tk 33 ?_;refine tk 34 ?_;refine tk 35 ?_;refine tk 36 ?_
   (refine JD.take 37 rfl rfl (by kernel_rfl) rfl (qb rfl) (Qt.wX rfl rfl) rfl ?_)
   refine tk 38 ?_;refine tk 39 ?_;refine tk 40 ?_;refine tk 41 ?_;refine tk 42 ?_;refine tk 43 ?_;refine tk 44 ?_;refine tk 45 ?_;refine tk 46 ?_;refine tk 47 ?_
   (refine JD.take 48 rfl rfl (by kernel_rfl) rfl (qb rfl) (Qt.dc rfl rfl (Int.natCast_nonneg o) E1) rfl ?_)
   refine tk 49 ?_;refine tk 50 ?_
   (refine JD.take 51 rfl rfl (by kernel_rfl) rfl (qb rfl) (Qt.cmp rfl rfl (congrArg some sb)) rfl ?_)
   refine tk 52 ?_
   (refine JD.skip 53 rfl rfl (by kernel_rfl) rfl (qb rfl) ?_)
   (refine JD.skip 54 rfl rfl (by kernel_rfl) rfl (qb rfl) ?_)
   (refine JD.skip 55 rfl rfl (by kernel_rfl) rfl (qb rfl) ?_)
   refine tk 56 ?_;refine tk 57 ?_;refine bX ?_
   repeat (refine gn ?_)
   refine J.dF 0 ?_;exact (uu ⟨jz + 1,by omega⟩ (by simp only;omega)).bO ⟨rfl,rfl,rfl,rfl,rfl,rfl,rfl,rfl,rfl,trivial⟩
 ·haveI:Sx.bt g t:=⟨bF.hg⟩
  have ZP:((aa t g).place == 18)=false:=by simpa using ZN
  have C1:=On lN v t g (Zy bF.fX bF.hg) hv;rw [h2] at C1
  repeat (first | (refine K.load ?_;((refine jq rfl rfl rfl (Qt.bM rfl (aP) (by exact rfl)) ?_))) | (refine K.indexAddr ?_;refine jq rfl rfl rfl (Qt.aV rfl rfl cW cX) ?_) | (refine K.call ?_;refine JO.ld (Ld.bw C1 (qb rfl) rfl (.cons .refl (.cons .refl .nil))) rfl ?_;intro y) | refine gn ?_)
  exact (kj ⟨((i + 1,m'),_,y.1),by simp only;omega,ZO,y.2⟩ (by simp only;omega)).bO ⟨rfl,rfl,rfl,rfl,rfl,rfl,rfl,rfl,rfl,trivial⟩
theorem ZT (w:World) (cs:Array Value) (a:wZ) (U:List Nat) (sz:cs.size=4) (he:vr w cs.toList a U) (oc:∀ y∈cs.toList,y.oneCell'=true) (v:Value) (l:List Int) (S:List Nat) (hl:GV (mC .i64) 1 w v l S) :
  Calls prog 4 #[.agg cs,v] w fun e w'=>e=.returned (.bool true)∧aq [] w w' :=
 Oh (ZL a.p a.sn a.cn a.d l (Of he)) he hl
end Fl
end Go.Proofs.YtdjhhbpedllnhaaGreat
