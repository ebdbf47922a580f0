/-
  What the laws need, part A34.
  Conditions: none.
-/
import Derived.Test.YtdjhhbpedllnhaaGreatA33
set_option linter.unusedVariables false
set_option linter.unusedSimpArgs false
set_option linter.unnecessarySimpa false
set_option maxHeartbeats 2000000
namespace Go.Proofs.YtdjhhbpedllnhaaGreat
open Go.RowKit
namespace Fl
open Sx Go.Proofs.Tryz
set_option maxRecDepth 100000
theorem NU (s:ah):∀ n,(Sx.drawn s n).1.length=n
 | 0=>rfl
 | n + 1=>by simp [Sx.drawn,NU s n]
theorem YL (l:List Int) (a n:Int):a≤(Sx.draw l a n).2∧(Sx.draw l a n).2≤a + 1:=by unfold Sx.draw;split <;> constructor <;> simp <;> omega
theorem YM (l:List Int) (a n:Int):0≤(Sx.draw l a n).1:=by
 unfold Sx.draw
 split
 ·simp
 ·exact Int.emod_nonneg _ (by omega)
theorem NV (s:ah):∀ n:Nat,s.drawn≤(Sx.drawn s n).2∧(Sx.drawn s n).2≤s.drawn + n
 | 0=>by simp [Sx.drawn]
 | n + 1=>by
  have:=NV s n;have h2:=YL s.dG (Sx.drawn s n).2 (n + 1);simp only [Sx.drawn];omega
theorem NW (s:ah):∀ (n:Nat) (x:Int),x∈(Sx.drawn s n).1→0≤x
 | 0,x,h=>by simp [Sx.drawn] at h
 | n + 1,x,h=>by
  simp only [Sx.drawn,List.mem_append,List.mem_singleton] at h;rcases h with h | h
  ·exact NW s n x h
  ·subst h;exact YM _ _ _
theorem NX (ds:List Int):∀ (n:Nat) (i:Int),i∈eJ ds n→0≤i∧i < n
 | 0,i,h=>by simp [eJ] at h
 | n + 1,i,h=>by
  have hl:=Dg ds n;have key:∀ y,y∈eJ ds n ++ [(n:Int)]→0≤y∧y < (n + 1:Nat):=fun y hy=>by
   rcases List.mem_append.1 hy with hy | hy
   ·have:=NX ds n y hy;omega
   ·simp at hy;omega
  have AD:0≤ds.getD n 0 % ((n:Int) + 1):=Int.emod_nonneg _ (by omega);have bu:ds.getD n 0 % ((n:Int) + 1) < n + 1:=Int.emod_lt_of_pos _ (by omega);have hg:∀ k,k < n + 1→(eJ ds n ++ [(n:Int)]).getD k 0∈eJ ds n ++ [(n:Int)]:=fun k hk=>by
   have:k < (eJ ds n ++ [(n:Int)]).length:=by simp [hl];omega
   rw [List.getD_eq_getElem?_getD,List.getElem?_eq_getElem this];exact List.getElem_mem _
  unfold eJ swap at h;rcases List.mem_or_eq_of_mem_set h with h | h
  ·rcases List.mem_or_eq_of_mem_set h with h | h
   ·exact key _ h
   ·rw [h];exact key _ (hg n (by omega))
  ·rw [h];exact key _ (hg _ (by omega))
structure NY (s:ah) (g:Nat) (o:Pn.Op):Prop where
 lt:g < s.gs.length
 fit:Fit s
 dr:0≤s.drawn∧s.drawn≤50000
 du:∀ x∈s.dG,0≤x∧x < 65536
 cl:o.cases.length≤1000
theorem YN (s:ah) (g:Nat) (o:Pn.Op) (h:NY s g o) :
  Pure prog 253 [.agg (aD s),.c (nI g),.agg (eL o)] (.agg (aD (kJ s g o))):=by
 have hg:=h.lt;have hb:=h.fit.1.1;have hob:=h.fit.od g;have cl:=h.cl;have d0:=h.dr;have aj:kJ s g o=kJ s g o:=rfl
 conv at aj=>rhs;unfold kJ;simp only
 refine av.intro func253 rfl rfl rfl (fun ok e=>?_)
 repeat (first | (refine ga ?_;intro _) | refine gn ?_)
 rename_i b3 b5 b6 b7;refine J.loop (ι:={ p:Nat × Value // p.1≤o.cases.length }) (fun p=>[(18,.c (nI o.cases.length)),(19,.c (nI p.1.1)),(7,.c (.v p.1.2)),(3,.c (.v (.pointer (some ⟨b3,0,none⟩)))),(5,.c (.v (.pointer (some ⟨b5,0,none⟩)))),(6,.c (.v (.pointer (some ⟨b6,0,none⟩)))),(1,.c (nI g))])
  (fun p=>[.row p.1.2 3 1 ((Sx.drawn s p.1.1).1.map fun n=>[nI n]),.box b6 36 rQ,.box b5 50 (eL o),.box b3 36 (aD { s with drawn:=(Sx.drawn s p.1.1).2 })]) (fun p=>o.cases.length - p.1.1) ⟨(0,.slice (some ⟨b7,0,none⟩) 0 0),Nat.zero_le _⟩ (fun X h=>h.bO ⟨rfl,rfl,rfl,rfl,rfl,rfl,rfl,trivial⟩) (fun p ih=>?_)
 obtain ⟨⟨k,v⟩,fK⟩:=p;simp only at fK ih ⊢;have rL:=NU s k;have da:=NV s k
 by_cases hk:k < o.cases.length
 ·have h1:(decide ((k:Int) < (o.cases.length:Int)))=true:=by simpa using hk
  have CD:=YA s.dG (Sx.drawn s k).2 (k + 1) (by omega) (by omega) h.du
  repeat (first | (refine K.store ?_;refine JO.ld (Ld.di rfl rfl (by exact rfl)) rfl (fun _=>?_)) | (refine K.binOp ?_;first | refine jc rfl rfl rfl rfl h1 rfl ?_ | refine jq rfl rfl rfl (Qt.cI rfl rfl rfl (eK (by omega) (by omega))) ?_) | (refine K.call ?_;refine jp (CD) rfl rfl rfl lq ?_) | (refine K.bi ?_;refine JO.ld (Ld.cB (qb rfl) rfl rfl .de (by (simp;omega))) rfl (fun _=>?_)) | (refine ga ?_;intro _) | refine gn ?_)
  rename_i u1 b9 v2;refine J.dF 1 ?_;refine J.fQ ?_ ((ih ⟨(k + 1,v2),by simp only;omega⟩ (by simp only;omega)).bO ⟨rfl,rfl,rfl,rfl,rfl,rfl,rfl,trivial⟩);simp only [Sx.drawn,List.map_append,List.map_cons,List.map_nil];rfl
 ·have h1:(decide ((k:Int) < (o.cases.length:Int)))=false:=by simpa using hk
  obtain rfl:k=o.cases.length:=by omega
  have CO:=NP o.cases.length (Sx.drawn s o.cases.length).1 rL (by omega) (NW s o.cases.length);have om:=NX (Sx.drawn s o.cases.length).1 o.cases.length;have ol:=Dg (Sx.drawn s o.cases.length).1 o.cases.length;generalize o8:({ s with drawn:=(Sx.drawn s o.cases.length).2 }:ah)=s1 at *;have Di:s1.gs=s.gs:=by rw [← o8]
  have YO:∀ c,aL s1 c=aL s c:=fun c=>by rw [← o8];rfl
  have oE:g < s1.gs.length:=by rw [Di];exact hg
  have G4:aa s1 g=aa s g:=uh Di g;have A1:=gZ oE;rw [G4] at A1;generalize eJ (Sx.drawn s o.cases.length).1 o.cases.length=ord at *;refine J.j9 7 rfl ?_
  repeat (first | (refine K.store ?_;refine JO.ld (Ld.bh rfl rfl rfl (by exact rfl) (by exact rfl)) rfl (fun _=>?_)) | (refine K.indexAddr ?_;refine jx rfl rfl rfl rfl (by omega) (A1) ?_) | (refine K.binOp ?_;refine jc rfl rfl rfl rfl h1 rfl ?_) | (refine K.call ?_;refine JO.NM (CO) rfl (qb rfl) rfl ?_ ?_;(focus ((repeat (first | exact aW.nil | refine aW.cons eU.refl ?_));done));intro _) | (refine ga ?_;intro _) | refine gn ?_)
  rename_i pN u11 sC vo;refine J.j9 46 rfl ?_;rw [List.length_map];refine J.loop (ι:={ p:Nat × Value // p.1≤ord.length }) (fun p=>[(46,.c (ints ord)),(47,.c (nI ord.length)),(48,.c (nI p.1.1)),(12,.c (.v p.1.2)),(11,.c (.v (.pointer (some ⟨pN,0,none⟩)))),(3,.c (.v (.pointer (some ⟨b3,0,none⟩)))),(5,.c (.v (.pointer (some ⟨b5,0,none⟩)))),(6,.c (.v (.pointer (some ⟨b6,0,none⟩)))),(1,.c (nI g))])
   (fun p=>[.row p.1.2 3 1 ((((ord.take p.1.1).filter (fun i=>aL s1 (cD o i).ch)).map (fun i=>(cD o i).ch)).map fun n=>[nI n]),.box pN 47 ((eG (aa s g)).set 20 (ints ((aa s g).order ++ (ord.take p.1.1).filter (fun i=>aL s1 (cD o i).ch)))),.box b6 36 rQ,.box b5 50 (eL o),.box b3 36 (aD s1)]) (fun p=>ord.length - p.1.1) ⟨(0,.slice (some ⟨sC,0,none⟩) 0 0),Nat.zero_le _⟩ (fun X h=>?_) (fun p ih=>?_)
  ·refine J.fQ ?_ (h.bO ⟨rfl,rfl,rfl,rfl,rfl,rfl,rfl,rfl,rfl,trivial⟩);simp only [List.take_zero,List.filter_nil,List.map_nil,List.append_nil];rfl
  obtain ⟨⟨k,v⟩,fK⟩:=p;simp only at fK ih ⊢;have gl:∀ k,((ord.take k).filter (fun i=>aL s1 (cD o i).ch)).length≤1000:=fun k=>Nat.le_trans (List.length_filter_le _ _) (by simp;omega)
  by_cases hk:k < ord.length
  ·obtain ⟨i,hi⟩:∃ y,ord[k]?=some y:=⟨_,List.getElem?_eq_getElem hk⟩
   have h2:(decide ((k:Int) < (ord.length:Int)))=true:=by simpa using hk
   obtain ⟨i0,i1⟩:=om i (List.mem_of_getElem? hi);have J1:=AA i0 i1;have CM:=fD s1 (cD o i).ch;have et:=take_one hi;have gk:=gl k
   cases hm:aL s1 (cD o i).ch with
   | true =>
    rw [hm] at CM;have ef:(ord.take (k + 1)).filter (fun i=>aL s1 (cD o i).ch)=(ord.take k).filter (fun i=>aL s1 (cD o i).ch) ++ [i]:=by rw [et,List.filter_append];simp [hm]
    repeat (first | (refine K.indexAddr ?_;refine jx rfl rfl rfl rfl (by omega) (ints_at hi) ?_) | (refine K.binOp ?_;refine jc rfl rfl rfl rfl h2 rfl ?_) | refine gn ?_)
    refine J.draw (by kernel_rfl) rfl ?_;refine JW.base none ?_;refine tk 0 ?_;refine tk 1 ?_;refine tk 2 ?_;refine tk 3 ?_;refine JD.take 4 rfl rfl (by kernel_rfl) rfl (qb rfl) (Qt.dc rfl rfl i0 J1) rfl ?_;refine tk 5 ?_;refine tk 6 ?_;refine jl 7 rfl rfl rfl rfl (Ld.pure (CM) (qb rfl) rfl lq) .none (fun _=>?_);refine bX ?_
    repeat (first | (refine K.store ?_;refine JO.ld (Ld.di rfl rfl (by exact rfl)) rfl (fun _=>?_)) | (refine K.indexAddr ?_;refine jx rfl rfl rfl rfl (by omega) (J1) ?_) | (refine K.binOp ?_;refine jq rfl rfl rfl (Qt.cI rfl rfl rfl (eK (by omega) (by omega))) ?_) | (refine K.bi ?_;first | refine JO.ld (Ld.cB (qb rfl) rfl rfl .read (by first | (simp;omega) | simp)) rfl (fun _=>?_) | refine JO.ld (Ld.cB (qb rfl) rfl rfl .de (by (simp;omega))) rfl (fun _=>?_)) | (refine ga ?_;intro _) | refine gn ?_)
    rename_i bA vA bB vB uB bC vC;refine J.dF 3 ?_;refine J.dF 1 ?_;refine J.nF 1 2 20 rfl rfl rfl ?_;have e7:([] ++ List.map (fun n=>[nI n]) ((aa s g).order ++ List.filter (fun i=>aL s1 (cD o i).ch) (List.take k ord)) ++ [[nI i]])=((aa s g).order ++ (ord.take (k + 1)).filter (fun i=>aL s1 (cD o i).ch)).map (fun n=>[nI n]):=by rw [ef];simp
    rw [e7];have e8:(List.map (fun n=>[nI n]) (List.map (fun i=>(cD o i).ch) (List.filter (fun i=>aL s1 (cD o i).ch) (List.take k ord))) ++ [[nI (cD o i).ch]])=(((ord.take (k + 1)).filter (fun i=>aL s1 (cD o i).ch)).map (fun i=>(cD o i).ch)).map (fun n=>[nI n]):=by rw [ef];simp
    rw [e8];exact (ih ⟨(k + 1,vC),by simp only;omega⟩ (by simp only;omega)).bO ⟨rfl,rfl,rfl,rfl,rfl,rfl,rfl,rfl,rfl,trivial⟩
   | false =>
    rw [hm] at CM;have ef:(ord.take (k + 1)).filter (fun i=>aL s1 (cD o i).ch)=(ord.take k).filter (fun i=>aL s1 (cD o i).ch):=by rw [et,List.filter_append];simp [hm]
    repeat (first | (refine K.indexAddr ?_;refine jx rfl rfl rfl rfl (by omega) (ints_at hi) ?_) | (refine K.binOp ?_;refine jc rfl rfl rfl rfl h2 rfl ?_) | refine gn ?_)
    refine J.draw (by kernel_rfl) rfl ?_;refine JW.base none ?_;refine tk 0 ?_;refine tk 1 ?_;refine tk 2 ?_;refine tk 3 ?_;refine JD.take 4 rfl rfl (by kernel_rfl) rfl (qb rfl) (Qt.dc rfl rfl i0 J1) rfl ?_;refine tk 5 ?_;refine tk 6 ?_;refine jl 7 rfl rfl rfl rfl (Ld.pure (CM) (qb rfl) rfl lq) .none (fun _=>?_);refine bX ?_
    repeat (first | (refine K.binOp ?_;refine jq rfl rfl rfl (Qt.cI rfl rfl rfl (eK (by omega) (by omega))) ?_) | refine gn ?_)
    refine J.fQ ?_ ((ih ⟨(k + 1,v),by simp only;omega⟩ (by simp only;omega)).bO ⟨rfl,rfl,rfl,rfl,rfl,rfl,rfl,rfl,rfl,trivial⟩);simp only [ef]
  ·have h2:(decide ((k:Int) < (ord.length:Int)))=false:=by simpa using hk
   obtain rfl:k=ord.length:=by omega
   rw [List.take_length] at *;refine J.j9 12 rfl ?_;simp only [← YO] at aj;have YP:=gl ord.length;rw [List.take_length] at YP;generalize ord.filter (fun i=>aL s1 (cD o i).ch)=fX at *;have lu:(fX.map (fun i=>(cD o i).ch)).length≤50000:=by simp;omega
   generalize fX.map (fun i=>(cD o i).ch)=ids at *;have CL:=YF ids lu;have CW:=cS s1 g { aa s g with order:=(aa s g).order ++ fX,aF:=Sx.aF ids,place:=24 } oE (by rw [Di];exact hb);have g2:g < (ai s1 g { aa s g with order:=(aa s g).order ++ fX,aF:=Sx.aF ids,place:=24 }).gs.length:=by rw [cz];exact oE
   have b2:(ai s1 g { aa s g with order:=(aa s g).order ++ fX,aF:=Sx.aF ids,place:=24 }).gs.length≤100000:=by rw [cz,Di];exact hb
   by_cases hi:0 < ids.length
   ·have c1:(decide ((ids.length:Int) > 0))=true:=decide_eq_true (by omega);rw [if_pos hi] at aj;rw [aj]
    repeat (first | (refine K.store ?_;first | refine JO.ld (Ld.bh rfl rfl rfl (by exact rfl) (by exact rfl)) rfl (fun _=>?_) | refine JO.ld (Ld.di rfl rfl (by exact rfl)) rfl (fun _=>?_)) | (refine K.binOp ?_;first | refine jc rfl rfl rfl rfl h2 rfl ?_ | refine jc rfl rfl rfl rfl c1 rfl ?_) | (refine K.call ?_;first | refine jp (CL) rfl rfl rfl lq ?_ | refine jp (CW) rfl rfl rfl lq ?_) | refine gn ?_)
    (exact J.ret func253 rfl (.cons (.cell 1 rfl rfl rfl) .nil) () la [] .nil rfl rfl)
   ·have c1:(decide ((ids.length:Int) > 0))=false:=decide_eq_false (by omega);rw [if_neg hi] at aj
    cases pY:o.dR with
    | true =>
     rw [if_pos pY] at aj;rw [aj]
     repeat (first | refine J.iy (congrArg (fun b=>some (D.c (bI b))) pY) ?_ | (refine K.store ?_;first | refine JO.ld (Ld.bh rfl rfl rfl (by exact rfl) (by exact rfl)) rfl (fun _=>?_) | refine JO.ld (Ld.di rfl rfl (by exact rfl)) rfl (fun _=>?_)) | (refine K.binOp ?_;first | refine jc rfl rfl rfl rfl h2 rfl ?_ | refine jc rfl rfl rfl rfl c1 rfl ?_) | (refine K.call ?_;first | refine jp (CL) rfl rfl rfl lq ?_ | refine jp (CW) rfl rfl rfl lq ?_ | refine jp (jA _ g (res 2) 18 g2 b2) rfl rfl rfl lq ?_) | refine gn ?_)
     (exact J.ret func253 rfl (.cons (.cell 1 rfl rfl rfl) .nil) () la [] .nil rfl rfl)
    | false =>
     rw [if_neg (by rw [pY];simp)] at aj;rw [aj]
     repeat (first | refine J.gK (congrArg (fun b=>some (D.c (bI b))) pY) ?_ | (refine K.store ?_;first | refine JO.ld (Ld.bh rfl rfl rfl (by exact rfl) (by exact rfl)) rfl (fun _=>?_) | refine JO.ld (Ld.di rfl rfl (by exact rfl)) rfl (fun _=>?_)) | (refine K.binOp ?_;first | refine jc rfl rfl rfl rfl h2 rfl ?_ | refine jc rfl rfl rfl rfl c1 rfl ?_) | (refine K.call ?_;first | refine jp (CL) rfl rfl rfl lq ?_ | refine jp (CW) rfl rfl rfl lq ?_ | refine jp (NT _ g g2 b2) rfl rfl rfl lq ?_) | refine gn ?_)
     (exact J.ret func253 rfl (.cons (.cell 1 rfl rfl rfl) .nil) () la [] .nil rfl rfl)
end Fl
open Go.RowKit
namespace Fl
open Sx Go.Proofs.Tryz
set_option maxRecDepth 100000
theorem NZ {s:ah} {g:Nat} {x:Gr} (h:g < s.gs.length):aa (ai s g x) g=x:=by
 unfold aa ai;simp [h]
structure BeOk (s:ah) (g:Nat):Prop where
 lt:g < s.gs.length
 fit:Fit s
 dm:0≤(aa s g).at_
 dr:0≤s.drawn∧s.drawn≤50000
 du:∀ x∈s.dG,0≤x∧x < 65536
 cl:(ag s g).cases.length≤1000
theorem YQ (s:ah) (g:Nat) (h:BeOk s g) :
  Pure prog 222 [.agg (aD s),.c (nI g)] (.agg (aD (kK s g))):=by
 have hg:=h.lt;have hb:=h.fit.1.1;have aj:kK s g=kK s g:=rfl
 conv at aj=>rhs;unfold kK;simp only
 refine av.intro func222 rfl rfl rfl (fun ok e=>?_)
 by_cases ha:((aa s g).ops.length:Int)≤(aa s g).at_
 ·rw [if_pos ha] at aj;rw [aj];have c1:(decide ((aa s g).at_ ≥ ((aa s g).ops.length:Int)))=true:=decide_eq_true ha
  repeat (first | refine aR (cS s g { aa s g with status:=2,token:=false } hg hb) ?_ | refine ay ?_ | intro _)
  exact aC func222
 ·rw [if_neg ha] at aj;have c1:(decide ((aa s g).at_ ≥ ((aa s g).ops.length:Int)))=false:=decide_eq_false ha;have C1:=KX s g hg hb;have g1:g < (Sx.clear s g).gs.length:=by unfold Sx.clear;rw [cz];exact hg
  have b1:(Sx.clear s g).gs.length≤100000:=by unfold Sx.clear;rw [cz];exact hb
  have f1:Fit (Sx.clear s g):=h.fit.dK g _ ⟨by simp [oX,clean],by simp [oX,clean],by simp [oX,clean]⟩;have e1:aa (Sx.clear s g) g=oX (aa s g):=NZ hg;have kT:(Sx.clear s g).drawn=s.drawn:=rfl;have YR:(Sx.clear s g).dG=s.dG:=rfl;generalize Sx.clear s g=s1 at *;have C2:=cS s1 g { aa s1 g with call:=s1.step } g1 b1;have e2:aa (ai s1 g { aa s1 g with call:=s1.step }) g={ aa s1 g with call:=s1.step }:=NZ g1;have g2:g < (ai s1 g { aa s1 g with call:=s1.step }).gs.length:=by rw [cz];exact g1
  have b2:(ai s1 g { aa s1 g with call:=s1.step }).gs.length≤100000:=by rw [cz];exact b1
  have f2:Fit (ai s1 g { aa s1 g with call:=s1.step }):=f1.dK g _ ⟨f1.wk g,f1.od g,f1.sg g⟩;have YS:(ai s1 g { aa s1 g with call:=s1.step }).drawn=s.drawn:=kT;have YT:(ai s1 g { aa s1 g with call:=s1.step }).dG=s.dG:=YR;generalize ai s1 g { aa s1 g with call:=s1.step }=s2 at *;have eo:ag s2 g=ag s g:=by unfold ag;rw [e2,e1];rfl
  have C3:=dH s2 g g2 (by rw [e2,e1];exact h.dm);rw [eo] at aj C3;have CM:=fD s2 (ag s g).ch;have NS:NY s2 g (ag s g):=⟨g2,f2,by rw [YS];exact h.dr,by rw [YT];exact h.du,h.cl⟩
  have KE:∀ v:Int,(ag s g).kind=v→∀ c,((ag s g).kind == c)=(v == c):=fun v hv c=>by rw [hv]
  by_cases G5:(ag s g).kind=1∨(ag s g).kind=7∨(ag s g).kind=8
  ·rw [if_pos G5] at aj;rw [aj];have C4:=fU s2 g 20 g2 b2;rcases G5 with hk | hk | hk
   all_goals
    repeat (first | refine aK (KE _ hk _) ?_ | refine ay ?_ | intro _)
    exact aC func222
  rw [if_neg G5] at aj
  by_cases Dj:(ag s g).kind=2∨(ag s g).kind=3
  ·rw [if_pos Dj] at aj
   cases hm:aL s2 (ag s g).ch with
   | true =>
    rw [if_pos hm] at aj;rw [hm] at CM;rw [aj];have C4:=fU s2 g 4 g2 b2;rcases Dj with hk | hk
    all_goals
     repeat (first | refine aK (KE _ hk _) ?_ | refine ay ?_ | intro _)
     exact aC func222
   | false =>
    rw [if_neg (by rw [hm];simp)] at aj;rw [hm] at CM;rw [aj];have C4:=NT s2 g g2 b2;rcases Dj with hk | hk
    all_goals
     repeat (first | refine aK (KE _ hk _) ?_ | refine ay ?_ | intro _)
     exact aC func222
  rw [if_neg Dj] at aj
  by_cases Dk:(ag s g).kind=4∨(ag s g).kind=5
  ·rw [if_pos Dk] at aj
   cases hm:aL s2 (ag s g).ch with
   | true =>
    rw [if_pos hm] at aj;rw [hm] at CM;rw [aj];have C4:=fU s2 g 1 g2 b2;rcases Dk with hk | hk
    all_goals
     repeat (first | refine aK (KE _ hk _) ?_ | refine ay ?_ | intro _)
     exact aC func222
   | false =>
    rw [if_neg (by rw [hm];simp)] at aj;rw [hm] at CM;rw [aj];have C4:=jA s2 g (res 2) 18 g2 b2;rcases Dk with hk | hk
    all_goals
     repeat (first | refine aK (KE _ hk _) ?_ | refine ay ?_ | intro _)
     exact aC func222
  rw [if_neg Dk] at aj
  by_cases hk:(ag s g).kind=6
  ·rw [if_pos hk] at aj
   cases hm:aL s2 (ag s g).ch with
   | true =>
    rw [if_pos hm] at aj;rw [hm] at CM;rw [aj];have C4:=fU s2 g 4 g2 b2
    repeat (first | refine aK (KE _ hk _) ?_ | refine ay ?_ | intro _)
    exact aC func222
   | false =>
    rw [if_neg (by rw [hm];simp)] at aj;rw [hm] at CM;rw [aj];have C4:=jA s2 g (res 5) 18 g2 b2
    repeat (first | refine aK (KE _ hk _) ?_ | refine ay ?_ | intro _)
    exact aC func222
  rw [if_neg hk] at aj;rw [aj];have C4:=YN s2 g (ag s g) NS;have n1:((ag s g).kind == 1)=false:=by simp;omega
  have n2:((ag s g).kind == 2)=false:=by simp;omega
  have n3:((ag s g).kind == 3)=false:=by simp;omega
  have n4:((ag s g).kind == 4)=false:=by simp;omega
  have n5:((ag s g).kind == 5)=false:=by simp;omega
  have n6:((ag s g).kind == 6)=false:=by simp;omega
  have n7:((ag s g).kind == 7)=false:=by simp;omega
  have n8:((ag s g).kind == 8)=false:=by simp;omega
  repeat (first | refine ay ?_ | intro _)
  exact aC func222
structure N0 (s:ah) (g:Nat):Prop extends BeOk s g where
 ab:(aa s g).at_≤100000
theorem YU (s:ah) (g:Nat) (h:N0 s g) :
  Pure prog 170 [.agg (aD s),.c (nI g)] (.aZ [.agg (aD (js s g).1),.c (bI (js s g).2)]):=by
 have hg:=h.lt;have ha:=h.dm;have aj:js s g=js s g:=rfl
 conv at aj=>rhs;unfold js;simp only
 have P:∀ v:Int,(aa s g).place=v→∀ c,((aa s g).place == c)=(v == c):=fun v hv c=>by rw [hv]
 refine av.intro func170 rfl rfl rfl (fun ok e=>?_)
 by_cases e0:(aa s g).place=0
 ·rw [if_pos e0] at aj;rw [aj]
  repeat (first | refine aK (P _ e0 _) ?_ | refine aR (YQ s g h.toBeOk) ?_ | refine ay ?_ | intro _)
  exact aC func170
 rw [if_neg e0] at aj
 by_cases e1:(aa s g).place=20
 ·rw [if_pos e1] at aj;rw [aj]
  repeat (first | refine aK (P _ e1 _) ?_ | refine aR (YK s g hg h.fit ha) ?_ | refine ay ?_ | intro _)
  exact aC func170
 rw [if_neg e1] at aj
 by_cases e2:(aa s g).place=18
 ·rw [if_pos e2] at aj;rw [aj]
  repeat (first | refine aK (P _ e2 _) ?_ | refine aR (YJ s g hg h.fit ⟨by omega,h.ab⟩) ?_ | refine ay ?_ | intro _)
  exact aC func170
 rw [if_neg e2] at aj;rw [aj];have n0:((aa s g).place == 0)=false:=by simp;omega
 have n1:((aa s g).place == 20)=false:=by simp;omega
 have n2:((aa s g).place == 18)=false:=by simp;omega
 repeat (first | refine ay ?_ | intro _)
 exact aC func170
end Fl
end Go.Proofs.YtdjhhbpedllnhaaGreat
