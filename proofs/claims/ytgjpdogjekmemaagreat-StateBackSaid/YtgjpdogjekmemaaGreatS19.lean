/-
  What the laws need, part S19.
  Conditions: none.
-/
import Derived.Test.YtgjpdogjekmemaaGreatS18
set_option linter.unusedVariables false
set_option linter.unusedSimpArgs false
set_option linter.unnecessarySimpa false
set_option maxHeartbeats 2000000
namespace Go.Proofs.YtgjpdogjekmemaaGreat
open Go.RowKit
namespace Fl
open Sx Go.Proofs.Tryz
set_option maxRecDepth 100000
theorem FN (s:ah):∀ n,(Sx.drawn s n).1.length=n
 | 0=>rfl
 | n + 1=>by simp [Sx.drawn,FN s n]
theorem OG (l:List Int) (a n:Int):a≤(Sx.draw l a n).2∧(Sx.draw l a n).2≤a + 1:=by unfold Sx.draw;split <;> constructor <;> simp <;> omega
theorem OH (l:List Int) (a n:Int):0≤(Sx.draw l a n).1:=by
 unfold Sx.draw
 split
 ·simp
 ·exact Int.emod_nonneg _ (by omega)
theorem FO (s:ah):∀ n:Nat,s.drawn≤(Sx.drawn s n).2∧(Sx.drawn s n).2≤s.drawn + n
 | 0=>by simp [Sx.drawn]
 | n + 1=>by
  have:=FO s n;have h2:=OG s.cD (Sx.drawn s n).2 (n + 1);simp only [Sx.drawn];omega
theorem FP (s:ah):∀ (n:Nat) (x:Int),x∈(Sx.drawn s n).1→0≤x
 | 0,x,h=>by simp [Sx.drawn] at h
 | n + 1,x,h=>by
  simp only [Sx.drawn,List.mem_append,List.mem_singleton] at h;rcases h with h | h
  ·exact FP s n x h
  ·subst h;exact OH _ _ _
theorem FQ (ds:List Int):∀ (n:Nat) (i:Int),i∈dA ds n→0≤i∧i < n
 | 0,i,h=>by simp [dA] at h
 | n + 1,i,h=>by
  have hl:=xD ds n;have key:∀ y,y∈dA ds n ++ [(n:Int)]→0≤y∧y < (n + 1:Nat):=fun y hy=>by
   rcases List.mem_append.1 hy with hy | hy
   ·have:=FQ ds n y hy;omega
   ·simp at hy;omega
  have vw:0≤ds.getD n 0 % ((n:Int) + 1):=Int.emod_nonneg _ (by omega);have aV:ds.getD n 0 % ((n:Int) + 1) < n + 1:=Int.emod_lt_of_pos _ (by omega);have hg:∀ k,k < n + 1→(dA ds n ++ [(n:Int)]).getD k 0∈dA ds n ++ [(n:Int)]:=fun k hk=>by
   have:k < (dA ds n ++ [(n:Int)]).length:=by simp [hl];omega
   rw [List.getD_eq_getElem?_getD,List.getElem?_eq_getElem this];exact List.getElem_mem _
  unfold dA swap at h;rcases List.mem_or_eq_of_mem_set h with h | h
  ·rcases List.mem_or_eq_of_mem_set h with h | h
   ·exact key _ h
   ·rw [h];exact key _ (hg n (by omega))
  ·rw [h];exact key _ (hg _ (by omega))
structure FR (s:ah) (g:Nat) (o:Pn.Op):Prop where
 lt:g < s.gs.length
 fit:Fit s
 dr:0≤s.drawn∧s.drawn≤50000
 du:∀ x∈s.cD,0≤x∧x < 65536
 cl:o.cases.length≤1000
theorem OI (s:ah) (g:Nat) (o:Pn.Op) (h:FR s g o) :
  Pure prog 144 [.agg (az s),.c (nI g),.agg (cC o)] (.agg (az (jf s g o))):=by
 have hg:=h.lt;have hb:=h.fit.1.1;have Ro:=h.fit.od g;have cl:=h.cl;have d0:=h.dr;have aj:jf s g o=jf s g o:=rfl
 conv at aj=>rhs;unfold jf;simp only
 refine aq.intro func144 rfl rfl rfl (fun ok e=>?_)
 repeat (first | (refine ga ?_;intro _) | refine gn ?_)
 rename_i b3 b5 b6 b7;refine J.loop (ι:={ p:Nat × Value // p.1≤o.cases.length }) (fun p=>[(18,.c (nI o.cases.length)),(19,.c (nI p.1.1)),(7,.c (.v p.1.2)),(3,.c (.v (.pointer (some ⟨b3,0,none⟩)))),(5,.c (.v (.pointer (some ⟨b5,0,none⟩)))),(6,.c (.v (.pointer (some ⟨b6,0,none⟩)))),(1,.c (nI g))])
  (fun p=>[.row p.1.2 3 1 ((Sx.drawn s p.1.1).1.map fun n=>[nI n]),.box b6 36 kK,.box b5 58 (cC o),.box b3 36 (az { s with drawn:=(Sx.drawn s p.1.1).2 })]) (fun p=>o.cases.length - p.1.1) ⟨(0,.slice (some ⟨b7,0,none⟩) 0 0),Nat.zero_le _⟩ (fun X h=>h.aQ ⟨rfl,rfl,rfl,rfl,rfl,rfl,rfl,trivial⟩) (fun p ih=>?_)
 obtain ⟨⟨k,v⟩,jr⟩:=p;simp only at jr ih ⊢;have oe:=FN s k;have da:=FO s k
 by_cases hk:k < o.cases.length
 ·have h1:(decide ((k:Int) < (o.cases.length:Int)))=true:=by simpa using hk
  have CD:=Ov s.cD (Sx.drawn s k).2 (k + 1) (by omega) (by omega) h.du
  repeat (first | (refine K.store ?_;refine JO.ld (Ld.cr rfl rfl (by exact rfl)) rfl (fun _=>?_)) | (refine K.binOp ?_;first | refine jc rfl rfl rfl rfl h1 rfl ?_ | refine jq rfl rfl rfl (Qt.dy rfl rfl rfl (fq (by omega) (by omega))) ?_) | (refine K.call ?_;refine jp (CD) rfl rfl rfl lq ?_) | (refine K.bi ?_;refine JO.ld (Ld.bH (qb rfl) rfl rfl .bV (by (simp;omega))) rfl (fun _=>?_)) | (refine ga ?_;intro _) | refine gn ?_)
  rename_i u1 b9 v2;refine J.eI 1 ?_;refine J.dj ?_ ((ih ⟨(k + 1,v2),by simp only;omega⟩ (by simp only;omega)).aQ ⟨rfl,rfl,rfl,rfl,rfl,rfl,rfl,trivial⟩);simp only [Sx.drawn,List.map_append,List.map_cons,List.map_nil];rfl
 ·have h1:(decide ((k:Int) < (o.cases.length:Int)))=false:=by simpa using hk
  obtain rfl:k=o.cases.length:=by omega
  have CO:=FJ o.cases.length (Sx.drawn s o.cases.length).1 oe (by omega) (FP s o.cases.length);have om:=FQ (Sx.drawn s o.cases.length).1 o.cases.length;have ol:=xD (Sx.drawn s o.cases.length).1 o.cases.length;generalize oN:({ s with drawn:=(Sx.drawn s o.cases.length).2 }:ah)=s1 at *;have xF:s1.gs=s.gs:=by rw [← oN]
  have OJ:∀ c,aM s1 c=aM s c:=fun c=>by rw [← oN];rfl
  have uX:g < s1.gs.length:=by rw [xF];exact hg
  have OL:aa s1 g=aa s g:=pY xF g;have A1:=gL uX;rw [OL] at A1;generalize dA (Sx.drawn s o.cases.length).1 o.cases.length=ord at *;refine J.gG 7 rfl ?_
  repeat (first | (refine K.store ?_;refine JO.ld (Ld.aT rfl rfl rfl (by exact rfl) (by exact rfl)) rfl (fun _=>?_)) | (refine K.indexAddr ?_;refine jx rfl rfl rfl rfl (by omega) (A1) ?_) | (refine K.binOp ?_;refine jc rfl rfl rfl rfl h1 rfl ?_) | (refine K.call ?_;refine JO.FG (CO) rfl (qb rfl) rfl ?_ ?_;(focus ((repeat (first | exact br.nil | refine br.cons c9.refl ?_));done));intro _) | (refine ga ?_;intro _) | refine gn ?_)
  rename_i pE Rp pF vo;refine J.gG 46 rfl ?_;rw [List.length_map];refine J.loop (ι:={ p:Nat × Value // p.1≤ord.length }) (fun p=>[(46,.c (ints ord)),(47,.c (nI ord.length)),(48,.c (nI p.1.1)),(12,.c (.v p.1.2)),(11,.c (.v (.pointer (some ⟨pE,0,none⟩)))),(3,.c (.v (.pointer (some ⟨b3,0,none⟩)))),(5,.c (.v (.pointer (some ⟨b5,0,none⟩)))),(6,.c (.v (.pointer (some ⟨b6,0,none⟩)))),(1,.c (nI g))])
   (fun p=>[.row p.1.2 3 1 ((((ord.take p.1.1).filter (fun i=>aM s1 (bY o i).ch)).map (fun i=>(bY o i).ch)).map fun n=>[nI n]),.box pE 55 ((eG (aa s g)).set 20 (ints ((aa s g).order ++ (ord.take p.1.1).filter (fun i=>aM s1 (bY o i).ch)))),.box b6 36 kK,.box b5 58 (cC o),.box b3 36 (az s1)]) (fun p=>ord.length - p.1.1) ⟨(0,.slice (some ⟨pF,0,none⟩) 0 0),Nat.zero_le _⟩ (fun X h=>?_) (fun p ih=>?_)
  ·refine J.dj ?_ (h.aQ ⟨rfl,rfl,rfl,rfl,rfl,rfl,rfl,rfl,rfl,trivial⟩);simp only [List.take_zero,List.filter_nil,List.map_nil,List.append_nil];rfl
  obtain ⟨⟨k,v⟩,jr⟩:=p;simp only at jr ih ⊢;have gl:∀ k,((ord.take k).filter (fun i=>aM s1 (bY o i).ch)).length≤1000:=fun k=>Nat.le_trans (List.length_filter_le _ _) (by simp;omega)
  by_cases hk:k < ord.length
  ·obtain ⟨i,hi⟩:∃ y,ord[k]?=some y:=⟨_,List.getElem?_eq_getElem hk⟩
   have h2:(decide ((k:Int) < (ord.length:Int)))=true:=by simpa using hk
   obtain ⟨i0,i1⟩:=om i (List.mem_of_getElem? hi);have J1:=vu i0 i1;have CM:=dU s1 (bY o i).ch;have et:=take_one hi;have gk:=gl k
   cases hm:aM s1 (bY o i).ch with
   | true =>
    rw [hm] at CM;have ef:(ord.take (k + 1)).filter (fun i=>aM s1 (bY o i).ch)=(ord.take k).filter (fun i=>aM s1 (bY o i).ch) ++ [i]:=by rw [et,List.filter_append];simp [hm]
    repeat (first | (refine K.indexAddr ?_;refine jx rfl rfl rfl rfl (by omega) (ints_at hi) ?_) | (refine K.binOp ?_;refine jc rfl rfl rfl rfl h2 rfl ?_) | refine gn ?_)
    refine J.draw (by kernel_rfl) rfl ?_;refine JW.base none ?_;refine tk 0 ?_;refine tk 1 ?_;refine tk 2 ?_;refine tk 3 ?_;refine JD.take 4 rfl rfl (by kernel_rfl) rfl (qb rfl) (Qt.cE rfl rfl i0 J1) rfl ?_;refine tk 5 ?_;refine tk 6 ?_;refine jl 7 rfl rfl rfl rfl (Ld.pure (CM) (qb rfl) rfl lq) .none (fun _=>?_);refine bP ?_
    repeat (first | (refine K.store ?_;refine JO.ld (Ld.cr rfl rfl (by exact rfl)) rfl (fun _=>?_)) | (refine K.indexAddr ?_;refine jx rfl rfl rfl rfl (by omega) (J1) ?_) | (refine K.binOp ?_;refine jq rfl rfl rfl (Qt.dy rfl rfl rfl (fq (by omega) (by omega))) ?_) | (refine K.bi ?_;first | refine JO.ld (Ld.bH (qb rfl) rfl rfl .read (by first | (simp;omega) | simp)) rfl (fun _=>?_) | refine JO.ld (Ld.bH (qb rfl) rfl rfl .bV (by (simp;omega))) rfl (fun _=>?_)) | (refine ga ?_;intro _) | refine gn ?_)
    rename_i bA vA bB vB uB bC vC;refine J.eI 3 ?_;refine J.eI 1 ?_;refine J.jR 1 2 20 rfl rfl rfl ?_;have e7:([] ++ List.map (fun n=>[nI n]) ((aa s g).order ++ List.filter (fun i=>aM s1 (bY o i).ch) (List.take k ord)) ++ [[nI i]])=((aa s g).order ++ (ord.take (k + 1)).filter (fun i=>aM s1 (bY o i).ch)).map (fun n=>[nI n]):=by rw [ef];simp
    rw [e7];have e8:(List.map (fun n=>[nI n]) (List.map (fun i=>(bY o i).ch) (List.filter (fun i=>aM s1 (bY o i).ch) (List.take k ord))) ++ [[nI (bY o i).ch]])=(((ord.take (k + 1)).filter (fun i=>aM s1 (bY o i).ch)).map (fun i=>(bY o i).ch)).map (fun n=>[nI n]):=by rw [ef];simp
    rw [e8];exact (ih ⟨(k + 1,vC),by simp only;omega⟩ (by simp only;omega)).aQ ⟨rfl,rfl,rfl,rfl,rfl,rfl,rfl,rfl,rfl,trivial⟩
   | false =>
    rw [hm] at CM;have ef:(ord.take (k + 1)).filter (fun i=>aM s1 (bY o i).ch)=(ord.take k).filter (fun i=>aM s1 (bY o i).ch):=by rw [et,List.filter_append];simp [hm]
    repeat (first | (refine K.indexAddr ?_;refine jx rfl rfl rfl rfl (by omega) (ints_at hi) ?_) | (refine K.binOp ?_;refine jc rfl rfl rfl rfl h2 rfl ?_) | refine gn ?_)
    refine J.draw (by kernel_rfl) rfl ?_;refine JW.base none ?_;refine tk 0 ?_;refine tk 1 ?_;refine tk 2 ?_;refine tk 3 ?_;refine JD.take 4 rfl rfl (by kernel_rfl) rfl (qb rfl) (Qt.cE rfl rfl i0 J1) rfl ?_;refine tk 5 ?_;refine tk 6 ?_;refine jl 7 rfl rfl rfl rfl (Ld.pure (CM) (qb rfl) rfl lq) .none (fun _=>?_);refine bP ?_
    repeat (first | (refine K.binOp ?_;refine jq rfl rfl rfl (Qt.dy rfl rfl rfl (fq (by omega) (by omega))) ?_) | refine gn ?_)
    refine J.dj ?_ ((ih ⟨(k + 1,v),by simp only;omega⟩ (by simp only;omega)).aQ ⟨rfl,rfl,rfl,rfl,rfl,rfl,rfl,rfl,rfl,trivial⟩);simp only [ef]
  ·have h2:(decide ((k:Int) < (ord.length:Int)))=false:=by simpa using hk
   obtain rfl:k=ord.length:=by omega
   rw [List.take_length] at *;refine J.gG 12 rfl ?_;simp only [← OJ] at aj;have OM:=gl ord.length;rw [List.take_length] at OM;generalize ord.filter (fun i=>aM s1 (bY o i).ch)=ij at *;have jy:(ij.map (fun i=>(bY o i).ch)).length≤50000:=by simp;omega
   generalize ij.map (fun i=>(bY o i).ch)=ids at *;have CL:=Oz ids jy;have CW:=cA s1 g { aa s g with order:=(aa s g).order ++ ij,aC:=Sx.aC ids,place:=24 } uX (by rw [xF];exact hb);have g2:g < (ai s1 g { aa s g with order:=(aa s g).order ++ ij,aC:=Sx.aC ids,place:=24 }).gs.length:=by rw [bQ];exact uX
   have b2:(ai s1 g { aa s g with order:=(aa s g).order ++ ij,aC:=Sx.aC ids,place:=24 }).gs.length≤100000:=by rw [bQ,xF];exact hb
   by_cases hi:0 < ids.length
   ·have c1:(decide ((ids.length:Int) > 0))=true:=decide_eq_true (by omega);rw [if_pos hi] at aj;rw [aj]
    repeat (first | (refine K.store ?_;first | refine JO.ld (Ld.aT rfl rfl rfl (by exact rfl) (by exact rfl)) rfl (fun _=>?_) | refine JO.ld (Ld.cr rfl rfl (by exact rfl)) rfl (fun _=>?_)) | (refine K.binOp ?_;first | refine jc rfl rfl rfl rfl h2 rfl ?_ | refine jc rfl rfl rfl rfl c1 rfl ?_) | (refine K.call ?_;first | refine jp (CL) rfl rfl rfl lq ?_ | refine jp (CW) rfl rfl rfl lq ?_) | refine gn ?_)
    (exact J.ret func144 rfl (.cons (.cell 1 rfl rfl rfl) .nil) () la [] .nil rfl rfl)
   ·have c1:(decide ((ids.length:Int) > 0))=false:=decide_eq_false (by omega);rw [if_neg hi] at aj
    cases mK:o.cQ with
    | true =>
     rw [if_pos mK] at aj;rw [aj]
     repeat (first | refine J.fI (congrArg (fun b=>some (D.c (bI b))) mK) ?_ | (refine K.store ?_;first | refine JO.ld (Ld.aT rfl rfl rfl (by exact rfl) (by exact rfl)) rfl (fun _=>?_) | refine JO.ld (Ld.cr rfl rfl (by exact rfl)) rfl (fun _=>?_)) | (refine K.binOp ?_;first | refine jc rfl rfl rfl rfl h2 rfl ?_ | refine jc rfl rfl rfl rfl c1 rfl ?_) | (refine K.call ?_;first | refine jp (CL) rfl rfl rfl lq ?_ | refine jp (CW) rfl rfl rfl lq ?_ | refine jp (hJ _ g (res 2) 18 g2 b2) rfl rfl rfl lq ?_) | refine gn ?_)
     (exact J.ret func144 rfl (.cons (.cell 1 rfl rfl rfl) .nil) () la [] .nil rfl rfl)
    | false =>
     rw [if_neg (by rw [mK];simp)] at aj;rw [aj]
     repeat (first | refine J.eW (congrArg (fun b=>some (D.c (bI b))) mK) ?_ | (refine K.store ?_;first | refine JO.ld (Ld.aT rfl rfl rfl (by exact rfl) (by exact rfl)) rfl (fun _=>?_) | refine JO.ld (Ld.cr rfl rfl (by exact rfl)) rfl (fun _=>?_)) | (refine K.binOp ?_;first | refine jc rfl rfl rfl rfl h2 rfl ?_ | refine jc rfl rfl rfl rfl c1 rfl ?_) | (refine K.call ?_;first | refine jp (CL) rfl rfl rfl lq ?_ | refine jp (CW) rfl rfl rfl lq ?_ | refine jp (FM _ g g2 b2) rfl rfl rfl lq ?_) | refine gn ?_)
     (exact J.ret func144 rfl (.cons (.cell 1 rfl rfl rfl) .nil) () la [] .nil rfl rfl)
end Fl
open Go.RowKit
namespace Fl
open Sx Go.Proofs.Tryz
set_option maxRecDepth 100000
theorem FT {s:ah} {g:Nat} {x:Gr} (h:g < s.gs.length):aa (ai s g x) g=x:=by
 unfold aa ai;simp [h]
structure BeOk (s:ah) (g:Nat):Prop where
 lt:g < s.gs.length
 fit:Fit s
 cL:0≤(aa s g).at_
 dr:0≤s.drawn∧s.drawn≤50000
 du:∀ x∈s.cD,0≤x∧x < 65536
 cl:(ag s g).cases.length≤1000
theorem ON (s:ah) (g:Nat) (h:BeOk s g) :
  Pure prog 98 [.agg (az s),.c (nI g)] (.agg (az (jg s g))):=by
 have hg:=h.lt;have hb:=h.fit.1.1;have aj:jg s g=jg s g:=rfl
 conv at aj=>rhs;unfold jg;simp only
 refine aq.intro func98 rfl rfl rfl (fun ok e=>?_)
 by_cases ha:((aa s g).ops.length:Int)≤(aa s g).at_
 ·rw [if_pos ha] at aj;rw [aj];have c1:(decide ((aa s g).at_ ≥ ((aa s g).ops.length:Int)))=true:=decide_eq_true ha
  repeat (first | refine aI (cA s g { aa s g with status:=2,token:=false } hg hb) ?_ | refine av ?_ | intro _)
  exact aA func98
 ·rw [if_neg ha] at aj;have c1:(decide ((aa s g).at_ ≥ ((aa s g).ops.length:Int)))=false:=decide_eq_false ha;have C1:=EE s g hg hb;have g1:g < (Sx.clear s g).gs.length:=by unfold Sx.clear;rw [bQ];exact hg
  have b1:(Sx.clear s g).gs.length≤100000:=by unfold Sx.clear;rw [bQ];exact hb
  have f1:Fit (Sx.clear s g):=h.fit.fJ g _ ⟨by simp [ja,clean],by simp [ja,clean],by simp [ja,clean]⟩;have e1:aa (Sx.clear s g) g=ja (aa s g):=FT hg;have jB:(Sx.clear s g).drawn=s.drawn:=rfl;have OO:(Sx.clear s g).cD=s.cD:=rfl;generalize Sx.clear s g=s1 at *;have C2:=cA s1 g { aa s1 g with call:=s1.step } g1 b1;have e2:aa (ai s1 g { aa s1 g with call:=s1.step }) g={ aa s1 g with call:=s1.step }:=FT g1;have g2:g < (ai s1 g { aa s1 g with call:=s1.step }).gs.length:=by rw [bQ];exact g1
  have b2:(ai s1 g { aa s1 g with call:=s1.step }).gs.length≤100000:=by rw [bQ];exact b1
  have f2:Fit (ai s1 g { aa s1 g with call:=s1.step }):=f1.fJ g _ ⟨f1.wk g,f1.od g,f1.sg g⟩;have OP:(ai s1 g { aa s1 g with call:=s1.step }).drawn=s.drawn:=jB;have OQ:(ai s1 g { aa s1 g with call:=s1.step }).cD=s.cD:=OO;generalize ai s1 g { aa s1 g with call:=s1.step }=s2 at *;have eo:ag s2 g=ag s g:=by unfold ag;rw [e2,e1];rfl
  have C3:=cU s2 g g2 (by rw [e2,e1];exact h.cL);rw [eo] at aj C3;have CM:=dU s2 (ag s g).ch;have FL:FR s2 g (ag s g):=⟨g2,f2,by rw [OP];exact h.dr,by rw [OQ];exact h.du,h.cl⟩
  have KE:∀ v:Int,(ag s g).kind=v→∀ c,((ag s g).kind == c)=(v == c):=fun v hv c=>by rw [hv]
  by_cases AI:(ag s g).kind=1∨(ag s g).kind=7∨(ag s g).kind=8
  ·rw [if_pos AI] at aj;rw [aj];have C4:=ei s2 g 20 g2 b2;rcases AI with hk | hk | hk
   all_goals
    repeat (first | refine aJ (KE _ hk _) ?_ | refine av ?_ | intro _)
    exact aA func98
  rw [if_neg AI] at aj
  by_cases xG:(ag s g).kind=2∨(ag s g).kind=3
  ·rw [if_pos xG] at aj
   cases hm:aM s2 (ag s g).ch with
   | true =>
    rw [if_pos hm] at aj;rw [hm] at CM;rw [aj];have C4:=ei s2 g 4 g2 b2;rcases xG with hk | hk
    all_goals
     repeat (first | refine aJ (KE _ hk _) ?_ | refine av ?_ | intro _)
     exact aA func98
   | false =>
    rw [if_neg (by rw [hm];simp)] at aj;rw [hm] at CM;rw [aj];have C4:=FM s2 g g2 b2;rcases xG with hk | hk
    all_goals
     repeat (first | refine aJ (KE _ hk _) ?_ | refine av ?_ | intro _)
     exact aA func98
  rw [if_neg xG] at aj
  by_cases xH:(ag s g).kind=4∨(ag s g).kind=5
  ·rw [if_pos xH] at aj
   cases hm:aM s2 (ag s g).ch with
   | true =>
    rw [if_pos hm] at aj;rw [hm] at CM;rw [aj];have C4:=ei s2 g 1 g2 b2;rcases xH with hk | hk
    all_goals
     repeat (first | refine aJ (KE _ hk _) ?_ | refine av ?_ | intro _)
     exact aA func98
   | false =>
    rw [if_neg (by rw [hm];simp)] at aj;rw [hm] at CM;rw [aj];have C4:=hJ s2 g (res 2) 18 g2 b2;rcases xH with hk | hk
    all_goals
     repeat (first | refine aJ (KE _ hk _) ?_ | refine av ?_ | intro _)
     exact aA func98
  rw [if_neg xH] at aj
  by_cases hk:(ag s g).kind=6
  ·rw [if_pos hk] at aj
   cases hm:aM s2 (ag s g).ch with
   | true =>
    rw [if_pos hm] at aj;rw [hm] at CM;rw [aj];have C4:=ei s2 g 4 g2 b2
    repeat (first | refine aJ (KE _ hk _) ?_ | refine av ?_ | intro _)
    exact aA func98
   | false =>
    rw [if_neg (by rw [hm];simp)] at aj;rw [hm] at CM;rw [aj];have C4:=hJ s2 g (res 5) 18 g2 b2
    repeat (first | refine aJ (KE _ hk _) ?_ | refine av ?_ | intro _)
    exact aA func98
  rw [if_neg hk] at aj;rw [aj];have C4:=OI s2 g (ag s g) FL;have n1:((ag s g).kind == 1)=false:=by simp;omega
  have n2:((ag s g).kind == 2)=false:=by simp;omega
  have n3:((ag s g).kind == 3)=false:=by simp;omega
  have n4:((ag s g).kind == 4)=false:=by simp;omega
  have n5:((ag s g).kind == 5)=false:=by simp;omega
  have n6:((ag s g).kind == 6)=false:=by simp;omega
  have n7:((ag s g).kind == 7)=false:=by simp;omega
  have n8:((ag s g).kind == 8)=false:=by simp;omega
  repeat (first | refine av ?_ | intro _)
  exact aA func98
structure FU (s:ah) (g:Nat):Prop extends BeOk s g where
 ab:(aa s g).at_≤100000
theorem OS (s:ah) (g:Nat) (h:FU s g) :
  Pure prog 83 [.agg (az s),.c (nI g)] (.aY [.agg (az (gQ s g).1),.c (bI (gQ s g).2)]):=by
 have hg:=h.lt;have ha:=h.cL;have aj:gQ s g=gQ s g:=rfl
 conv at aj=>rhs;unfold gQ;simp only
 have P:∀ v:Int,(aa s g).place=v→∀ c,((aa s g).place == c)=(v == c):=fun v hv c=>by rw [hv]
 refine aq.intro func83 rfl rfl rfl (fun ok e=>?_)
 by_cases e0:(aa s g).place=0
 ·rw [if_pos e0] at aj;rw [aj]
  repeat (first | refine aJ (P _ e0 _) ?_ | refine aI (ON s g h.toBeOk) ?_ | refine av ?_ | intro _)
  exact aA func83
 rw [if_neg e0] at aj
 by_cases e1:(aa s g).place=20
 ·rw [if_pos e1] at aj;rw [aj]
  repeat (first | refine aJ (P _ e1 _) ?_ | refine aI (OF s g hg h.fit ha) ?_ | refine av ?_ | intro _)
  exact aA func83
 rw [if_neg e1] at aj
 by_cases e2:(aa s g).place=18
 ·rw [if_pos e2] at aj;rw [aj]
  repeat (first | refine aJ (P _ e2 _) ?_ | refine aI (OE s g hg h.fit ⟨by omega,h.ab⟩) ?_ | refine av ?_ | intro _)
  exact aA func83
 rw [if_neg e2] at aj;rw [aj];have n0:((aa s g).place == 0)=false:=by simp;omega
 have n1:((aa s g).place == 20)=false:=by simp;omega
 have n2:((aa s g).place == 18)=false:=by simp;omega
 repeat (first | refine av ?_ | intro _)
 exact aA func83
end Fl
end Go.Proofs.YtgjpdogjekmemaaGreat
