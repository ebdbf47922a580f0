/-
  What the laws need, part B19.
  Conditions: none.
-/
import Derived.Test.YtdjhhbpedllnhaaGreatB18
set_option linter.unusedVariables false
set_option linter.unusedSimpArgs false
set_option linter.unnecessarySimpa false
set_option maxHeartbeats 2000000
namespace Go.Proofs.YtdjhhbpedllnhaaGreat
open Go.RowKit
namespace Fl
open Sx Go.Proofs.Tryz
set_option maxRecDepth 100000
theorem KW (s:ah):∀ n,(Sx.drawn s n).1.length=n
 | 0=>rfl
 | n + 1=>by simp [Sx.drawn,KW s n]
theorem Up (l:List Int) (a n:Int):a≤(Sx.draw l a n).2∧(Sx.draw l a n).2≤a + 1:=by unfold Sx.draw;split <;> constructor <;> simp <;> omega
theorem Uq (l:List Int) (a n:Int):0≤(Sx.draw l a n).1:=by
 unfold Sx.draw
 split
 ·simp
 ·exact Int.emod_nonneg _ (by omega)
theorem KX (s:ah):∀ n:Nat,s.drawn≤(Sx.drawn s n).2∧(Sx.drawn s n).2≤s.drawn + n
 | 0=>by simp [Sx.drawn]
 | n + 1=>by
  have:=KX s n;have h2:=Up s.di (Sx.drawn s n).2 (n + 1);simp only [Sx.drawn];omega
theorem KY (s:ah):∀ (n:Nat) (x:Int),x∈(Sx.drawn s n).1→0≤x
 | 0,x,h=>by simp [Sx.drawn] at h
 | n + 1,x,h=>by
  simp only [Sx.drawn,List.mem_append,List.mem_singleton] at h;rcases h with h | h
  ·exact KY s n x h
  ·subst h;exact Uq _ _ _
theorem KZ (ds:List Int):∀ (n:Nat) (i:Int),i∈eU ds n→0≤i∧i < n
 | 0,i,h=>by simp [eU] at h
 | n + 1,i,h=>by
  have hl:=BW ds n;have key:∀ y,y∈eU ds n ++ [(n:Int)]→0≤y∧y < (n + 1:Nat):=fun y hy=>by
   rcases List.mem_append.1 hy with hy | hy
   ·have:=KZ ds n y hy;omega
   ·simp at hy;omega
  have zA:0≤ds.getD n 0 % ((n:Int) + 1):=Int.emod_nonneg _ (by omega);have bQ:ds.getD n 0 % ((n:Int) + 1) < n + 1:=Int.emod_lt_of_pos _ (by omega);have hg:∀ k,k < n + 1→(eU ds n ++ [(n:Int)]).getD k 0∈eU ds n ++ [(n:Int)]:=fun k hk=>by
   have:k < (eU ds n ++ [(n:Int)]).length:=by simp [hl];omega
   rw [List.getD_eq_getElem?_getD,List.getElem?_eq_getElem this];exact List.getElem_mem _
  unfold eU swap at h;rcases List.mem_or_eq_of_mem_set h with h | h
  ·rcases List.mem_or_eq_of_mem_set h with h | h
   ·exact key _ h
   ·rw [h];exact key _ (hg n (by omega))
  ·rw [h];exact key _ (hg _ (by omega))
structure K1 (s:ah) (g:Nat) (o:Pn.Op):Prop where
 lt:g < s.gs.length
 fit:Fit s
 dr:0≤s.drawn∧s.drawn≤50000
 du:∀ x∈s.di,0≤x∧x < 65536
 cl:o.cases.length≤1000
theorem Ur (s:ah) (g:Nat) (o:Pn.Op) (h:K1 s g o) :
  Pure prog 253 [.agg (aC s),.c (nI g),.agg (dH o)] (.agg (aC (ko s g o))):=by
 have hg:=h.lt;have hb:=h.fit.1.1;have Yy:=h.fit.od g;have cl:=h.cl;have d0:=h.dr;have ak:ko s g o=ko s g o:=rfl
 conv at ak=>rhs;unfold ko;simp only
 refine an.intro func253 rfl rfl rfl (fun ok e=>?_)
 repeat (first | (refine ga ?_;intro _) | refine gn ?_)
 rename_i b3 b5 b6 b7;refine J.loop (ι:={ p:Nat × Value // p.1≤o.cases.length }) (fun p=>[(18,.c (nI o.cases.length)),(19,.c (nI p.1.1)),(7,.c (.v p.1.2)),(3,.c (.v (.pointer (some ⟨b3,0,none⟩)))),(5,.c (.v (.pointer (some ⟨b5,0,none⟩)))),(6,.c (.v (.pointer (some ⟨b6,0,none⟩)))),(1,.c (nI g))])
  (fun p=>[.row p.1.2 3 1 ((Sx.drawn s p.1.1).1.map fun n=>[nI n]),.box b6 36 ri,.box b5 50 (dH o),.box b3 36 (aC { s with drawn:=(Sx.drawn s p.1.1).2 })]) (fun p=>o.cases.length - p.1.1) ⟨(0,.slice (some ⟨b7,0,none⟩) 0 0),Nat.zero_le _⟩ (fun X h=>h.aW ⟨rfl,rfl,rfl,rfl,rfl,rfl,rfl,trivial⟩) (fun p ih=>?_)
 obtain ⟨⟨k,v⟩,kJ⟩:=p;simp only at kJ ih ⊢;have vt:=KW s k;have da:=KX s k
 by_cases hk:k < o.cases.length
 ·have h1:(decide ((k:Int) < (o.cases.length:Int)))=true:=by simpa using hk
  have CD:=Ue s.di (Sx.drawn s k).2 (k + 1) (by omega) (by omega) h.du
  repeat (first | (refine K.store ?_;refine JO.ld (Ld.cY rfl rfl (by exact rfl)) rfl (fun _=>?_)) | (refine K.binOp ?_;first | refine jc rfl rfl rfl rfl h1 rfl ?_ | refine jq rfl rfl rfl (Qt.cJ rfl rfl rfl (dJ (by omega) (by omega))) ?_) | (refine K.call ?_;refine jp (CD) rfl rfl rfl lq ?_) | (refine K.bi ?_;refine JO.ld (Ld.cy (qb rfl) rfl rfl .dj (by (simp;omega))) rfl (fun _=>?_)) | (refine ga ?_;intro _) | refine gn ?_)
  rename_i u1 b9 v2;refine J.cS 1 ?_;refine J.dN ?_ ((ih ⟨(k + 1,v2),by simp only;omega⟩ (by simp only;omega)).aW ⟨rfl,rfl,rfl,rfl,rfl,rfl,rfl,trivial⟩);simp only [Sx.drawn,List.map_append,List.map_cons,List.map_nil];rfl
 ·have h1:(decide ((k:Int) < (o.cases.length:Int)))=false:=by simpa using hk
  obtain rfl:k=o.cases.length:=by omega
  have CO:=KT o.cases.length (Sx.drawn s o.cases.length).1 vt (by omega) (KY s o.cases.length);have om:=KZ (Sx.drawn s o.cases.length).1 o.cases.length;have ol:=BW (Sx.drawn s o.cases.length).1 o.cases.length;generalize rV:({ s with drawn:=(Sx.drawn s o.cases.length).2 }:ah)=s1 at *;have BY:s1.gs=s.gs:=by rw [← rV]
  have Ut:∀ c,aT s1 c=aT s c:=fun c=>by rw [← rV];rfl
  have m8:g < s1.gs.length:=by rw [BY];exact hg
  have Uu:aa s1 g=aa s g:=sY BY g;have A1:=iB m8;rw [Uu] at A1;generalize eU (Sx.drawn s o.cases.length).1 o.cases.length=ord at *;refine J.ji 7 rfl ?_
  repeat (first | (refine K.store ?_;refine JO.ld (Ld.bq rfl rfl rfl (by exact rfl) (by exact rfl)) rfl (fun _=>?_)) | (refine K.indexAddr ?_;refine jx rfl rfl rfl rfl (by omega) (A1) ?_) | (refine K.binOp ?_;refine jc rfl rfl rfl rfl h1 rfl ?_) | (refine K.call ?_;refine JO.KP (CO) rfl (qb rfl) rfl ?_ ?_;(focus ((repeat (first | exact aJ.nil | refine aJ.cons dU.refl ?_));done));intro _) | (refine ga ?_;intro _) | refine gn ?_)
  rename_i sJ Yz sK vo;refine J.ji 46 rfl ?_;rw [List.length_map];refine J.loop (ι:={ p:Nat × Value // p.1≤ord.length }) (fun p=>[(46,.c (ints ord)),(47,.c (nI ord.length)),(48,.c (nI p.1.1)),(12,.c (.v p.1.2)),(11,.c (.v (.pointer (some ⟨sJ,0,none⟩)))),(3,.c (.v (.pointer (some ⟨b3,0,none⟩)))),(5,.c (.v (.pointer (some ⟨b5,0,none⟩)))),(6,.c (.v (.pointer (some ⟨b6,0,none⟩)))),(1,.c (nI g))])
   (fun p=>[.row p.1.2 3 1 ((((ord.take p.1.1).filter (fun i=>aT s1 (aH o i).ch)).map (fun i=>(aH o i).ch)).map fun n=>[nI n]),.box sJ 47 ((eG (aa s g)).set 20 (ints ((aa s g).order ++ (ord.take p.1.1).filter (fun i=>aT s1 (aH o i).ch)))),.box b6 36 ri,.box b5 50 (dH o),.box b3 36 (aC s1)]) (fun p=>ord.length - p.1.1) ⟨(0,.slice (some ⟨sK,0,none⟩) 0 0),Nat.zero_le _⟩ (fun X h=>?_) (fun p ih=>?_)
  ·refine J.dN ?_ (h.aW ⟨rfl,rfl,rfl,rfl,rfl,rfl,rfl,rfl,rfl,trivial⟩);simp only [List.take_zero,List.filter_nil,List.map_nil,List.append_nil];rfl
  obtain ⟨⟨k,v⟩,kJ⟩:=p;simp only at kJ ih ⊢;have gl:∀ k,((ord.take k).filter (fun i=>aT s1 (aH o i).ch)).length≤1000:=fun k=>Nat.le_trans (List.length_filter_le _ _) (by simp;omega)
  by_cases hk:k < ord.length
  ·obtain ⟨i,hi⟩:∃ y,ord[k]?=some y:=⟨_,List.getElem?_eq_getElem hk⟩
   have h2:(decide ((k:Int) < (ord.length:Int)))=true:=by simpa using hk
   obtain ⟨i0,i1⟩:=om i (List.mem_of_getElem? hi);have J1:=zy i0 i1;have CM:=fH s1 (aH o i).ch;have et:=take_one hi;have gk:=gl k
   cases hm:aT s1 (aH o i).ch with
   | true =>
    rw [hm] at CM;have ef:(ord.take (k + 1)).filter (fun i=>aT s1 (aH o i).ch)=(ord.take k).filter (fun i=>aT s1 (aH o i).ch) ++ [i]:=by rw [et,List.filter_append];simp [hm]
    repeat (first | (refine K.indexAddr ?_;refine jx rfl rfl rfl rfl (by omega) (ints_at hi) ?_) | (refine K.binOp ?_;refine jc rfl rfl rfl rfl h2 rfl ?_) | refine gn ?_)
    refine J.draw (by kernel_rfl) rfl ?_;refine JW.base none ?_;refine tk 0 ?_;refine tk 1 ?_;refine tk 2 ?_;refine tk 3 ?_;refine JD.take 4 rfl rfl (by kernel_rfl) rfl (qb rfl) (Qt.cI rfl rfl i0 J1) rfl ?_;refine tk 5 ?_;refine tk 6 ?_;refine jl 7 rfl rfl rfl rfl (Ld.pure (CM) (qb rfl) rfl lq) .none (fun _=>?_);refine bE ?_
    repeat (first | (refine K.store ?_;refine JO.ld (Ld.cY rfl rfl (by exact rfl)) rfl (fun _=>?_)) | (refine K.indexAddr ?_;refine jx rfl rfl rfl rfl (by omega) (J1) ?_) | (refine K.binOp ?_;refine jq rfl rfl rfl (Qt.cJ rfl rfl rfl (dJ (by omega) (by omega))) ?_) | (refine K.bi ?_;first | refine JO.ld (Ld.cy (qb rfl) rfl rfl .read (by first | (simp;omega) | simp)) rfl (fun _=>?_) | refine JO.ld (Ld.cy (qb rfl) rfl rfl .dj (by (simp;omega))) rfl (fun _=>?_)) | (refine ga ?_;intro _) | refine gn ?_)
    rename_i bA vA bB vB uB bC vC;refine J.cS 3 ?_;refine J.cS 1 ?_;refine J.mT 1 2 20 rfl rfl rfl ?_;have e7:([] ++ List.map (fun n=>[nI n]) ((aa s g).order ++ List.filter (fun i=>aT s1 (aH o i).ch) (List.take k ord)) ++ [[nI i]])=((aa s g).order ++ (ord.take (k + 1)).filter (fun i=>aT s1 (aH o i).ch)).map (fun n=>[nI n]):=by rw [ef];simp
    rw [e7];have e8:(List.map (fun n=>[nI n]) (List.map (fun i=>(aH o i).ch) (List.filter (fun i=>aT s1 (aH o i).ch) (List.take k ord))) ++ [[nI (aH o i).ch]])=(((ord.take (k + 1)).filter (fun i=>aT s1 (aH o i).ch)).map (fun i=>(aH o i).ch)).map (fun n=>[nI n]):=by rw [ef];simp
    rw [e8];exact (ih ⟨(k + 1,vC),by simp only;omega⟩ (by simp only;omega)).aW ⟨rfl,rfl,rfl,rfl,rfl,rfl,rfl,rfl,rfl,trivial⟩
   | false =>
    rw [hm] at CM;have ef:(ord.take (k + 1)).filter (fun i=>aT s1 (aH o i).ch)=(ord.take k).filter (fun i=>aT s1 (aH o i).ch):=by rw [et,List.filter_append];simp [hm]
    repeat (first | (refine K.indexAddr ?_;refine jx rfl rfl rfl rfl (by omega) (ints_at hi) ?_) | (refine K.binOp ?_;refine jc rfl rfl rfl rfl h2 rfl ?_) | refine gn ?_)
    refine J.draw (by kernel_rfl) rfl ?_;refine JW.base none ?_;refine tk 0 ?_;refine tk 1 ?_;refine tk 2 ?_;refine tk 3 ?_;refine JD.take 4 rfl rfl (by kernel_rfl) rfl (qb rfl) (Qt.cI rfl rfl i0 J1) rfl ?_;refine tk 5 ?_;refine tk 6 ?_;refine jl 7 rfl rfl rfl rfl (Ld.pure (CM) (qb rfl) rfl lq) .none (fun _=>?_);refine bE ?_
    repeat (first | (refine K.binOp ?_;refine jq rfl rfl rfl (Qt.cJ rfl rfl rfl (dJ (by omega) (by omega))) ?_) | refine gn ?_)
    refine J.dN ?_ ((ih ⟨(k + 1,v),by simp only;omega⟩ (by simp only;omega)).aW ⟨rfl,rfl,rfl,rfl,rfl,rfl,rfl,rfl,rfl,trivial⟩);simp only [ef]
  ·have h2:(decide ((k:Int) < (ord.length:Int)))=false:=by simpa using hk
   obtain rfl:k=ord.length:=by omega
   rw [List.take_length] at *;refine J.ji 12 rfl ?_;simp only [← Ut] at ak;have Uv:=gl ord.length;rw [List.take_length] at Uv;generalize ord.filter (fun i=>aT s1 (aH o i).ch)=gj at *;have jQ:(gj.map (fun i=>(aH o i).ch)).length≤50000:=by simp;omega
   generalize gj.map (fun i=>(aH o i).ch)=ids at *;have CL:=Ui ids jQ;have CW:=cV s1 g { aa s g with order:=(aa s g).order ++ gj,aB:=Sx.aB ids,place:=24 } m8 (by rw [BY];exact hb);have g2:g < (ai s1 g { aa s g with order:=(aa s g).order ++ gj,aB:=Sx.aB ids,place:=24 }).gs.length:=by rw [cD];exact m8
   have b2:(ai s1 g { aa s g with order:=(aa s g).order ++ gj,aB:=Sx.aB ids,place:=24 }).gs.length≤100000:=by rw [cD,BY];exact hb
   by_cases hi:0 < ids.length
   ·have c1:(decide ((ids.length:Int) > 0))=true:=decide_eq_true (by omega);rw [if_pos hi] at ak;rw [ak]
    repeat (first | (refine K.store ?_;first | refine JO.ld (Ld.bq rfl rfl rfl (by exact rfl) (by exact rfl)) rfl (fun _=>?_) | refine JO.ld (Ld.cY rfl rfl (by exact rfl)) rfl (fun _=>?_)) | (refine K.binOp ?_;first | refine jc rfl rfl rfl rfl h2 rfl ?_ | refine jc rfl rfl rfl rfl c1 rfl ?_) | (refine K.call ?_;first | refine jp (CL) rfl rfl rfl lq ?_ | refine jp (CW) rfl rfl rfl lq ?_) | refine gn ?_)
    (exact J.ret func253 rfl (.cons (.cell 1 rfl rfl rfl) .nil) () la [] .nil rfl rfl)
   ·have c1:(decide ((ids.length:Int) > 0))=false:=decide_eq_false (by omega);rw [if_neg hi] at ak
    cases mI:o.de with
    | true =>
     rw [if_pos mI] at ak;rw [ak]
     repeat (first | refine J.gK (congrArg (fun b=>some (D.c (bI b))) mI) ?_ | (refine K.store ?_;first | refine JO.ld (Ld.bq rfl rfl rfl (by exact rfl) (by exact rfl)) rfl (fun _=>?_) | refine JO.ld (Ld.cY rfl rfl (by exact rfl)) rfl (fun _=>?_)) | (refine K.binOp ?_;first | refine jc rfl rfl rfl rfl h2 rfl ?_ | refine jc rfl rfl rfl rfl c1 rfl ?_) | (refine K.call ?_;first | refine jp (CL) rfl rfl rfl lq ?_ | refine jp (CW) rfl rfl rfl lq ?_ | refine jp (jo _ g (res 2) 18 g2 b2) rfl rfl rfl lq ?_) | refine gn ?_)
     (exact J.ret func253 rfl (.cons (.cell 1 rfl rfl rfl) .nil) () la [] .nil rfl rfl)
    | false =>
     rw [if_neg (by rw [mI];simp)] at ak;rw [ak]
     repeat (first | refine J.fT (congrArg (fun b=>some (D.c (bI b))) mI) ?_ | (refine K.store ?_;first | refine JO.ld (Ld.bq rfl rfl rfl (by exact rfl) (by exact rfl)) rfl (fun _=>?_) | refine JO.ld (Ld.cY rfl rfl (by exact rfl)) rfl (fun _=>?_)) | (refine K.binOp ?_;first | refine jc rfl rfl rfl rfl h2 rfl ?_ | refine jc rfl rfl rfl rfl c1 rfl ?_) | (refine K.call ?_;first | refine jp (CL) rfl rfl rfl lq ?_ | refine jp (CW) rfl rfl rfl lq ?_ | refine jp (KV _ g g2 b2) rfl rfl rfl lq ?_) | refine gn ?_)
     (exact J.ret func253 rfl (.cons (.cell 1 rfl rfl rfl) .nil) () la [] .nil rfl rfl)
end Fl
open Go.RowKit
namespace Fl
open Sx Go.Proofs.Tryz
set_option maxRecDepth 100000
theorem K5 {s:ah} {g:Nat} {x:Gr} (h:g < s.gs.length):aa (ai s g x) g=x:=by
 unfold aa ai;simp [h]
structure BeOk (s:ah) (g:Nat):Prop where
 lt:g < s.gs.length
 fit:Fit s
 dD:0≤(aa s g).at_
 dr:0≤s.drawn∧s.drawn≤50000
 du:∀ x∈s.di,0≤x∧x < 65536
 cl:(ag s g).cases.length≤1000
theorem Uw (s:ah) (g:Nat) (h:BeOk s g) :
  Pure prog 222 [.agg (aC s),.c (nI g)] (.agg (aC (kq s g))):=by
 have hg:=h.lt;have hb:=h.fit.1.1;have ak:kq s g=kq s g:=rfl
 conv at ak=>rhs;unfold kq;simp only
 refine an.intro func222 rfl rfl rfl (fun ok e=>?_)
 by_cases ha:((aa s g).ops.length:Int)≤(aa s g).at_
 ·rw [if_pos ha] at ak;rw [ak];have c1:(decide ((aa s g).at_ ≥ ((aa s g).ops.length:Int)))=true:=decide_eq_true ha
  repeat (first | refine aX (cV s g { aa s g with status:=2,token:=false } hg hb) ?_ | refine ay ?_ | intro _)
  exact aD func222
 ·rw [if_neg ha] at ak;have c1:(decide ((aa s g).at_ ≥ ((aa s g).ops.length:Int)))=false:=decide_eq_false ha;have C1:=II s g hg hb;have g1:g < (Sx.clear s g).gs.length:=by unfold Sx.clear;rw [cD];exact hg
  have b1:(Sx.clear s g).gs.length≤100000:=by unfold Sx.clear;rw [cD];exact hb
  have f1:Fit (Sx.clear s g):=h.fit.dR g _ ⟨by simp [oG,clean],by simp [oG,clean],by simp [oG,clean]⟩;have e1:aa (Sx.clear s g) g=oG (aa s g):=K5 hg;have kO:(Sx.clear s g).drawn=s.drawn:=rfl;have Ux:(Sx.clear s g).di=s.di:=rfl;generalize Sx.clear s g=s1 at *;have C2:=cV s1 g { aa s1 g with call:=s1.step } g1 b1;have e2:aa (ai s1 g { aa s1 g with call:=s1.step }) g={ aa s1 g with call:=s1.step }:=K5 g1;have g2:g < (ai s1 g { aa s1 g with call:=s1.step }).gs.length:=by rw [cD];exact g1
  have b2:(ai s1 g { aa s1 g with call:=s1.step }).gs.length≤100000:=by rw [cD];exact b1
  have f2:Fit (ai s1 g { aa s1 g with call:=s1.step }):=f1.dR g _ ⟨f1.wk g,f1.od g,f1.sg g⟩;have Uy:(ai s1 g { aa s1 g with call:=s1.step }).drawn=s.drawn:=kO;have Uz:(ai s1 g { aa s1 g with call:=s1.step }).di=s.di:=Ux;generalize ai s1 g { aa s1 g with call:=s1.step }=s2 at *;have eo:ag s2 g=ag s g:=by unfold ag;rw [e2,e1];rfl
  have C3:=dI s2 g g2 (by rw [e2,e1];exact h.dD);rw [eo] at ak C3;have CM:=fH s2 (ag s g).ch;have td:K1 s2 g (ag s g):=⟨g2,f2,by rw [Uy];exact h.dr,by rw [Uz];exact h.du,h.cl⟩
  have KE:∀ v:Int,(ag s g).kind=v→∀ c,((ag s g).kind == c)=(v == c):=fun v hv c=>by rw [hv]
  by_cases FD:(ag s g).kind=1∨(ag s g).kind=7∨(ag s g).kind=8
  ·rw [if_pos FD] at ak;rw [ak];have C4:=fQ s2 g 20 g2 b2;rcases FD with hk | hk | hk
   all_goals
    repeat (first | refine aQ (KE _ hk _) ?_ | refine ay ?_ | intro _)
    exact aD func222
  rw [if_neg FD] at ak
  by_cases BZ:(ag s g).kind=2∨(ag s g).kind=3
  ·rw [if_pos BZ] at ak
   cases hm:aT s2 (ag s g).ch with
   | true =>
    rw [if_pos hm] at ak;rw [hm] at CM;rw [ak];have C4:=fQ s2 g 4 g2 b2;rcases BZ with hk | hk
    all_goals
     repeat (first | refine aQ (KE _ hk _) ?_ | refine ay ?_ | intro _)
     exact aD func222
   | false =>
    rw [if_neg (by rw [hm];simp)] at ak;rw [hm] at CM;rw [ak];have C4:=KV s2 g g2 b2;rcases BZ with hk | hk
    all_goals
     repeat (first | refine aQ (KE _ hk _) ?_ | refine ay ?_ | intro _)
     exact aD func222
  rw [if_neg BZ] at ak
  by_cases Ca:(ag s g).kind=4∨(ag s g).kind=5
  ·rw [if_pos Ca] at ak
   cases hm:aT s2 (ag s g).ch with
   | true =>
    rw [if_pos hm] at ak;rw [hm] at CM;rw [ak];have C4:=fQ s2 g 1 g2 b2;rcases Ca with hk | hk
    all_goals
     repeat (first | refine aQ (KE _ hk _) ?_ | refine ay ?_ | intro _)
     exact aD func222
   | false =>
    rw [if_neg (by rw [hm];simp)] at ak;rw [hm] at CM;rw [ak];have C4:=jo s2 g (res 2) 18 g2 b2;rcases Ca with hk | hk
    all_goals
     repeat (first | refine aQ (KE _ hk _) ?_ | refine ay ?_ | intro _)
     exact aD func222
  rw [if_neg Ca] at ak
  by_cases hk:(ag s g).kind=6
  ·rw [if_pos hk] at ak
   cases hm:aT s2 (ag s g).ch with
   | true =>
    rw [if_pos hm] at ak;rw [hm] at CM;rw [ak];have C4:=fQ s2 g 4 g2 b2
    repeat (first | refine aQ (KE _ hk _) ?_ | refine ay ?_ | intro _)
    exact aD func222
   | false =>
    rw [if_neg (by rw [hm];simp)] at ak;rw [hm] at CM;rw [ak];have C4:=jo s2 g (res 5) 18 g2 b2
    repeat (first | refine aQ (KE _ hk _) ?_ | refine ay ?_ | intro _)
    exact aD func222
  rw [if_neg hk] at ak;rw [ak];have C4:=Ur s2 g (ag s g) td;have n1:((ag s g).kind == 1)=false:=by simp;omega
  have n2:((ag s g).kind == 2)=false:=by simp;omega
  have n3:((ag s g).kind == 3)=false:=by simp;omega
  have n4:((ag s g).kind == 4)=false:=by simp;omega
  have n5:((ag s g).kind == 5)=false:=by simp;omega
  have n6:((ag s g).kind == 6)=false:=by simp;omega
  have n7:((ag s g).kind == 7)=false:=by simp;omega
  have n8:((ag s g).kind == 8)=false:=by simp;omega
  repeat (first | refine ay ?_ | intro _)
  exact aD func222
structure K7 (s:ah) (g:Nat):Prop extends BeOk s g where
 ab:(aa s g).at_≤100000
theorem UA (s:ah) (g:Nat) (h:K7 s g) :
  Pure prog 170 [.agg (aC s),.c (nI g)] (.bp [.agg (aC (jm s g).1),.c (bI (jm s g).2)]):=by
 have hg:=h.lt;have ha:=h.dD;have ak:jm s g=jm s g:=rfl
 conv at ak=>rhs;unfold jm;simp only
 have P:∀ v:Int,(aa s g).place=v→∀ c,((aa s g).place == c)=(v == c):=fun v hv c=>by rw [hv]
 refine an.intro func170 rfl rfl rfl (fun ok e=>?_)
 by_cases e0:(aa s g).place=0
 ·rw [if_pos e0] at ak;rw [ak]
  repeat (first | refine aQ (P _ e0 _) ?_ | refine aX (Uw s g h.toBeOk) ?_ | refine ay ?_ | intro _)
  exact aD func170
 rw [if_neg e0] at ak
 by_cases e1:(aa s g).place=20
 ·rw [if_pos e1] at ak;rw [ak]
  repeat (first | refine aQ (P _ e1 _) ?_ | refine aX (Uo s g hg h.fit ha) ?_ | refine ay ?_ | intro _)
  exact aD func170
 rw [if_neg e1] at ak
 by_cases e2:(aa s g).place=18
 ·rw [if_pos e2] at ak;rw [ak]
  repeat (first | refine aQ (P _ e2 _) ?_ | refine aX (Um s g hg h.fit ⟨by omega,h.ab⟩) ?_ | refine ay ?_ | intro _)
  exact aD func170
 rw [if_neg e2] at ak;rw [ak];have n0:((aa s g).place == 0)=false:=by simp;omega
 have n1:((aa s g).place == 20)=false:=by simp;omega
 have n2:((aa s g).place == 18)=false:=by simp;omega
 repeat (first | refine ay ?_ | intro _)
 exact aD func170
end Fl
end Go.Proofs.YtdjhhbpedllnhaaGreat
