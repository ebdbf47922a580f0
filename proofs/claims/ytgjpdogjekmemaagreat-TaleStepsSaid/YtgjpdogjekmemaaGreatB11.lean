/-
  What the laws need, part B11.
  Conditions: none.
-/
import Derived.Test.YtgjpdogjekmemaaGreatB10
set_option linter.unusedVariables false
set_option linter.unusedSimpArgs false
set_option linter.unnecessarySimpa false
set_option maxHeartbeats 2000000
namespace Go.Proofs.YtgjpdogjekmemaaGreat
open Go.RowKit
namespace Fl
open Sx Go.Proofs.Tryz
set_option maxRecDepth 100000
theorem lW {α:Type} (f:Gr→α) {s:ai} {o g:Nat} {x:Gr} (e:f x=f (aa s o)):f (aa (ah s o x) g)=f (aa s g):=by
 by_cases h:o=g
 ·subst h;rcases uW s o x o with e1 | e1
  ·rw [e1,e]
  ·rw [e1]
 ·have:aa (ah s o x) g=aa s g:=by
   unfold aa ah;simp only [List.getD_eq_getElem?_getD,List.getElem?_set];rw [if_neg h]
  rw [this]
theorem yb {α:Type} (f:Gr→α) {s:ai} {o g:Nat} {p:Int} (e:∀ x:Gr,f { x with place:=p }=f x):f (aa (aT s o p) g)=f (aa s g):=by
 unfold aT;exact lW f (e _)
theorem Bk {α:Type} (f:Gr→α) {s:ai} {o g:Nat} {i:Int} (e:∀ (x:Gr) (a b c:Int),f { x with bS:=a,wi:=b,c7:=c }=f x):f (aa (Sx.pair s o i) g)=f (aa s g):=by
 unfold Sx.pair;simp only
 by_cases h:o=(su s i).g.toNat
 ·subst h;rcases uW (ah s (su s i).g.toNat { aa s (su s i).g.toNat with bS:=(aa s (su s i).g.toNat).t,wi:=((su s i).g.toNat:Int),c7:=(su s i).cs }) (su s i).g.toNat { aa s (su s i).g.toNat with bS:=(aa s (su s i).g.toNat).t,wi:=(su s i).g } g with e1 | e1
  ·by_cases h2:(su s i).g.toNat=g
   ·rw [e1,← h2];exact e (aa s (su s i).g.toNat) (aa s (su s i).g.toNat).t (su s i).g (aa s (su s i).g.toNat).c7
   ·have:∀ (s:ai) (o:Nat) (x:Gr),o≠g→aa (ah s o x) g=aa s g:=fun s o x h=>by
     unfold aa ah;simp only [List.getD_eq_getElem?_getD,List.getElem?_set];rw [if_neg h]
    rw [this _ _ _ h2,this _ _ _ h2]
  ·rw [e1];exact lW f (e (aa s (su s i).g.toNat) _ _ _)
 ·have h3:∀ (s:ai) (o:Nat) (x:Gr) (g:Nat),o≠g→aa (ah s o x) g=aa s g:=fun s o x g h=>by
   unfold aa ah;simp only [List.getD_eq_getElem?_getD,List.getElem?_set];rw [if_neg h]
  rw [lW f (x:={ aa s o with bS:=(aa s o).t,wi:=(su s i).g })]
  ·exact lW f (e (aa s (su s i).g.toNat) _ _ _)
  ·rw [h3 _ _ _ _ (Ne.symm h)];exact e (aa s o) _ _ (aa s o).c7
theorem Bl {α:Type} (f:Gr→α) {s:ai} {g:Nat} {i wi ha:Int} (e:∀ (x:Gr) (a b c:Int),f { x with bS:=a,wi:=b,c7:=c }=f x) (e2:∀ (x:Gr) (p:Int),f { x with place:=p }=f x) (e3:∀ (x:Gr) (a b:Int),f { x with hold:=a,t:=b }=f x) (h:Nat):f (aa (taken s g i wi ha) h)=f (aa s h):=by
 unfold taken
 split
 ·rw [yb f (fun x=>e2 x _)];exact lW f (e3 (aa s g) i (aa s g).t)
 ·rw [yb f (fun x=>e2 x _),Bk f e,nZ (eU _ _)];exact lW f (e3 (aa s g) i s.step)
theorem uX (s:ai) (g:Nat) (i wi ha:Int):(taken s g i wi ha).gs.length=s.gs.length:=by
 unfold taken
 split
 ·simp [aT,ah]
 ·rw [qz,qD,eU,bP]
structure sR (s:ai) (g:Nat) (k:Pn.Cs):Prop where
 lt:g < s.gs.length
 fit:Fit s
 k0:0≤(aa s g).k
 k1:(aa s g).k < (aa s g).order.length
 md:aR s k.ch=true
 hr:∀ a l,(cn s k.ch).recv=a :: l→cP s a
 hs:∀ a l,(cn s k.ch).send=a :: l→cP s a
theorem sR.eT {s:ai} {g:Nat} {k:Pn.Cs} (h:sR s g k) (i wi ha:Int):0≤(aa (taken s g i wi ha) g).k∧(aa (taken s g i wi ha) g).k < (aa (taken s g i wi ha) g).order.length:=by
 rw [Bl (f:=Gr.k) (fun _ _ _ _=>rfl) (fun _ _=>rfl) (fun _ _ _=>rfl),Bl (f:=Gr.order) (fun _ _ _ _=>rfl) (fun _ _=>rfl) (fun _ _ _=>rfl)];exact ⟨h.k0,h.k1⟩
theorem GW (s:ai) (g:Nat) (i:Int) (k:Pn.Cs) (h:sR s g k) :
  Pure prog 155 [.agg (aC s),.c (nI g),.c (nI i),.agg (nE k)] (.aU [.agg (aC (gB s g i k).1),.c (bI (gB s g i k).2)]):=by
 have hg:=h.lt;have hb:=h.fit.1.1;have cQ:=h.fit.1.2.1;have hm:=h.md;have hl:=dJ hm;refine aA.intro func155 rfl rfl rfl (fun ok e=>?_)
 cases bZ:(cn s k.ch).closed with
 | true =>
  have er:gB s g i k=(dL s g ⟨3,0,0,false,0⟩ i,true):=by unfold gB;simp only;rw [if_pos bZ]
  rw [er]
  repeat (first | refine J.eZ (congrArg (fun b=>some (D.c (bI b))) bZ) ?_ | refine aO (sQ s g ⟨3,0,0,false,0⟩ i hg hb) ?_ | refine au ?_ | intro _)
  exact az func155
 | false =>
  have bX:¬ (cn s k.ch).closed=true:=by rw [bZ];simp
  cases hr:(cn s k.ch).recv with
  | cons a l =>
   have er:gB s g i k=(Sx.eT (taken s g a 26 27) g,true):=by unfold gB;simp only;rw [if_neg bX,if_pos (by rw [hr];simp),hr];rfl
   rw [er];have hz:(decide (((cn s k.ch).recv.length:Int) > 0))=true:=by rw [hr];simp
   have w0:((cn s k.ch).recv.map fun n=>[nI n])[(0:Int).toNat]?=some [nI a]:=by rw [hr];rfl
   have C1:=uT s g a 26 27 hg (h.hr a l hr) h.fit;have C2:=ya (taken s g a 26 27) g (by rw [uX];exact hg) (by rw [uX];exact hb) (fun _=>h.eT a 26 27)
   repeat (first | refine J.eK (congrArg (fun b=>some (D.c (bI b))) bZ) ?_ | refine au ?_ | intro _)
   refine J.draw (by kernel_rfl) rfl ?_;refine JW.base (some 9) ?_;refine tk 0 ?_;refine tk 1 ?_;refine tk 2 ?_;refine tk 3 ?_;refine JD.take 4 rfl rfl (by kernel_rfl) rfl (qb rfl) (Qt.dj rfl rfl (by omega) w0) rfl ?_;refine tk 5 ?_;refine tk 7 ?_;refine cz 6 (C1) ?_;refine cz 8 (C2) ?_;refine jt 9 rfl rfl (Ld.bu rfl rfl rfl (by exact rfl) (by exact rfl)) (fun _=>?_);refine JW.base none ?_;refine jk 10 rfl rfl rfl rfl (Qt.assign rfl) ?_;refine aX ?_
   all_goals
    exact az func155
  | nil =>
   have hz:(decide (((cn s k.ch).recv.length:Int) > 0))=false:=by rw [hr];rfl
   have aj:gB s g i k=if (fX (cn s k.ch).buf (cn s k.ch).cap k.v).2=true then (dL (aH s k.ch { cn s k.ch with buf:=(fX (cn s k.ch).buf (cn s k.ch).cap k.v).1 }) g ⟨1,0,0,true,0⟩ i,true) else (s,false):=by unfold gB;simp only;rw [if_neg bX,if_neg (by rw [hr];simp)]
   have CP:=A4 (cn s k.ch).buf (cn s k.ch).cap k.v (h.fit.bf _)
   cases hp:(fX (cn s k.ch).buf (cn s k.ch).cap k.v).2 with
   | true =>
    rw [if_pos hp] at aj;rw [hp] at CP;rw [aj]
    repeat (first | refine J.eK (congrArg (fun b=>some (D.c (bI b))) bZ) ?_ | refine aO (jR s k.ch { cn s k.ch with buf:=(fX (cn s k.ch).buf (cn s k.ch).cap k.v).1 } hm cQ) ?_ | refine aO (sQ (aH s k.ch { cn s k.ch with buf:=(fX (cn s k.ch).buf (cn s k.ch).cap k.v).1 }) g ⟨1,0,0,true,0⟩ i hg hb) ?_ | refine au ?_ | intro _)
    exact az func155
   | false =>
    rw [if_neg (by rw [hp];simp)] at aj;rw [hp] at CP;rw [aj]
    repeat (first | refine J.eK (congrArg (fun b=>some (D.c (bI b))) bZ) ?_ | refine au ?_ | intro _)
    exact az func155
theorem GX (s:ai) (g:Nat) (i:Int) (k:Pn.Cs) (h:sR s g k) :
  Pure prog 154 [.agg (aC s),.c (nI g),.c (nI i),.agg (nE k)] (.aU [.agg (aC (gZ s g i k).1),.c (bI (gZ s g i k).2)]):=by
 have hg:=h.lt;have hb:=h.fit.1.1;have cQ:=h.fit.1.2.1;have hm:=h.md;have hl:=dJ hm;refine aA.intro func154 rfl rfl rfl (fun ok e=>?_)
 cases hr:(cn s k.ch).send with
 | cons a l =>
  have er:gZ s g i k=(Sx.eT (taken s g a 26 27) g,true):=by unfold gZ;simp only;rw [if_pos (by rw [hr];simp),hr];rfl
  rw [er];have hz:(decide (((cn s k.ch).send.length:Int) > 0))=true:=by rw [hr];simp
  have w0:((cn s k.ch).send.map fun n=>[nI n])[(0:Int).toNat]?=some [nI a]:=by rw [hr];rfl
  have C1:=uT s g a 26 27 hg (h.hs a l hr) h.fit;have C2:=ya (taken s g a 26 27) g (by rw [uX];exact hg) (by rw [uX];exact hb) (fun _=>h.eT a 26 27)
  repeat (first | refine au ?_ | intro _)
  refine J.draw (by kernel_rfl) rfl ?_;refine JW.base (some 9) ?_;refine tk 0 ?_;refine tk 1 ?_;refine tk 2 ?_;refine tk 3 ?_;refine JD.take 4 rfl rfl (by kernel_rfl) rfl (qb rfl) (Qt.dj rfl rfl (by omega) w0) rfl ?_;refine tk 5 ?_;refine tk 7 ?_;refine cz 6 (C1) ?_;refine cz 8 (C2) ?_;refine jt 9 rfl rfl (Ld.bu rfl rfl rfl (by exact rfl) (by exact rfl)) (fun _=>?_);refine JW.base none ?_;refine jk 10 rfl rfl rfl rfl (Qt.assign rfl) ?_;refine aX ?_
  all_goals
   exact az func154
 | nil =>
  have hz:(decide (((cn s k.ch).send.length:Int) > 0))=false:=by rw [hr];rfl
  have aj:gZ s g i k=if (eW (cn s k.ch).buf).2.2=true then (dL (aH s k.ch { cn s k.ch with buf:=(eW (cn s k.ch).buf).1 }) g (dA (eW (cn s k.ch).buf).2.1 true) i,true) else if (cn s k.ch).closed=true then (dL s g (dA 0 false) i,true) else (s,false):=by unfold gZ;simp only;rw [if_neg (by rw [hr];simp)]
  have CG:=A6 (cn s k.ch).buf (h.fit.bf _)
  cases hp:(eW (cn s k.ch).buf).2.2 with
  | true =>
   rw [if_pos hp] at aj;rw [hp] at CG;rw [aj]
   repeat (first | refine aO (jR s k.ch { cn s k.ch with buf:=(eW (cn s k.ch).buf).1 } hm cQ) ?_ | refine aO (iQ (eW (cn s k.ch).buf).2.1 true) ?_ | refine aO (sQ (aH s k.ch { cn s k.ch with buf:=(eW (cn s k.ch).buf).1 }) g (dA (eW (cn s k.ch).buf).2.1 true) i hg hb) ?_ | refine au ?_ | intro _)
   exact az func154
  | false =>
   rw [if_neg (by rw [hp];simp)] at aj;rw [hp] at CG
   cases bZ:(cn s k.ch).closed with
   | true =>
    rw [if_pos bZ] at aj;rw [aj]
    repeat (first | refine J.eZ (congrArg (fun b=>some (D.c (bI b))) bZ) ?_ | refine au ?_ | intro _)
    refine J.draw (by kernel_rfl) rfl ?_;refine JW.base (some 5) ?_;refine tk 0 ?_;refine tk 1 ?_;refine tk 3 ?_;refine cz 2 (iQ 0 false) ?_;refine cz 4 (sQ s g (dA 0 false) i hg hb) ?_;refine jt 5 rfl rfl (Ld.bu rfl rfl rfl (by exact rfl) (by exact rfl)) (fun _=>?_);refine JW.base none ?_;refine jk 6 rfl rfl rfl rfl (Qt.assign rfl) ?_;refine aX ?_
    all_goals
     exact az func154
   | false =>
    rw [if_neg (by rw [bZ];simp)] at aj;rw [aj]
    repeat (first | refine J.eK (congrArg (fun b=>some (D.c (bI b))) bZ) ?_ | refine au ?_ | intro _)
    exact az func154
end Fl
open Go.RowKit
namespace Fl
open Sx Go.Proofs.Tryz
set_option maxRecDepth 100000
inductive oa:List (List A)→List (List A)→Prop
 | nil:oa [] []
 | cons {a b l m}:jM a b→oa l m→oa (a :: l) (b :: m)
theorem oa.rep {ok:Nat→Prop} {w:World} {sz:Nat} {l m:List (List A)} (h:oa l m):∀ {xs:List Value},RX ok w sz l xs→RX ok w sz m xs:=by
 induction h with
 | nil=>exact id
 | cons h1 h2 ih =>
  intro xs r;obtain ⟨vs,ys,rfl,a2,a3,a4⟩:=r;exact ⟨vs,ys,rfl,a2,h1.rep a3,ih a4⟩
theorem oa.len {l m:List (List A)} (h:oa l m):l.length=m.length:=by
 induction h with
 | nil=>rfl
 | cons _ _ ih=>simp [ih]
theorem St.GY {c:Cx} {f:Fm} {L:List ak} {a:Act} {w:World} {v:Value} {e:TypeId} {sz:Nat} {l m:List (List A)} (h:oa l m) (s:St c f (.row v e sz l :: L) a w):St c f (.row v e sz m :: L) a w:=by
 have hf:∀ x,x∈bL (ak.row v e sz m :: L)↔x∈bL (ak.row v e sz l :: L):=fun x=>by simp only [iJ,ak.cA]
 have ho:bz c (.row v e sz m :: L)=bz c (.row v e sz l :: L):=by funext x;unfold bz;rw [hf]
 have ap:=List.pairwise_cons.1 s.ap;refine ⟨s.kp,s.size,s.jj,fun q hq=>?_,fun x hx=>s.dS x ((hf x).1 hx),List.pairwise_cons.2 ⟨ap.1,ap.2⟩,fun t d hd=>by rw [ho];exact s.fr t d hd⟩;rw [ho];rcases List.mem_cons.1 hq with rfl | hq
 ·obtain ⟨xs,h1,h2⟩:=s.res _ (List.mem_cons_self ..);exact ⟨xs,by rw [← h.len];exact h1,h.rep h2⟩
 ·exact s.res q (List.mem_cons_of_mem _ hq)
theorem Ld.yc {P:Program} {c:Cx} {f:Fm} {L:List ak} {T X:TypeId} {ps:String} {af:Array Edge} {gd:Option (Nat × Bool)} {t:Nat} {e sz:Nat} {x:Operand} {d:D} {cs gX:List A} {zs:List Value} [i:ez P X e sz] [z:aW P e zs] (ht:t < c.N) (h:aY f x=some d) (hc:fV d=some cs) (hn:cs.length=sz) (h0:Nat.ble 1 sz=true) (hs:Nat.ble sz 1000=true) (hle:jM cs gX):Ld P c ⟨some t,.buildSlice X 1 #[(0,x)],T,ps,af,gd⟩ f L [] (fun b:Nat=>(t,.c (.v (.slice (some ⟨b,0,none⟩) 1 1))) :: f) (fun b=>.row (.slice (some ⟨b,0,none⟩) 1 1) e sz [gX] :: L):=⟨fun a w s K Q hK =>
 (Ld.dK ht h hc hn h0 hs).go a w s K Q fun b u w' k' s' hf=>hK b u w' k' (s'.GY (.cons hle .nil)) fun y hy=>hf y (by simpa only [iJ,ak.cA] using hy)⟩
theorem Bm (s:ai) (g:Nat) (hg:g < s.gs.length) (hb:s.gs.length≤100000) :
  Pure prog 143 [.agg (aC s),.c (nI g)] (.agg (aC (never s g))):=by
 have C1:=dX s g 19 hg hb;have C2:=AB (aT s g 19) g (by rw [qz];exact hg) (by rw [qz];exact hb);refine aA.intro func143 rfl rfl rfl (fun ok e=>?_)
 repeat (first | refine au ?_ | intro _)
 exact az func143
theorem Bn (s:ai) (g:Nat) (re:Int) (hg:g < s.gs.length) :
  Pure prog 63 [.agg (aC s),.c (nI g),.c (nI re)] (.agg (eM (Sx.mark s g re))):=by
 refine aA.intro func63 rfl rfl rfl (fun ok e=>?_)
 repeat (first | refine au ?_ | intro _)
 exact az func63
theorem GZ (s:ai) (g:Nat) (hg:g < s.gs.length) (hb:Fit s) (ha:-100000≤(aa s g).at_∧(aa s g).at_≤100000) :
  Pure prog 100 [.agg (aC s),.c (nI g)] (.agg (aC (answer s g))):=by
 have My:=hb.dn;have C1:=Bn s g s.step hg;have er:answer s g=Sx.clear (ah { s with done:=s.done ++ [Sx.mark s g s.step] } g { aa s g with at_:=(aa s g).at_ + 1,place:=0 }) g:=rfl;rw [er];have C2:=cj { s with done:=s.done ++ [Sx.mark s g s.step] } g { aa s g with at_:=(aa s g).at_ + 1,place:=0 } hg hb.1.1;have C3:=Az (ah { s with done:=s.done ++ [Sx.mark s g s.step] } g { aa s g with at_:=(aa s g).at_ + 1,place:=0 }) g (by rw [bP];exact hg) (by rw [bP];exact hb.1.1);have e1:([] ++ List.map eM s.done) ++ [eM (Sx.mark s g s.step)]=(s.done ++ [Sx.mark s g s.step]).map eM:=by simp
 refine aA.intro func100 rfl rfl rfl (fun ok e=>?_)
 repeat (first | refine au ?_ | intro _)
 refine J.draw (by kernel_rfl) rfl ?_;refine JW.base (some 12) ?_;refine tk 1 ?_;refine tk 2 ?_;refine tk 4 ?_;refine tk 5 ?_;refine tk 6 ?_;refine tk 7 ?_;refine jl 0 rfl rfl rfl rfl (Ld.eJ (qb rfl)) .none (fun _=>?_);refine jl 3 rfl rfl rfl rfl (Ld.bO (qb rfl) rfl rfl .read (by (simp;omega))) (by (exact .row (by repeat ((exact .refl))))) (fun _=>?_);refine cz 8 (C1) ?_;refine jl 9 rfl rfl rfl rfl (Ld.dK (qb rfl) rfl rfl rfl rfl rfl) .none (fun _=>?_);refine jl 10 rfl rfl rfl rfl (Ld.dU (qb rfl) rfl rfl .cX (by (simp;omega))) (by (exact .row (by repeat (first | exact .refl | refine .cons ?_)))) (fun _=>?_);refine jk 11 rfl rfl rfl rfl (Qt.fieldAddr rfl rfl) ?_;refine jt 12 rfl rfl (Ld.cW rfl rfl (by exact rfl)) (fun _=>?_);refine cH ?_
 all_goals
  rw [e1]
  repeat (first | refine au ?_ | intro _)
  exact az func100
theorem G0 (s:ai) (g:Nat) (hg:g < s.gs.length) (hb:Fit s) (ha:0≤(aa s g).at_) :
  Pure prog 99 [.agg (aC s),.c (nI g)] (.agg (aC (iC s g))):=by
 have C0:=cO s g hg ha;have Mz:=hb.1.2.1;have aj:iC s g=iC s g:=rfl
 conv at aj=>rhs;unfold iC;simp only
 refine aA.intro func99 rfl rfl rfl (fun ok e=>?_)
 by_cases hk:(ag s g).kind=1
 ·have c1:((ag s g).kind == 1)=true:=by simpa using hk
  by_cases h8:8≤s.aK.length
  ·rw [if_pos ⟨hk,h8⟩] at aj;rw [aj];have c2:(decide ((s.aK.length:Int) ≥ 8))=true:=by simp;omega
   repeat (first | refine aO (gE s g (res 7) 18 hg hb.1.1) ?_ | refine au ?_ | intro _)
   exact az func99
  ·rw [av,if_pos hk] at aj;rw [aj];have c2:(decide ((s.aK.length:Int) ≥ 8))=false:=by simp;omega
   have e1:([] ++ List.map eC s.aK) ++ [eC (⟨(ag s g).n,[],false,-1,[],[]⟩:Cn)]=(s.aK ++ [(⟨(ag s g).n,[],false,-1,[],[]⟩:Cn)]).map eC:=by simp
   have e2:((s.aK ++ [(⟨(ag s g).n,[],false,-1,[],[]⟩:Cn)]).length:Int)=s.aK.length + 1:=by simp
   repeat (first | refine au ?_ | intro _)
   refine J.draw (by kernel_rfl) rfl ?_;refine JW.base (some 10) ?_;refine tk 1 ?_;refine tk 2 ?_;refine tk 4 ?_;refine tk 5 ?_;refine tk 6 ?_;refine JD.cF (i:=0) (j:=7) (by kernel_rfl) ?_ ?_;refine JS.cC rfl rfl rfl (qb rfl) (Ld.eJ (qb rfl)) .none (fun _=>?_);refine JD.cF (i:=3) (j:=7) (by kernel_rfl) ?_ ?_;refine JS.cC rfl rfl rfl (qb rfl) (Ld.bO (qb rfl) rfl rfl .read (by (simp;omega))) (by (exact .row (by repeat ((exact .refl))))) (fun _=>?_);refine jl 7 rfl rfl rfl rfl (Ld.yc (qb rfl) rfl rfl rfl rfl rfl (show jM _ (eC (⟨(ag s g).n,[],false,-1,[],[]⟩:Cn)) from .cons .refl (.cons .nil (.cons .refl (.cons .refl (.cons .nil (.cons .nil .nil))))))) .none (fun _=>?_);refine jl 8 rfl rfl rfl rfl (Ld.dU (qb rfl) rfl rfl .cX (by (simp;omega))) (by (exact .row (by repeat (first | exact .refl | refine .cons ?_)))) (fun _=>?_);refine jk 9 rfl rfl rfl rfl (Qt.fieldAddr rfl rfl) ?_;refine jt 10 rfl rfl (Ld.cW rfl rfl (by exact rfl)) (fun _=>?_);refine cH ?_
   rotate_left
   refine JS.cC rfl rfl rfl (qb rfl) (Ld.yc (qb rfl) rfl rfl rfl rfl rfl (show jM _ (eC (⟨(ag s g).n,[],false,-1,[],[]⟩:Cn)) from .cons .refl (.cons .nil (.cons .refl (.cons .refl (.cons .nil (.cons .nil .nil))))))) .none (fun _=>?_);refine jl 3 rfl rfl rfl rfl (Ld.bO (qb rfl) rfl rfl .read (by (simp;omega))) (by (exact .row (by repeat (first | exact .refl | refine .cons ?_)))) (fun _=>?_);refine jl 8 rfl rfl rfl rfl (Ld.dU (qb rfl) rfl rfl .cX (by (simp;omega))) (by (exact .row (by repeat (first | exact .refl | refine .cons ?_)))) (fun _=>?_);refine jk 9 rfl rfl rfl rfl (Qt.fieldAddr rfl rfl) ?_;refine jt 10 rfl rfl (Ld.cW rfl rfl (by exact rfl)) (fun _=>?_);refine cH ?_
   rotate_left
   refine JS.cC rfl rfl rfl (qb rfl) (Ld.yc (qb rfl) rfl rfl rfl rfl rfl (show jM _ (eC (⟨(ag s g).n,[],false,-1,[],[]⟩:Cn)) from .cons .refl (.cons .nil (.cons .refl (.cons .refl (.cons .nil (.cons .nil .nil))))))) .none (fun _=>?_);refine jl 0 rfl rfl rfl rfl (Ld.eJ (qb rfl)) .none (fun _=>?_);refine jl 3 rfl rfl rfl rfl (Ld.bO (qb rfl) rfl rfl .read (by (simp;omega))) (by (exact .row (by repeat (first | exact .refl | refine .cons ?_)))) (fun _=>?_);refine jl 8 rfl rfl rfl rfl (Ld.dU (qb rfl) rfl rfl .cX (by (simp;omega))) (by (exact .row (by repeat (first | exact .refl | refine .cons ?_)))) (fun _=>?_);refine jk 9 rfl rfl rfl rfl (Qt.fieldAddr rfl rfl) ?_;refine jt 10 rfl rfl (Ld.cW rfl rfl (by exact rfl)) (fun _=>?_);refine cH ?_
   rotate_left
   all_goals
    rw [e1]
    repeat (first | refine aO (gE { s with aK:=s.aK ++ [(⟨(ag s g).n,[],false,-1,[],[]⟩:Cn)] } g ⟨1,-1,0,true,s.aK.length + 1⟩ 18 hg hb.1.1) ?_ | (refine K.bi ?_;refine jq rfl rfl rfl ((Qt.pR rfl).eq (congrArg (fun z=>D.c (A.v (.int .i64 z))) e2)) ?_) | refine gn ?_)
    exact az func99
 ·rw [av,if_neg hk] at aj;have c1:((ag s g).kind == 1)=false:=by simpa using hk
  have CM:=dN s (ag s g).ch
  cases hm:aR s (ag s g).ch with
  | false =>
   rw [hm] at CM;rw [if_neg (by rw [hm];simp),if_neg (by rw [hm];simp)] at aj;rw [aj]
   repeat (first | refine aO (gE s g ⟨1,-1,0,true,0⟩ 18 hg hb.1.1) ?_ | refine au ?_ | intro _)
   exact az func99
  | true =>
   rw [hm] at CM;have hl:=dJ hm
   by_cases h7:(ag s g).kind=7
   ·have c2:((ag s g).kind == 7)=true:=by simpa using h7
    rw [if_pos ⟨hm,h7⟩] at aj;rw [aj]
    repeat (first | refine aO (gE s g ⟨1,-1,0,true,(cn s (ag s g).ch).buf.length⟩ 18 hg hb.1.1) ?_ | refine au ?_ | intro _)
    exact az func99
   ·have c2:((ag s g).kind == 7)=false:=by simpa using h7
    rw [if_neg (fun h=>h7 h.2),if_pos hm] at aj;rw [aj]
    repeat (first | refine aO (gE s g ⟨1,-1,0,true,(cn s (ag s g).ch).cap⟩ 18 hg hb.1.1) ?_ | refine au ?_ | intro _)
    exact az func99
end Fl
end Go.Proofs.YtgjpdogjekmemaaGreat
