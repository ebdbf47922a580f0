/-
  What the laws need, part A40.
  Conditions: none.
-/
import Derived.Test.YtofnbflkhgammaaGreatA39
set_option linter.unusedVariables false
set_option linter.unusedSimpArgs false
set_option linter.unnecessarySimpa false
set_option maxHeartbeats 2000000
namespace Go.Proofs.YtofnbflkhgammaaGreat
open Go.RowKit
namespace Fl
open Sx
set_option maxRecDepth 100000
inductive tA:List (List A)→List (List A)→Prop
 | nil:tA [] []
 | cons {a b l m}:iD a b→tA l m→tA (a :: l) (b :: m)
theorem tA.rep {ok:Nat→Prop} {w:World} {sz:Nat} {l m:List (List A)} (h:tA l m):∀ {xs:List Value},RX ok w sz l xs→RX ok w sz m xs:=by
 induction h with
 | nil=>exact id
 | cons h1 h2 ih =>
  intro xs r;obtain ⟨vs,ys,rfl,a2,a3,a4⟩:=r;exact ⟨vs,ys,rfl,a2,h1.rep a3,ih a4⟩
theorem tA.len {l m:List (List A)} (h:tA l m):l.length=m.length:=by
 induction h with
 | nil=>rfl
 | cons _ _ ih=>simp [ih]
theorem St.Ym {c:Cx} {f:Fm} {L:List ai} {a:Act} {w:World} {v:Value} {e:TypeId} {sz:Nat} {l m:List (List A)} (h:tA l m) (s:St c f (.row v e sz l :: L) a w):St c f (.row v e sz m :: L) a w:=by
 have hf:∀ x,x∈aO (ai.row v e sz m :: L)↔x∈aO (ai.row v e sz l :: L):=fun x=>by simp only [jY,ai.bM]
 have ho:bh c (.row v e sz m :: L)=bh c (.row v e sz l :: L):=by funext x;unfold bh;rw [hf]
 have ap:=List.pairwise_cons.1 s.ap;refine ⟨s.kp,s.size,s.jT,fun q hq=>?_,fun x hx=>s.fN x ((hf x).1 hx),List.pairwise_cons.2 ⟨ap.1,ap.2⟩,fun t d hd=>by rw [ho];exact s.fr t d hd⟩;rw [ho];rcases List.mem_cons.1 hq with rfl | hq
 ·obtain ⟨xs,h1,h2⟩:=s.res _ (List.mem_cons_self ..);exact ⟨xs,by rw [← h.len];exact h1,h.rep h2⟩
 ·exact s.res q (List.mem_cons_of_mem _ hq)
theorem Ld.Gh {P:Program} {c:Cx} {f:Fm} {L:List ai} {T X:TypeId} {ps:String} {af:Array Edge} {gd:Option (Nat × Bool)} {t:Nat} {e sz:Nat} {x:Operand} {d:D} {cs jC:List A} {zs:List Value} [i:eY P X e sz] [z:aQ P e zs] (ht:t < c.N) (h:aN f x=some d) (hc:gD d=some cs) (hn:cs.length=sz) (h0:Nat.ble 1 sz=true) (hs:Nat.ble sz 1000=true) (hle:iD cs jC):Ld P c ⟨some t,.buildSlice X 1 #[(0,x)],T,ps,af,gd⟩ f L [] (fun b:Nat=>(t,.c (.v (.slice (some ⟨b,0,none⟩) 1 1))) :: f) (fun b=>.row (.slice (some ⟨b,0,none⟩) 1 1) e sz [jC] :: L):=⟨fun a w s K Q hK =>
 (Ld.ff ht h hc hn h0 hs).go a w s K Q fun b u w' k' s' hf=>hK b u w' k' (s'.Ym (.cons hle .nil)) fun y hy=>hf y (by simpa only [jY,ai.bM] using hy)⟩
theorem M6 (s:Sx.St) (g:Nat) (hg:g < s.gs.length) (hb:s.gs.length≤100000) :
  Pure Tryz.prog 217 [.agg (ay s),.c (nI g)] (.agg (ay (never s g))):=by
 have C1:=fG s g 19 hg hb;have C2:=Me (Sx.aE s g 19) g (by rw [wA];exact hg) (by rw [wA];exact hb);refine aq.intro Tryz.func217 rfl rfl rfl (fun ok e=>?_)
 repeat (first | refine au ?_ | intro _)
 exact az Tryz.func217
theorem Yn (s:Sx.St) (g:Nat) (re:Int) (hg:g < s.gs.length) :
  Pure Tryz.prog 219 [.agg (ay s),.c (nI g),.c (nI re)] (.agg (eM (Sx.mark s g re))):=by
 refine aq.intro Tryz.func219 rfl rfl rfl (fun ok e=>?_)
 repeat (first | refine au ?_ | intro _)
 exact az Tryz.func219
theorem Yo (s:Sx.St) (g:Nat) (hg:g < s.gs.length) (hb:Fit s) (ha:-100000≤(Sx.gr s g).at_∧(Sx.gr s g).at_≤100000) :
  Pure Tryz.prog 200 [.agg (ay s),.c (nI g)] (.agg (ay (answer s g))):=by
 have We:=hb.dn;have C1:=Yn s g s.step hg;have er:answer s g=Sx.clear (Sx.aa { s with done:=s.done ++ [Sx.mark s g s.step] } g { Sx.gr s g with at_:=(Sx.gr s g).at_ + 1,place:=0 }) g:=rfl;rw [er];have C2:=cE { s with done:=s.done ++ [Sx.mark s g s.step] } g { Sx.gr s g with at_:=(Sx.gr s g).at_ + 1,place:=0 } hg hb.1.1;have C3:=FH (Sx.aa { s with done:=s.done ++ [Sx.mark s g s.step] } g { Sx.gr s g with at_:=(Sx.gr s g).at_ + 1,place:=0 }) g (by rw [bV];exact hg) (by rw [bV];exact hb.1.1);have e1:([] ++ List.map eM s.done) ++ [eM (Sx.mark s g s.step)]=(s.done ++ [Sx.mark s g s.step]).map eM:=by simp
 refine aq.intro Tryz.func200 rfl rfl rfl (fun ok e=>?_)
 repeat (first | refine au ?_ | intro _)
 refine J.draw (by kernel_rfl) rfl ?_;refine JW.base (some 12) ?_;refine tk 1 ?_;refine tk 2 ?_;refine tk 4 ?_;refine tk 5 ?_;refine tk 6 ?_;refine tk 7 ?_;refine jl 0 rfl rfl rfl rfl (Ld.gL (qb rfl)) .none (fun _=>?_);refine jl 3 rfl rfl rfl rfl (Ld.bY (qb rfl) rfl rfl .read (by (simp;omega))) (by (exact .row (by repeat ((exact .refl))))) (fun _=>?_);refine cU 8 (C1) ?_;refine jl 9 rfl rfl rfl rfl (Ld.ff (qb rfl) rfl rfl rfl rfl rfl) .none (fun _=>?_);refine jl 10 rfl rfl rfl rfl (Ld.fK (qb rfl) rfl rfl .cR (by (simp;omega))) (by (exact .row (by repeat (first | exact .refl | refine .cons ?_)))) (fun _=>?_);refine jk 11 rfl rfl rfl rfl (Qt.fieldAddr rfl rfl) ?_;refine jt 12 rfl rfl (Ld.cG rfl rfl (by exact rfl)) (fun _=>?_);refine bJ ?_
 all_goals
  rw [e1]
  repeat (first | refine au ?_ | intro _)
  exact az Tryz.func200
theorem Yp (s:Sx.St) (g:Nat) (hg:g < s.gs.length) (hb:Fit s) (ha:0≤(Sx.gr s g).at_) :
  Pure Tryz.prog 199 [.agg (ay s),.c (nI g)] (.agg (ay (j8 s g))):=by
 have C0:=dj s g hg ha;have hcb:=hb.1.2.1;have ag:j8 s g=j8 s g:=rfl
 conv at ag=>rhs;unfold j8;simp only
 refine aq.intro Tryz.func199 rfl rfl rfl (fun ok e=>?_)
 by_cases hk:(Sx.op s g).kind=1
 ·have c1:((Sx.op s g).kind == 1)=true:=by simpa using hk
  by_cases h8:8≤s.an.length
  ·rw [if_pos ⟨hk,h8⟩] at ag;rw [ag];have c2:(decide ((s.an.length:Int) ≥ 8))=true:=by simp;omega
   repeat (first | refine aJ (jh s g (res 7) 18 hg hb.1.1) ?_ | refine au ?_ | intro _)
   exact az Tryz.func199
  ·rw [ax,if_pos hk] at ag;rw [ag];have c2:(decide ((s.an.length:Int) ≥ 8))=false:=by simp;omega
   have e1:([] ++ List.map eC s.an) ++ [eC (⟨(Sx.op s g).n,[],false,-1,[],[]⟩:Cn)]=(s.an ++ [(⟨(Sx.op s g).n,[],false,-1,[],[]⟩:Cn)]).map eC:=by simp
   have e2:((s.an ++ [(⟨(Sx.op s g).n,[],false,-1,[],[]⟩:Cn)]).length:Int)=s.an.length + 1:=by simp
   repeat (first | refine au ?_ | intro _)
   refine J.draw (by kernel_rfl) rfl ?_;refine JW.base (some 10) ?_;refine tk 1 ?_;refine tk 2 ?_;refine tk 4 ?_;refine tk 5 ?_;refine tk 6 ?_;refine JD.cB (i:=0) (j:=7) (by kernel_rfl) ?_ ?_;refine JS.bp rfl rfl rfl (qb rfl) (Ld.gL (qb rfl)) .none (fun _=>?_);refine JD.cB (i:=3) (j:=7) (by kernel_rfl) ?_ ?_;refine JS.bp rfl rfl rfl (qb rfl) (Ld.bY (qb rfl) rfl rfl .read (by (simp;omega))) (by (exact .row (by repeat ((exact .refl))))) (fun _=>?_);refine jl 7 rfl rfl rfl rfl (Ld.Gh (qb rfl) rfl rfl rfl rfl rfl (show iD _ (eC (⟨(Sx.op s g).n,[],false,-1,[],[]⟩:Cn)) from .cons .refl (.cons .nil (.cons .refl (.cons .refl (.cons .nil (.cons .nil .nil))))))) .none (fun _=>?_);refine jl 8 rfl rfl rfl rfl (Ld.fK (qb rfl) rfl rfl .cR (by (simp;omega))) (by (exact .row (by repeat (first | exact .refl | refine .cons ?_)))) (fun _=>?_);refine jk 9 rfl rfl rfl rfl (Qt.fieldAddr rfl rfl) ?_;refine jt 10 rfl rfl (Ld.cG rfl rfl (by exact rfl)) (fun _=>?_);refine bJ ?_
   rotate_left
   refine JS.bp rfl rfl rfl (qb rfl) (Ld.Gh (qb rfl) rfl rfl rfl rfl rfl (show iD _ (eC (⟨(Sx.op s g).n,[],false,-1,[],[]⟩:Cn)) from .cons .refl (.cons .nil (.cons .refl (.cons .refl (.cons .nil (.cons .nil .nil))))))) .none (fun _=>?_);refine jl 3 rfl rfl rfl rfl (Ld.bY (qb rfl) rfl rfl .read (by (simp;omega))) (by (exact .row (by repeat (first | exact .refl | refine .cons ?_)))) (fun _=>?_);refine jl 8 rfl rfl rfl rfl (Ld.fK (qb rfl) rfl rfl .cR (by (simp;omega))) (by (exact .row (by repeat (first | exact .refl | refine .cons ?_)))) (fun _=>?_);refine jk 9 rfl rfl rfl rfl (Qt.fieldAddr rfl rfl) ?_;refine jt 10 rfl rfl (Ld.cG rfl rfl (by exact rfl)) (fun _=>?_);refine bJ ?_
   rotate_left
   refine JS.bp rfl rfl rfl (qb rfl) (Ld.Gh (qb rfl) rfl rfl rfl rfl rfl (show iD _ (eC (⟨(Sx.op s g).n,[],false,-1,[],[]⟩:Cn)) from .cons .refl (.cons .nil (.cons .refl (.cons .refl (.cons .nil (.cons .nil .nil))))))) .none (fun _=>?_);refine jl 0 rfl rfl rfl rfl (Ld.gL (qb rfl)) .none (fun _=>?_);refine jl 3 rfl rfl rfl rfl (Ld.bY (qb rfl) rfl rfl .read (by (simp;omega))) (by (exact .row (by repeat (first | exact .refl | refine .cons ?_)))) (fun _=>?_);refine jl 8 rfl rfl rfl rfl (Ld.fK (qb rfl) rfl rfl .cR (by (simp;omega))) (by (exact .row (by repeat (first | exact .refl | refine .cons ?_)))) (fun _=>?_);refine jk 9 rfl rfl rfl rfl (Qt.fieldAddr rfl rfl) ?_;refine jt 10 rfl rfl (Ld.cG rfl rfl (by exact rfl)) (fun _=>?_);refine bJ ?_
   rotate_left
   all_goals
    rw [e1]
    repeat (first | refine aJ (jh { s with an:=s.an ++ [(⟨(Sx.op s g).n,[],false,-1,[],[]⟩:Cn)] } g ⟨1,-1,0,true,s.an.length + 1⟩ 18 hg hb.1.1) ?_ | (refine K.bi ?_;refine jq rfl rfl rfl ((Qt.jX rfl).eq (congrArg (fun z=>D.c (A.v (.int .i64 z))) e2)) ?_) | refine gn ?_)
    exact az Tryz.func199
 ·rw [ax,if_neg hk] at ag;have c1:((Sx.op s g).kind == 1)=false:=by simpa using hk
  have CM:=eK s (Sx.op s g).ch
  cases hm:Sx.made s (Sx.op s g).ch with
  | false =>
   rw [hm] at CM;rw [if_neg (by rw [hm];simp),if_neg (by rw [hm];simp)] at ag;rw [ag]
   repeat (first | refine aJ (jh s g ⟨1,-1,0,true,0⟩ 18 hg hb.1.1) ?_ | refine au ?_ | intro _)
   exact az Tryz.func199
  | true =>
   rw [hm] at CM;have hl:=eD hm
   by_cases h7:(Sx.op s g).kind=7
   ·have c2:((Sx.op s g).kind == 7)=true:=by simpa using h7
    rw [if_pos ⟨hm,h7⟩] at ag;rw [ag]
    repeat (first | refine aJ (jh s g ⟨1,-1,0,true,(cn s (Sx.op s g).ch).buf.length⟩ 18 hg hb.1.1) ?_ | refine au ?_ | intro _)
    exact az Tryz.func199
   ·have c2:((Sx.op s g).kind == 7)=false:=by simpa using h7
    rw [if_neg (fun h=>h7 h.2),if_pos hm] at ag;rw [ag]
    repeat (first | refine aJ (jh s g ⟨1,-1,0,true,(cn s (Sx.op s g).ch).cap⟩ 18 hg hb.1.1) ?_ | refine au ?_ | intro _)
    exact az Tryz.func199
end Fl
open Go.RowKit
namespace Fl
open Sx
set_option maxRecDepth 100000
theorem M7 (s:Sx.St):∀ n,(Sx.drawn s n).1.length=n
 | 0=>rfl
 | n + 1=>by simp [Sx.drawn,M7 s n]
theorem Yq (l:List Int) (a n:Int):a≤(Sx.draw l a n).2∧(Sx.draw l a n).2≤a + 1:=by unfold Sx.draw;split <;> constructor <;> simp <;> omega
theorem Yr (l:List Int) (a n:Int):0≤(Sx.draw l a n).1:=by
 unfold Sx.draw
 split
 ·simp
 ·exact Int.emod_nonneg _ (by omega)
theorem M8 (s:Sx.St):∀ n:Nat,s.drawn≤(Sx.drawn s n).2∧(Sx.drawn s n).2≤s.drawn + n
 | 0=>by simp [Sx.drawn]
 | n + 1=>by
  have:=M8 s n;have h2:=Yq s.cL (Sx.drawn s n).2 (n + 1);simp only [Sx.drawn];omega
theorem M9 (s:Sx.St):∀ (n:Nat) (x:Int),x∈(Sx.drawn s n).1→0≤x
 | 0,x,h=>by simp [Sx.drawn] at h
 | n + 1,x,h=>by
  simp only [Sx.drawn,List.mem_append,List.mem_singleton] at h;rcases h with h | h
  ·exact M9 s n x h
  ·subst h;exact Yr _ _ _
theorem Na (ds:List Int):∀ (n:Nat) (i:Int),i∈dV ds n→0≤i∧i < n
 | 0,i,h=>by simp [dV] at h
 | n + 1,i,h=>by
  have hl:=Cc ds n;have key:∀ y,y∈dV ds n ++ [(n:Int)]→0≤y∧y < (n + 1:Nat):=fun y hy=>by
   rcases List.mem_append.1 hy with hy | hy
   ·have:=Na ds n y hy;omega
   ·simp at hy;omega
  have zA:0≤ds.getD n 0 % ((n:Int) + 1):=Int.emod_nonneg _ (by omega);have aS:ds.getD n 0 % ((n:Int) + 1) < n + 1:=Int.emod_lt_of_pos _ (by omega);have hg:∀ k,k < n + 1→(dV ds n ++ [(n:Int)]).getD k 0∈dV ds n ++ [(n:Int)]:=fun k hk=>by
   have:k < (dV ds n ++ [(n:Int)]).length:=by simp [hl];omega
   rw [List.getD_eq_getElem?_getD,List.getElem?_eq_getElem this];exact List.getElem_mem _
  unfold dV swap at h;rcases List.mem_or_eq_of_mem_set h with h | h
  ·rcases List.mem_or_eq_of_mem_set h with h | h
   ·exact key _ h
   ·rw [h];exact key _ (hg n (by omega))
  ·rw [h];exact key _ (hg _ (by omega))
structure Nb (s:Sx.St) (g:Nat) (o:Pn.Op):Prop where
 lt:g < s.gs.length
 fit:Fit s
 dr:0≤s.drawn∧s.drawn≤50000
 du:∀ x∈s.cL,0≤x∧x < 65536
 cl:o.cases.length≤1000
theorem Ys (s:Sx.St) (g:Nat) (o:Pn.Op) (h:Nb s g o) :
  Pure Tryz.prog 218 [.agg (ay s),.c (nI g),.agg (dO o)] (.agg (ay (j6 s g o))):=by
 have hg:=h.lt;have hb:=h.fit.1.1;have hob:=h.fit.od g;have cl:=h.cl;have d0:=h.dr;have ag:j6 s g o=j6 s g o:=rfl
 conv at ag=>rhs;unfold j6;simp only
 refine aq.intro Tryz.func218 rfl rfl rfl (fun ok e=>?_)
 repeat (first | (refine ga ?_;intro _) | refine gn ?_)
 rename_i b3 b5 b6 b7;refine J.loop (ι:={ p:Nat × Value // p.1≤o.cases.length }) (fun p=>[(18,.c (nI o.cases.length)),(19,.c (nI p.1.1)),(7,.c (.v p.1.2)),(3,.c (.v (.pointer (some ⟨b3,0,none⟩)))),(5,.c (.v (.pointer (some ⟨b5,0,none⟩)))),(6,.c (.v (.pointer (some ⟨b6,0,none⟩)))),(1,.c (nI g))])
  (fun p=>[.row p.1.2 3 1 ((Sx.drawn s p.1.1).1.map fun n=>[nI n]),.box b6 36 qO,.box b5 50 (dO o),.box b3 36 (ay { s with drawn:=(Sx.drawn s p.1.1).2 })]) (fun p=>o.cases.length - p.1.1) ⟨(0,.slice (some ⟨b7,0,none⟩) 0 0),Nat.zero_le _⟩ (fun X h=>h.aU ⟨rfl,rfl,rfl,rfl,rfl,rfl,rfl,trivial⟩) (fun p ih=>?_)
 obtain ⟨⟨k,v⟩,fR⟩:=p;simp only at fR ih ⊢;have nj:=M7 s k;have da:=M8 s k
 by_cases hk:k < o.cases.length
 ·have h1:(decide ((k:Int) < (o.cases.length:Int)))=true:=by simpa using hk
  have CD:=Yf s.cL (Sx.drawn s k).2 (k + 1) (by omega) (by omega) h.du
  repeat (first | (refine K.store ?_;refine JO.ld (Ld.cG rfl rfl (by exact rfl)) rfl (fun _=>?_)) | (refine K.binOp ?_;first | refine jc rfl rfl rfl rfl h1 rfl ?_ | refine jq rfl rfl rfl (Qt.cP rfl rfl rfl (fJ (by omega) (by omega))) ?_) | (refine K.call ?_;refine jp (CD) rfl rfl rfl lq ?_) | (refine K.bi ?_;refine JO.ld (Ld.bY (qb rfl) rfl rfl .cR (by (simp;omega))) rfl (fun _=>?_)) | (refine ga ?_;intro _) | refine gn ?_)
  rename_i u1 b9 v2;refine J.eF 1 ?_;refine J.dZ ?_ ((ih ⟨(k + 1,v2),by simp only;omega⟩ (by simp only;omega)).aU ⟨rfl,rfl,rfl,rfl,rfl,rfl,rfl,trivial⟩);simp only [Sx.drawn,List.map_append,List.map_cons,List.map_nil];rfl
 ·have h1:(decide ((k:Int) < (o.cases.length:Int)))=false:=by simpa using hk
  obtain rfl:k=o.cases.length:=by omega
  have CO:=M3 o.cases.length (Sx.drawn s o.cases.length).1 nj (by omega) (M9 s o.cases.length);have om:=Na (Sx.drawn s o.cases.length).1 o.cases.length;have ol:=Cc (Sx.drawn s o.cases.length).1 o.cases.length;generalize pY:({ s with drawn:=(Sx.drawn s o.cases.length).2 }:Sx.St)=s1 at *;have Ce:s1.gs=s.gs:=by rw [← pY]
  have Yt:∀ c,Sx.made s1 c=Sx.made s c:=fun c=>by rw [← pY];rfl
  have um:g < s1.gs.length:=by rw [Ce];exact hg
  have Yu:Sx.gr s1 g=Sx.gr s g:=tv Ce g;have A1:=iA um;rw [Yu] at A1;generalize dV (Sx.drawn s o.cases.length).1 o.cases.length=ord at *;refine J.jE 7 rfl ?_
  repeat (first | (refine K.store ?_;refine JO.ld (Ld.aP rfl rfl rfl (by exact rfl) (by exact rfl)) rfl (fun _=>?_)) | (refine K.indexAddr ?_;refine jx rfl rfl rfl rfl (by omega) (A1) ?_) | (refine K.binOp ?_;refine jc rfl rfl rfl rfl h1 rfl ?_) | (refine K.call ?_;refine JO.MZ (CO) rfl (qb rfl) rfl ?_ ?_;(focus ((repeat (first | exact aL.nil | refine aL.cons cQ.refl ?_));done));intro _) | (refine ga ?_;intro _) | refine gn ?_)
  rename_i mO u11 sL vo;refine J.jE 46 rfl ?_;rw [List.length_map];refine J.loop (ι:={ p:Nat × Value // p.1≤ord.length }) (fun p=>[(46,.c (ints ord)),(47,.c (nI ord.length)),(48,.c (nI p.1.1)),(12,.c (.v p.1.2)),(11,.c (.v (.pointer (some ⟨mO,0,none⟩)))),(3,.c (.v (.pointer (some ⟨b3,0,none⟩)))),(5,.c (.v (.pointer (some ⟨b5,0,none⟩)))),(6,.c (.v (.pointer (some ⟨b6,0,none⟩)))),(1,.c (nI g))])
   (fun p=>[.row p.1.2 3 1 ((((ord.take p.1.1).filter (fun i=>Sx.made s1 (bZ o i).ch)).map (fun i=>(bZ o i).ch)).map fun n=>[nI n]),.box mO 47 ((eG (Sx.gr s g)).set 20 (ints ((Sx.gr s g).order ++ (ord.take p.1.1).filter (fun i=>Sx.made s1 (bZ o i).ch)))),.box b6 36 qO,.box b5 50 (dO o),.box b3 36 (ay s1)]) (fun p=>ord.length - p.1.1) ⟨(0,.slice (some ⟨sL,0,none⟩) 0 0),Nat.zero_le _⟩ (fun X h=>?_) (fun p ih=>?_)
  ·refine J.dZ ?_ (h.aU ⟨rfl,rfl,rfl,rfl,rfl,rfl,rfl,rfl,rfl,trivial⟩);simp only [List.take_zero,List.filter_nil,List.map_nil,List.append_nil];rfl
  obtain ⟨⟨k,v⟩,fR⟩:=p;simp only at fR ih ⊢;have gl:∀ k,((ord.take k).filter (fun i=>Sx.made s1 (bZ o i).ch)).length≤1000:=fun k=>Nat.le_trans (List.length_filter_le _ _) (by simp;omega)
  by_cases hk:k < ord.length
  ·obtain ⟨i,hi⟩:∃ y,ord[k]?=some y:=⟨_,List.getElem?_eq_getElem hk⟩
   have h2:(decide ((k:Int) < (ord.length:Int)))=true:=by simpa using hk
   obtain ⟨i0,i1⟩:=om i (List.mem_of_getElem? hi);have J1:=zy i0 i1;have CM:=eK s1 (bZ o i).ch;have et:=take_one hi;have gk:=gl k
   cases hm:Sx.made s1 (bZ o i).ch with
   | true =>
    rw [hm] at CM;have ef:(ord.take (k + 1)).filter (fun i=>Sx.made s1 (bZ o i).ch)=(ord.take k).filter (fun i=>Sx.made s1 (bZ o i).ch) ++ [i]:=by rw [et,List.filter_append];simp [hm]
    repeat (first | (refine K.indexAddr ?_;refine jx rfl rfl rfl rfl (by omega) (ints_at hi) ?_) | (refine K.binOp ?_;refine jc rfl rfl rfl rfl h2 rfl ?_) | refine gn ?_)
    refine J.draw (by kernel_rfl) rfl ?_;refine JW.base none ?_;refine tk 0 ?_;refine tk 1 ?_;refine tk 2 ?_;refine tk 3 ?_;refine JD.take 4 rfl rfl (by kernel_rfl) rfl (qb rfl) (Qt.cq rfl rfl i0 J1) rfl ?_;refine tk 5 ?_;refine tk 6 ?_;refine jl 7 rfl rfl rfl rfl (Ld.pure (CM) (qb rfl) rfl lq) .none (fun _=>?_);refine bH ?_
    repeat (first | (refine K.store ?_;refine JO.ld (Ld.cG rfl rfl (by exact rfl)) rfl (fun _=>?_)) | (refine K.indexAddr ?_;refine jx rfl rfl rfl rfl (by omega) (J1) ?_) | (refine K.binOp ?_;refine jq rfl rfl rfl (Qt.cP rfl rfl rfl (fJ (by omega) (by omega))) ?_) | (refine K.bi ?_;first | refine JO.ld (Ld.bY (qb rfl) rfl rfl .read (by first | (simp;omega) | simp)) rfl (fun _=>?_) | refine JO.ld (Ld.bY (qb rfl) rfl rfl .cR (by (simp;omega))) rfl (fun _=>?_)) | (refine ga ?_;intro _) | refine gn ?_)
    rename_i bA vA bB vB uB bC vC;refine J.eF 3 ?_;refine J.eF 1 ?_;refine J.mF 1 2 20 rfl rfl rfl ?_;have e7:([] ++ List.map (fun n=>[nI n]) ((Sx.gr s g).order ++ List.filter (fun i=>Sx.made s1 (bZ o i).ch) (List.take k ord)) ++ [[nI i]])=((Sx.gr s g).order ++ (ord.take (k + 1)).filter (fun i=>Sx.made s1 (bZ o i).ch)).map (fun n=>[nI n]):=by rw [ef];simp
    rw [e7];have e8:(List.map (fun n=>[nI n]) (List.map (fun i=>(bZ o i).ch) (List.filter (fun i=>Sx.made s1 (bZ o i).ch) (List.take k ord))) ++ [[nI (bZ o i).ch]])=(((ord.take (k + 1)).filter (fun i=>Sx.made s1 (bZ o i).ch)).map (fun i=>(bZ o i).ch)).map (fun n=>[nI n]):=by rw [ef];simp
    rw [e8];exact (ih ⟨(k + 1,vC),by simp only;omega⟩ (by simp only;omega)).aU ⟨rfl,rfl,rfl,rfl,rfl,rfl,rfl,rfl,rfl,trivial⟩
   | false =>
    rw [hm] at CM;have ef:(ord.take (k + 1)).filter (fun i=>Sx.made s1 (bZ o i).ch)=(ord.take k).filter (fun i=>Sx.made s1 (bZ o i).ch):=by rw [et,List.filter_append];simp [hm]
    repeat (first | (refine K.indexAddr ?_;refine jx rfl rfl rfl rfl (by omega) (ints_at hi) ?_) | (refine K.binOp ?_;refine jc rfl rfl rfl rfl h2 rfl ?_) | refine gn ?_)
    refine J.draw (by kernel_rfl) rfl ?_;refine JW.base none ?_;refine tk 0 ?_;refine tk 1 ?_;refine tk 2 ?_;refine tk 3 ?_;refine JD.take 4 rfl rfl (by kernel_rfl) rfl (qb rfl) (Qt.cq rfl rfl i0 J1) rfl ?_;refine tk 5 ?_;refine tk 6 ?_;refine jl 7 rfl rfl rfl rfl (Ld.pure (CM) (qb rfl) rfl lq) .none (fun _=>?_);refine bH ?_
    repeat (first | (refine K.binOp ?_;refine jq rfl rfl rfl (Qt.cP rfl rfl rfl (fJ (by omega) (by omega))) ?_) | refine gn ?_)
    refine J.dZ ?_ ((ih ⟨(k + 1,v),by simp only;omega⟩ (by simp only;omega)).aU ⟨rfl,rfl,rfl,rfl,rfl,rfl,rfl,rfl,rfl,trivial⟩);simp only [ef]
  ·have h2:(decide ((k:Int) < (ord.length:Int)))=false:=by simpa using hk
   obtain rfl:k=ord.length:=by omega
   rw [List.take_length] at *;refine J.jE 12 rfl ?_;simp only [← Yt] at ag;have Yv:=gl ord.length;rw [List.take_length] at Yv;generalize ord.filter (fun i=>Sx.made s1 (bZ o i).ch)=jr at *;have kB:(jr.map (fun i=>(bZ o i).ch)).length≤50000:=by simp;omega
   generalize jr.map (fun i=>(bZ o i).ch)=ids at *;have CL:=Yk ids kB;have CW:=cE s1 g { Sx.gr s g with order:=(Sx.gr s g).order ++ jr,aC:=Sx.aC ids,place:=24 } um (by rw [Ce];exact hb);have g2:g < (Sx.aa s1 g { Sx.gr s g with order:=(Sx.gr s g).order ++ jr,aC:=Sx.aC ids,place:=24 }).gs.length:=by rw [bV];exact um
   have b2:(Sx.aa s1 g { Sx.gr s g with order:=(Sx.gr s g).order ++ jr,aC:=Sx.aC ids,place:=24 }).gs.length≤100000:=by rw [bV,Ce];exact hb
   by_cases hi:0 < ids.length
   ·have c1:(decide ((ids.length:Int) > 0))=true:=decide_eq_true (by omega);rw [if_pos hi] at ag;rw [ag]
    repeat (first | (refine K.store ?_;first | refine JO.ld (Ld.aP rfl rfl rfl (by exact rfl) (by exact rfl)) rfl (fun _=>?_) | refine JO.ld (Ld.cG rfl rfl (by exact rfl)) rfl (fun _=>?_)) | (refine K.binOp ?_;first | refine jc rfl rfl rfl rfl h2 rfl ?_ | refine jc rfl rfl rfl rfl c1 rfl ?_) | (refine K.call ?_;first | refine jp (CL) rfl rfl rfl lq ?_ | refine jp (CW) rfl rfl rfl lq ?_) | refine gn ?_)
    (exact J.ret Tryz.func218 rfl (.cons (.cell 1 rfl rfl rfl) .nil) () la [] .nil rfl rfl)
   ·have c1:(decide ((ids.length:Int) > 0))=false:=decide_eq_false (by omega);rw [if_neg hi] at ag
    cases pn:o.de with
    | true =>
     rw [if_pos pn] at ag;rw [ag]
     repeat (first | refine J.eN (congrArg (fun b=>some (D.c (bI b))) pn) ?_ | (refine K.store ?_;first | refine JO.ld (Ld.aP rfl rfl rfl (by exact rfl) (by exact rfl)) rfl (fun _=>?_) | refine JO.ld (Ld.cG rfl rfl (by exact rfl)) rfl (fun _=>?_)) | (refine K.binOp ?_;first | refine jc rfl rfl rfl rfl h2 rfl ?_ | refine jc rfl rfl rfl rfl c1 rfl ?_) | (refine K.call ?_;first | refine jp (CL) rfl rfl rfl lq ?_ | refine jp (CW) rfl rfl rfl lq ?_ | refine jp (jh _ g (res 2) 18 g2 b2) rfl rfl rfl lq ?_) | refine gn ?_)
     (exact J.ret Tryz.func218 rfl (.cons (.cell 1 rfl rfl rfl) .nil) () la [] .nil rfl rfl)
    | false =>
     rw [if_neg (by rw [pn];simp)] at ag;rw [ag]
     repeat (first | refine J.ez (congrArg (fun b=>some (D.c (bI b))) pn) ?_ | (refine K.store ?_;first | refine JO.ld (Ld.aP rfl rfl rfl (by exact rfl) (by exact rfl)) rfl (fun _=>?_) | refine JO.ld (Ld.cG rfl rfl (by exact rfl)) rfl (fun _=>?_)) | (refine K.binOp ?_;first | refine jc rfl rfl rfl rfl h2 rfl ?_ | refine jc rfl rfl rfl rfl c1 rfl ?_) | (refine K.call ?_;first | refine jp (CL) rfl rfl rfl lq ?_ | refine jp (CW) rfl rfl rfl lq ?_ | refine jp (M6 _ g g2 b2) rfl rfl rfl lq ?_) | refine gn ?_)
     (exact J.ret Tryz.func218 rfl (.cons (.cell 1 rfl rfl rfl) .nil) () la [] .nil rfl rfl)
end Fl
end Go.Proofs.YtofnbflkhgammaaGreat
