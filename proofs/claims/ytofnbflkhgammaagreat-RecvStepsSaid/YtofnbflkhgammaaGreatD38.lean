/-
  What the laws need, part D38.
  Conditions: none.
-/
import Derived.Test.YtofnbflkhgammaaGreatD37
set_option linter.unusedVariables false
set_option linter.unusedSimpArgs false
set_option linter.unnecessarySimpa false
set_option maxHeartbeats 2000000
namespace Go.Proofs.YtofnbflkhgammaaGreat
open Go.RowKit
namespace Fl
open Sx Go.Proofs.Tryz
set_option maxRecDepth 100000
inductive um:List (List A)→List (List A)→Prop
 | nil:um [] []
 | cons {a b l m}:jg a b→um l m→um (a :: l) (b :: m)
theorem um.rep {ok:Nat→Prop} {w:World} {sz:Nat} {l m:List (List A)} (h:um l m):∀ {xs:List Value},RX ok w sz l xs→RX ok w sz m xs:=by
 induction h with
 | nil=>exact id
 | cons h1 h2 ih =>
  intro xs r;obtain ⟨vs,ys,rfl,a2,a3,a4⟩:=r;exact ⟨vs,ys,rfl,a2,h1.rep a3,ih a4⟩
theorem um.len {l m:List (List A)} (h:um l m):l.length=m.length:=by
 induction h with
 | nil=>rfl
 | cons _ _ ih=>simp [ih]
theorem St.YO {c:Cx} {f:Fm} {L:List ak} {a:Act} {w:World} {v:Value} {e:TypeId} {sz:Nat} {l m:List (List A)} (h:um l m) (s:St c f (.row v e sz l :: L) a w):St c f (.row v e sz m :: L) a w:=by
 have hf:∀ x,x∈aT (ak.row v e sz m :: L)↔x∈aT (ak.row v e sz l :: L):=fun x=>by simp only [jf,ak.bY]
 have ho:bG c (.row v e sz m :: L)=bG c (.row v e sz l :: L):=by funext x;unfold bG;rw [hf]
 have ap:=List.pairwise_cons.1 s.ap;refine ⟨s.kp,s.size,s.jV,fun q hq=>?_,fun x hx=>s.fF x ((hf x).1 hx),List.pairwise_cons.2 ⟨ap.1,ap.2⟩,fun t d hd=>by rw [ho];exact s.fr t d hd⟩;rw [ho];rcases List.mem_cons.1 hq with rfl | hq
 ·obtain ⟨xs,h1,h2⟩:=s.res _ (List.mem_cons_self ..);exact ⟨xs,by rw [← h.len];exact h1,h.rep h2⟩
 ·exact s.res q (List.mem_cons_of_mem _ hq)
theorem Ld.Hi {P:Program} {c:Cx} {f:Fm} {L:List ak} {T X:TypeId} {ps:String} {af:Array Edge} {gd:Option (Nat × Bool)} {t:Nat} {e sz:Nat} {x:Operand} {d:D} {cs jU:List A} {zs:List Value} [i:fG P X e sz] [z:bp P e zs] (ht:t < c.N) (h:aU f x=some d) (hc:g9 d=some cs) (hn:cs.length=sz) (h0:Nat.ble 1 sz=true) (hs:Nat.ble sz 1000=true) (hle:jg cs jU):Ld P c ⟨some t,.buildSlice X 1 #[(0,x)],T,ps,af,gd⟩ f L [] (fun b:Nat=>(t,.c (.v (.slice (some ⟨b,0,none⟩) 1 1))) :: f) (fun b=>.row (.slice (some ⟨b,0,none⟩) 1 1) e sz [jU] :: L):=⟨fun a w s K Q hK =>
 (Ld.fJ ht h hc hn h0 hs).go a w s K Q fun b u w' k' s' hf=>hK b u w' k' (s'.YO (.cons hle .nil)) fun y hy=>hf y (by simpa only [jf,ak.bY] using hy)⟩
theorem Oo (s:ah) (g:Nat) (hg:g < s.gs.length) (hb:s.gs.length≤100000) :
  Pure prog 217 [.agg (az s),.c (nI g)] (.agg (az (never s g))):=by
 have C1:=fM s g 19 hg hb;have C2:=LP (Sx.aI s g 19) g (by rw [xI];exact hg) (by rw [xI];exact hb);refine ax.intro func217 rfl rfl rfl (fun ok e=>?_)
 repeat (first | refine av ?_ | intro _)
 exact aA func217
theorem YP (s:ah) (g:Nat) (re:Int) (hg:g < s.gs.length) :
  Pure prog 219 [.agg (az s),.c (nI g),.c (nI re)] (.agg (eM (Sx.mark s g re))):=by
 refine ax.intro func219 rfl rfl rfl (fun ok e=>?_)
 repeat (first | refine av ?_ | intro _)
 exact aA func219
theorem YQ (s:ah) (g:Nat) (hg:g < s.gs.length) (hb:Fit s) (ha:-100000≤(aa s g).at_∧(aa s g).at_≤100000) :
  Pure prog 200 [.agg (az s),.c (nI g)] (.agg (az (answer s g))):=by
 have Oq:=hb.dn;have C1:=YP s g s.step hg;have er:answer s g=Sx.clear (ai { s with done:=s.done ++ [Sx.mark s g s.step] } g { aa s g with at_:=(aa s g).at_ + 1,place:=0 }) g:=rfl;rw [er];have C2:=cP { s with done:=s.done ++ [Sx.mark s g s.step] } g { aa s g with at_:=(aa s g).at_ + 1,place:=0 } hg hb.1.1;have C3:=LM (ai { s with done:=s.done ++ [Sx.mark s g s.step] } g { aa s g with at_:=(aa s g).at_ + 1,place:=0 }) g (by rw [cr];exact hg) (by rw [cr];exact hb.1.1);have e1:([] ++ List.map eM s.done) ++ [eM (Sx.mark s g s.step)]=(s.done ++ [Sx.mark s g s.step]).map eM:=by simp
 refine ax.intro func200 rfl rfl rfl (fun ok e=>?_)
 repeat (first | refine av ?_ | intro _)
 refine J.draw (by kernel_rfl) rfl ?_;refine JW.base (some 12) ?_;refine tk 1 ?_;refine tk 2 ?_;refine tk 4 ?_;refine tk 5 ?_;refine tk 6 ?_;refine tk 7 ?_;refine jl 0 rfl rfl rfl rfl (Ld.ia (qb rfl)) .none (fun _=>?_);refine jl 3 rfl rfl rfl rfl (Ld.cA (qb rfl) rfl rfl .read (by (simp;omega))) (by (exact .row (by repeat ((exact .refl))))) (fun _=>?_);refine cW 8 (C1) ?_;refine jl 9 rfl rfl rfl rfl (Ld.fJ (qb rfl) rfl rfl rfl rfl rfl) .none (fun _=>?_);refine jl 10 rfl rfl rfl rfl (Ld.fz (qb rfl) rfl rfl .cY (by (simp;omega))) (by (exact .row (by repeat (first | exact .refl | refine .cons ?_)))) (fun _=>?_);refine jk 11 rfl rfl rfl rfl (Qt.fieldAddr rfl rfl) ?_;refine jt 12 rfl rfl (Ld.cZ rfl rfl (by exact rfl)) (fun _=>?_);refine bS ?_
 all_goals
  rw [e1]
  repeat (first | refine av ?_ | intro _)
  exact aA func200
theorem YR (s:ah) (g:Nat) (hg:g < s.gs.length) (hb:Fit s) (ha:0≤(aa s g).at_) :
  Pure prog 199 [.agg (az s),.c (nI g)] (.agg (az (kB s g))):=by
 have C0:=dA s g hg ha;have hcb:=hb.1.2.1;have aj:kB s g=kB s g:=rfl
 conv at aj=>rhs;unfold kB;simp only
 refine ax.intro func199 rfl rfl rfl (fun ok e=>?_)
 by_cases hk:(ag s g).kind=1
 ·have c1:((ag s g).kind == 1)=true:=by simpa using hk
  by_cases h8:8≤s.au.length
  ·rw [if_pos ⟨hk,h8⟩] at aj;rw [aj];have c2:(decide ((s.au.length:Int) ≥ 8))=true:=by simp;omega
   repeat (first | refine aO (jv s g (res 7) 18 hg hb.1.1) ?_ | refine av ?_ | intro _)
   exact aA func199
  ·rw [aB,if_pos hk] at aj;rw [aj];have c2:(decide ((s.au.length:Int) ≥ 8))=false:=by simp;omega
   have e1:([] ++ List.map eC s.au) ++ [eC (⟨(ag s g).n,[],false,-1,[],[]⟩:Cn)]=(s.au ++ [(⟨(ag s g).n,[],false,-1,[],[]⟩:Cn)]).map eC:=by simp
   have e2:((s.au ++ [(⟨(ag s g).n,[],false,-1,[],[]⟩:Cn)]).length:Int)=s.au.length + 1:=by simp
   repeat (first | refine av ?_ | intro _)
   refine J.draw (by kernel_rfl) rfl ?_;refine JW.base (some 10) ?_;refine tk 1 ?_;refine tk 2 ?_;refine tk 4 ?_;refine tk 5 ?_;refine tk 6 ?_;refine JD.cU (i:=0) (j:=7) (by kernel_rfl) ?_ ?_;refine JS.cz rfl rfl rfl (qb rfl) (Ld.ia (qb rfl)) .none (fun _=>?_);refine JD.cU (i:=3) (j:=7) (by kernel_rfl) ?_ ?_;refine JS.cz rfl rfl rfl (qb rfl) (Ld.cA (qb rfl) rfl rfl .read (by (simp;omega))) (by (exact .row (by repeat ((exact .refl))))) (fun _=>?_);refine jl 7 rfl rfl rfl rfl (Ld.Hi (qb rfl) rfl rfl rfl rfl rfl (show jg _ (eC (⟨(ag s g).n,[],false,-1,[],[]⟩:Cn)) from .cons .refl (.cons .nil (.cons .refl (.cons .refl (.cons .nil (.cons .nil .nil))))))) .none (fun _=>?_);refine jl 8 rfl rfl rfl rfl (Ld.fz (qb rfl) rfl rfl .cY (by (simp;omega))) (by (exact .row (by repeat (first | exact .refl | refine .cons ?_)))) (fun _=>?_);refine jk 9 rfl rfl rfl rfl (Qt.fieldAddr rfl rfl) ?_;refine jt 10 rfl rfl (Ld.cZ rfl rfl (by exact rfl)) (fun _=>?_);refine bS ?_
   rotate_left
   refine JS.cz rfl rfl rfl (qb rfl) (Ld.Hi (qb rfl) rfl rfl rfl rfl rfl (show jg _ (eC (⟨(ag s g).n,[],false,-1,[],[]⟩:Cn)) from .cons .refl (.cons .nil (.cons .refl (.cons .refl (.cons .nil (.cons .nil .nil))))))) .none (fun _=>?_);refine jl 3 rfl rfl rfl rfl (Ld.cA (qb rfl) rfl rfl .read (by (simp;omega))) (by (exact .row (by repeat (first | exact .refl | refine .cons ?_)))) (fun _=>?_);refine jl 8 rfl rfl rfl rfl (Ld.fz (qb rfl) rfl rfl .cY (by (simp;omega))) (by (exact .row (by repeat (first | exact .refl | refine .cons ?_)))) (fun _=>?_);refine jk 9 rfl rfl rfl rfl (Qt.fieldAddr rfl rfl) ?_;refine jt 10 rfl rfl (Ld.cZ rfl rfl (by exact rfl)) (fun _=>?_);refine bS ?_
   rotate_left
   refine JS.cz rfl rfl rfl (qb rfl) (Ld.Hi (qb rfl) rfl rfl rfl rfl rfl (show jg _ (eC (⟨(ag s g).n,[],false,-1,[],[]⟩:Cn)) from .cons .refl (.cons .nil (.cons .refl (.cons .refl (.cons .nil (.cons .nil .nil))))))) .none (fun _=>?_);refine jl 0 rfl rfl rfl rfl (Ld.ia (qb rfl)) .none (fun _=>?_);refine jl 3 rfl rfl rfl rfl (Ld.cA (qb rfl) rfl rfl .read (by (simp;omega))) (by (exact .row (by repeat (first | exact .refl | refine .cons ?_)))) (fun _=>?_);refine jl 8 rfl rfl rfl rfl (Ld.fz (qb rfl) rfl rfl .cY (by (simp;omega))) (by (exact .row (by repeat (first | exact .refl | refine .cons ?_)))) (fun _=>?_);refine jk 9 rfl rfl rfl rfl (Qt.fieldAddr rfl rfl) ?_;refine jt 10 rfl rfl (Ld.cZ rfl rfl (by exact rfl)) (fun _=>?_);refine bS ?_
   rotate_left
   all_goals
    rw [e1]
    repeat (first | refine aO (jv { s with au:=s.au ++ [(⟨(ag s g).n,[],false,-1,[],[]⟩:Cn)] } g ⟨1,-1,0,true,s.au.length + 1⟩ 18 hg hb.1.1) ?_ | (refine K.bi ?_;refine jq rfl rfl rfl ((Qt.wm rfl).eq (congrArg (fun z=>D.c (A.v (.int .i64 z))) e2)) ?_) | refine gn ?_)
    exact aA func199
 ·rw [aB,if_neg hk] at aj;have c1:((ag s g).kind == 1)=false:=by simpa using hk
  have CM:=fu s (ag s g).ch
  cases hm:aN s (ag s g).ch with
  | false =>
   rw [hm] at CM;rw [if_neg (by rw [hm];simp),if_neg (by rw [hm];simp)] at aj;rw [aj]
   repeat (first | refine aO (jv s g ⟨1,-1,0,true,0⟩ 18 hg hb.1.1) ?_ | refine av ?_ | intro _)
   exact aA func199
  | true =>
   rw [hm] at CM;have hl:=eV hm
   by_cases h7:(ag s g).kind=7
   ·have c2:((ag s g).kind == 7)=true:=by simpa using h7
    rw [if_pos ⟨hm,h7⟩] at aj;rw [aj]
    repeat (first | refine aO (jv s g ⟨1,-1,0,true,(cn s (ag s g).ch).buf.length⟩ 18 hg hb.1.1) ?_ | refine av ?_ | intro _)
    exact aA func199
   ·have c2:((ag s g).kind == 7)=false:=by simpa using h7
    rw [if_neg (fun h=>h7 h.2),if_pos hm] at aj;rw [aj]
    repeat (first | refine aO (jv s g ⟨1,-1,0,true,(cn s (ag s g).ch).cap⟩ 18 hg hb.1.1) ?_ | refine av ?_ | intro _)
    exact aA func199
end Fl
open Go.RowKit
namespace Fl
open Sx Go.Proofs.Tryz
set_option maxRecDepth 100000
theorem Ot (s:ah):∀ n,(Sx.drawn s n).1.length=n
 | 0=>rfl
 | n + 1=>by simp [Sx.drawn,Ot s n]
theorem YS (l:List Int) (a n:Int):a≤(Sx.draw l a n).2∧(Sx.draw l a n).2≤a + 1:=by unfold Sx.draw;split <;> constructor <;> simp <;> omega
theorem YT (l:List Int) (a n:Int):0≤(Sx.draw l a n).1:=by
 unfold Sx.draw
 split
 ·simp
 ·exact Int.emod_nonneg _ (by omega)
theorem Ou (s:ah):∀ n:Nat,s.drawn≤(Sx.drawn s n).2∧(Sx.drawn s n).2≤s.drawn + n
 | 0=>by simp [Sx.drawn]
 | n + 1=>by
  have:=Ou s n;have h2:=YS s.cG (Sx.drawn s n).2 (n + 1);simp only [Sx.drawn];omega
theorem Ov (s:ah):∀ (n:Nat) (x:Int),x∈(Sx.drawn s n).1→0≤x
 | 0,x,h=>by simp [Sx.drawn] at h
 | n + 1,x,h=>by
  simp only [Sx.drawn,List.mem_append,List.mem_singleton] at h;rcases h with h | h
  ·exact Ov s n x h
  ·subst h;exact YT _ _ _
theorem Ow (ds:List Int):∀ (n:Nat) (i:Int),i∈eF ds n→0≤i∧i < n
 | 0,i,h=>by simp [eF] at h
 | n + 1,i,h=>by
  have hl:=Dc ds n;have key:∀ y,y∈eF ds n ++ [(n:Int)]→0≤y∧y < (n + 1:Nat):=fun y hy=>by
   rcases List.mem_append.1 hy with hy | hy
   ·have:=Ow ds n y hy;omega
   ·simp at hy;omega
  have AG:0≤ds.getD n 0 % ((n:Int) + 1):=Int.emod_nonneg _ (by omega);have br:ds.getD n 0 % ((n:Int) + 1) < n + 1:=Int.emod_lt_of_pos _ (by omega);have hg:∀ k,k < n + 1→(eF ds n ++ [(n:Int)]).getD k 0∈eF ds n ++ [(n:Int)]:=fun k hk=>by
   have:k < (eF ds n ++ [(n:Int)]).length:=by simp [hl];omega
   rw [List.getD_eq_getElem?_getD,List.getElem?_eq_getElem this];exact List.getElem_mem _
  unfold eF swap at h;rcases List.mem_or_eq_of_mem_set h with h | h
  ·rcases List.mem_or_eq_of_mem_set h with h | h
   ·exact key _ h
   ·rw [h];exact key _ (hg n (by omega))
  ·rw [h];exact key _ (hg _ (by omega))
structure Ox (s:ah) (g:Nat) (o:Pn.Op):Prop where
 lt:g < s.gs.length
 fit:Fit s
 dr:0≤s.drawn∧s.drawn≤50000
 du:∀ x∈s.cG,0≤x∧x < 65536
 cl:o.cases.length≤1000
theorem YU (s:ah) (g:Nat) (o:Pn.Op) (h:Ox s g o) :
  Pure prog 218 [.agg (az s),.c (nI g),.agg (dH o)] (.agg (az (kz s g o))):=by
 have hg:=h.lt;have hb:=h.fit.1.1;have hob:=h.fit.od g;have cl:=h.cl;have d0:=h.dr;have aj:kz s g o=kz s g o:=rfl
 conv at aj=>rhs;unfold kz;simp only
 refine ax.intro func218 rfl rfl rfl (fun ok e=>?_)
 repeat (first | (refine ga ?_;intro _) | refine gn ?_)
 rename_i b3 b5 b6 b7;refine J.loop (ι:={ p:Nat × Value // p.1≤o.cases.length }) (fun p=>[(18,.c (nI o.cases.length)),(19,.c (nI p.1.1)),(7,.c (.v p.1.2)),(3,.c (.v (.pointer (some ⟨b3,0,none⟩)))),(5,.c (.v (.pointer (some ⟨b5,0,none⟩)))),(6,.c (.v (.pointer (some ⟨b6,0,none⟩)))),(1,.c (nI g))])
  (fun p=>[.row p.1.2 3 1 ((Sx.drawn s p.1.1).1.map fun n=>[nI n]),.box b6 36 rP,.box b5 50 (dH o),.box b3 36 (az { s with drawn:=(Sx.drawn s p.1.1).2 })]) (fun p=>o.cases.length - p.1.1) ⟨(0,.slice (some ⟨b7,0,none⟩) 0 0),Nat.zero_le _⟩ (fun X h=>h.aW ⟨rfl,rfl,rfl,rfl,rfl,rfl,rfl,trivial⟩) (fun p ih=>?_)
 obtain ⟨⟨k,v⟩,fD⟩:=p;simp only at fD ih ⊢;have rL:=Ot s k;have da:=Ou s k
 by_cases hk:k < o.cases.length
 ·have h1:(decide ((k:Int) < (o.cases.length:Int)))=true:=by simpa using hk
  have CD:=YH s.cG (Sx.drawn s k).2 (k + 1) (by omega) (by omega) h.du
  repeat (first | (refine K.store ?_;refine JO.ld (Ld.cZ rfl rfl (by exact rfl)) rfl (fun _=>?_)) | (refine K.binOp ?_;first | refine jc rfl rfl rfl rfl h1 rfl ?_ | refine jq rfl rfl rfl (Qt.dj rfl rfl rfl (eL (by omega) (by omega))) ?_) | (refine K.call ?_;refine jp (CD) rfl rfl rfl lq ?_) | (refine K.bi ?_;refine JO.ld (Ld.cA (qb rfl) rfl rfl .cY (by (simp;omega))) rfl (fun _=>?_)) | (refine ga ?_;intro _) | refine gn ?_)
  rename_i u1 b9 v2;refine J.eP 1 ?_;refine J.fK ?_ ((ih ⟨(k + 1,v2),by simp only;omega⟩ (by simp only;omega)).aW ⟨rfl,rfl,rfl,rfl,rfl,rfl,rfl,trivial⟩);simp only [Sx.drawn,List.map_append,List.map_cons,List.map_nil];rfl
 ·have h1:(decide ((k:Int) < (o.cases.length:Int)))=false:=by simpa using hk
  obtain rfl:k=o.cases.length:=by omega
  have CO:=Ol o.cases.length (Sx.drawn s o.cases.length).1 rL (by omega) (Ov s o.cases.length);have om:=Ow (Sx.drawn s o.cases.length).1 o.cases.length;have ol:=Dc (Sx.drawn s o.cases.length).1 o.cases.length;generalize pE:({ s with drawn:=(Sx.drawn s o.cases.length).2 }:ah)=s1 at *;have De:s1.gs=s.gs:=by rw [← pE]
  have YV:∀ c,aN s1 c=aN s c:=fun c=>by rw [← pE];rfl
  have sq:g < s1.gs.length:=by rw [De];exact hg
  have YW:aa s1 g=aa s g:=uh De g;have A1:=iz sq;rw [YW] at A1;generalize eF (Sx.drawn s o.cases.length).1 o.cases.length=ord at *;refine J.jY 7 rfl ?_
  repeat (first | (refine K.store ?_;refine JO.ld (Ld.aX rfl rfl rfl (by exact rfl) (by exact rfl)) rfl (fun _=>?_)) | (refine K.indexAddr ?_;refine jx rfl rfl rfl rfl (by omega) (A1) ?_) | (refine K.binOp ?_;refine jc rfl rfl rfl rfl h1 rfl ?_) | (refine K.call ?_;refine JO.Oi (CO) rfl (qb rfl) rfl ?_ ?_;(focus ((repeat (first | exact aK.nil | refine aK.cons dB.refl ?_));done));intro _) | (refine ga ?_;intro _) | refine gn ?_)
  rename_i nE u11 tS vo;refine J.jY 46 rfl ?_;rw [List.length_map];refine J.loop (ι:={ p:Nat × Value // p.1≤ord.length }) (fun p=>[(46,.c (ints ord)),(47,.c (nI ord.length)),(48,.c (nI p.1.1)),(12,.c (.v p.1.2)),(11,.c (.v (.pointer (some ⟨nE,0,none⟩)))),(3,.c (.v (.pointer (some ⟨b3,0,none⟩)))),(5,.c (.v (.pointer (some ⟨b5,0,none⟩)))),(6,.c (.v (.pointer (some ⟨b6,0,none⟩)))),(1,.c (nI g))])
   (fun p=>[.row p.1.2 3 1 ((((ord.take p.1.1).filter (fun i=>aN s1 (cy o i).ch)).map (fun i=>(cy o i).ch)).map fun n=>[nI n]),.box nE 47 ((eG (aa s g)).set 20 (ints ((aa s g).order ++ (ord.take p.1.1).filter (fun i=>aN s1 (cy o i).ch)))),.box b6 36 rP,.box b5 50 (dH o),.box b3 36 (az s1)]) (fun p=>ord.length - p.1.1) ⟨(0,.slice (some ⟨tS,0,none⟩) 0 0),Nat.zero_le _⟩ (fun X h=>?_) (fun p ih=>?_)
  ·refine J.fK ?_ (h.aW ⟨rfl,rfl,rfl,rfl,rfl,rfl,rfl,rfl,rfl,trivial⟩);simp only [List.take_zero,List.filter_nil,List.map_nil,List.append_nil];rfl
  obtain ⟨⟨k,v⟩,fD⟩:=p;simp only at fD ih ⊢;have gl:∀ k,((ord.take k).filter (fun i=>aN s1 (cy o i).ch)).length≤1000:=fun k=>Nat.le_trans (List.length_filter_le _ _) (by simp;omega)
  by_cases hk:k < ord.length
  ·obtain ⟨i,hi⟩:∃ y,ord[k]?=some y:=⟨_,List.getElem?_eq_getElem hk⟩
   have h2:(decide ((k:Int) < (ord.length:Int)))=true:=by simpa using hk
   obtain ⟨i0,i1⟩:=om i (List.mem_of_getElem? hi);have J1:=AE i0 i1;have CM:=fu s1 (cy o i).ch;have et:=take_one hi;have gk:=gl k
   cases hm:aN s1 (cy o i).ch with
   | true =>
    rw [hm] at CM;have ef:(ord.take (k + 1)).filter (fun i=>aN s1 (cy o i).ch)=(ord.take k).filter (fun i=>aN s1 (cy o i).ch) ++ [i]:=by rw [et,List.filter_append];simp [hm]
    repeat (first | (refine K.indexAddr ?_;refine jx rfl rfl rfl rfl (by omega) (ints_at hi) ?_) | (refine K.binOp ?_;refine jc rfl rfl rfl rfl h2 rfl ?_) | refine gn ?_)
    refine J.draw (by kernel_rfl) rfl ?_;refine JW.base none ?_;refine tk 0 ?_;refine tk 1 ?_;refine tk 2 ?_;refine tk 3 ?_;refine JD.take 4 rfl rfl (by kernel_rfl) rfl (qb rfl) (Qt.bw rfl rfl i0 J1) rfl ?_;refine tk 5 ?_;refine tk 6 ?_;refine jl 7 rfl rfl rfl rfl (Ld.pure (CM) (qb rfl) rfl lq) .none (fun _=>?_);refine bt ?_
    repeat (first | (refine K.store ?_;refine JO.ld (Ld.cZ rfl rfl (by exact rfl)) rfl (fun _=>?_)) | (refine K.indexAddr ?_;refine jx rfl rfl rfl rfl (by omega) (J1) ?_) | (refine K.binOp ?_;refine jq rfl rfl rfl (Qt.dj rfl rfl rfl (eL (by omega) (by omega))) ?_) | (refine K.bi ?_;first | refine JO.ld (Ld.cA (qb rfl) rfl rfl .read (by first | (simp;omega) | simp)) rfl (fun _=>?_) | refine JO.ld (Ld.cA (qb rfl) rfl rfl .cY (by (simp;omega))) rfl (fun _=>?_)) | (refine ga ?_;intro _) | refine gn ?_)
    rename_i bA vA bB vB uB bC vC;refine J.eP 3 ?_;refine J.eP 1 ?_;refine J.nk 1 2 20 rfl rfl rfl ?_;have e7:([] ++ List.map (fun n=>[nI n]) ((aa s g).order ++ List.filter (fun i=>aN s1 (cy o i).ch) (List.take k ord)) ++ [[nI i]])=((aa s g).order ++ (ord.take (k + 1)).filter (fun i=>aN s1 (cy o i).ch)).map (fun n=>[nI n]):=by rw [ef];simp
    rw [e7];have e8:(List.map (fun n=>[nI n]) (List.map (fun i=>(cy o i).ch) (List.filter (fun i=>aN s1 (cy o i).ch) (List.take k ord))) ++ [[nI (cy o i).ch]])=(((ord.take (k + 1)).filter (fun i=>aN s1 (cy o i).ch)).map (fun i=>(cy o i).ch)).map (fun n=>[nI n]):=by rw [ef];simp
    rw [e8];exact (ih ⟨(k + 1,vC),by simp only;omega⟩ (by simp only;omega)).aW ⟨rfl,rfl,rfl,rfl,rfl,rfl,rfl,rfl,rfl,trivial⟩
   | false =>
    rw [hm] at CM;have ef:(ord.take (k + 1)).filter (fun i=>aN s1 (cy o i).ch)=(ord.take k).filter (fun i=>aN s1 (cy o i).ch):=by rw [et,List.filter_append];simp [hm]
    repeat (first | (refine K.indexAddr ?_;refine jx rfl rfl rfl rfl (by omega) (ints_at hi) ?_) | (refine K.binOp ?_;refine jc rfl rfl rfl rfl h2 rfl ?_) | refine gn ?_)
    refine J.draw (by kernel_rfl) rfl ?_;refine JW.base none ?_;refine tk 0 ?_;refine tk 1 ?_;refine tk 2 ?_;refine tk 3 ?_;refine JD.take 4 rfl rfl (by kernel_rfl) rfl (qb rfl) (Qt.bw rfl rfl i0 J1) rfl ?_;refine tk 5 ?_;refine tk 6 ?_;refine jl 7 rfl rfl rfl rfl (Ld.pure (CM) (qb rfl) rfl lq) .none (fun _=>?_);refine bt ?_
    repeat (first | (refine K.binOp ?_;refine jq rfl rfl rfl (Qt.dj rfl rfl rfl (eL (by omega) (by omega))) ?_) | refine gn ?_)
    refine J.fK ?_ ((ih ⟨(k + 1,v),by simp only;omega⟩ (by simp only;omega)).aW ⟨rfl,rfl,rfl,rfl,rfl,rfl,rfl,rfl,rfl,trivial⟩);simp only [ef]
  ·have h2:(decide ((k:Int) < (ord.length:Int)))=false:=by simpa using hk
   obtain rfl:k=ord.length:=by omega
   rw [List.take_length] at *;refine J.jY 12 rfl ?_;simp only [← YV] at aj;have YX:=gl ord.length;rw [List.take_length] at YX;generalize ord.filter (fun i=>aN s1 (cy o i).ch)=jI at *;have kS:(jI.map (fun i=>(cy o i).ch)).length≤50000:=by simp;omega
   generalize jI.map (fun i=>(cy o i).ch)=ids at *;have CL:=YM ids kS;have CW:=cP s1 g { aa s g with order:=(aa s g).order ++ jI,aF:=Sx.aF ids,place:=24 } sq (by rw [De];exact hb);have g2:g < (ai s1 g { aa s g with order:=(aa s g).order ++ jI,aF:=Sx.aF ids,place:=24 }).gs.length:=by rw [cr];exact sq
   have b2:(ai s1 g { aa s g with order:=(aa s g).order ++ jI,aF:=Sx.aF ids,place:=24 }).gs.length≤100000:=by rw [cr,De];exact hb
   by_cases hi:0 < ids.length
   ·have c1:(decide ((ids.length:Int) > 0))=true:=decide_eq_true (by omega);rw [if_pos hi] at aj;rw [aj]
    repeat (first | (refine K.store ?_;first | refine JO.ld (Ld.aX rfl rfl rfl (by exact rfl) (by exact rfl)) rfl (fun _=>?_) | refine JO.ld (Ld.cZ rfl rfl (by exact rfl)) rfl (fun _=>?_)) | (refine K.binOp ?_;first | refine jc rfl rfl rfl rfl h2 rfl ?_ | refine jc rfl rfl rfl rfl c1 rfl ?_) | (refine K.call ?_;first | refine jp (CL) rfl rfl rfl lq ?_ | refine jp (CW) rfl rfl rfl lq ?_) | refine gn ?_)
    (exact J.ret func218 rfl (.cons (.cell 1 rfl rfl rfl) .nil) () la [] .nil rfl rfl)
   ·have c1:(decide ((ids.length:Int) > 0))=false:=decide_eq_false (by omega);rw [if_neg hi] at aj
    cases qd:o.dN with
    | true =>
     rw [if_pos qd] at aj;rw [aj]
     repeat (first | refine J.gZ (congrArg (fun b=>some (D.c (bI b))) qd) ?_ | (refine K.store ?_;first | refine JO.ld (Ld.aX rfl rfl rfl (by exact rfl) (by exact rfl)) rfl (fun _=>?_) | refine JO.ld (Ld.cZ rfl rfl (by exact rfl)) rfl (fun _=>?_)) | (refine K.binOp ?_;first | refine jc rfl rfl rfl rfl h2 rfl ?_ | refine jc rfl rfl rfl rfl c1 rfl ?_) | (refine K.call ?_;first | refine jp (CL) rfl rfl rfl lq ?_ | refine jp (CW) rfl rfl rfl lq ?_ | refine jp (jv _ g (res 2) 18 g2 b2) rfl rfl rfl lq ?_) | refine gn ?_)
     (exact J.ret func218 rfl (.cons (.cell 1 rfl rfl rfl) .nil) () la [] .nil rfl rfl)
    | false =>
     rw [if_neg (by rw [qd];simp)] at aj;rw [aj]
     repeat (first | refine J.gw (congrArg (fun b=>some (D.c (bI b))) qd) ?_ | (refine K.store ?_;first | refine JO.ld (Ld.aX rfl rfl rfl (by exact rfl) (by exact rfl)) rfl (fun _=>?_) | refine JO.ld (Ld.cZ rfl rfl (by exact rfl)) rfl (fun _=>?_)) | (refine K.binOp ?_;first | refine jc rfl rfl rfl rfl h2 rfl ?_ | refine jc rfl rfl rfl rfl c1 rfl ?_) | (refine K.call ?_;first | refine jp (CL) rfl rfl rfl lq ?_ | refine jp (CW) rfl rfl rfl lq ?_ | refine jp (Oo _ g g2 b2) rfl rfl rfl lq ?_) | refine gn ?_)
     (exact J.ret func218 rfl (.cons (.cell 1 rfl rfl rfl) .nil) () la [] .nil rfl rfl)
end Fl
end Go.Proofs.YtofnbflkhgammaaGreat
