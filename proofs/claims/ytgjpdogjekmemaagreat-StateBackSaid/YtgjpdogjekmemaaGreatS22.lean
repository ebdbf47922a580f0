/-
  What the laws need, part S22.
  Conditions: none.
-/
import Derived.Test.YtgjpdogjekmemaaGreatS21
set_option linter.unusedVariables false
set_option linter.unusedSimpArgs false
set_option linter.unnecessarySimpa false
set_option maxHeartbeats 2000000
namespace Go.Proofs.YtgjpdogjekmemaaGreat
open Go.RowKit
namespace Fl
open Sx Go.Proofs.Tryz
set_option maxRecDepth 100000
theorem Bd.fw {n:Nat} {s:ah} (h:Sx.Bd n s) (hn:n≤1000):Fw s :=
 ⟨h.g8,h.c8,h.jT,by have:=h.dn;omega,by have:=h.dr;omega,h.cl,fun l hl=>by have:=h.cb l hl;omega,by have:=h.mb;omega,h.fr,fun c hc=>(h.cs c hc).cp,
  fun x hx=>⟨by have:=(h.gs x hx).op;omega,fun o ho=>by have:=(h.gs x hx).oc o ho;omega⟩,fun x hx=>⟨by have:=(h.gs x hx).od;omega,by have:=(h.gs x hx).lk;omega,by have:=(h.gs x hx).sg;omega,by have:=(h.gs x hx).wk;omega⟩⟩
theorem Bd.fe {n:Nat} {s:ah} (h:Sx.Bd n s) (hn:n≤1000):Fe s :=
 ⟨by have:=h.g8;omega,by have:=h.c8;omega,by have:=h.jT;omega,by have:=h.dr;omega,by have:=h.dn;omega,h.cl,fun l hl=>by have:=h.cb l hl;omega,by have:=h.mb;omega,
  fun x hx=>⟨by have:=(h.gs x hx).op;omega,fun o ho=>by have:=(h.gs x hx).oc o ho;omega,by have:=(h.gs x hx).od;omega,by have:=(h.gs x hx).lk;omega,by have:=(h.gs x hx).sg;omega,by have:=(h.gs x hx).wk;omega⟩,
  fun c hc=>by have:=(h.cs c hc);have:=this.bf;have:=(h.cs c hc).rv;have:=(h.cs c hc).sd;omega⟩
theorem Pe {s:ah} {x:Gr} (h:x∈s.gs):∃ g:Nat,g < s.gs.length∧aa s g=x:=by
 obtain ⟨g,hg⟩:=List.getElem?_of_mem h;have hl:=(List.getElem?_eq_some_iff.1 hg).1;exact ⟨g,hl,by unfold aa;rw [List.getD_eq_getElem?_getD,hg];rfl⟩
theorem Pf {s:ah} {c:Cn} (h:c∈s.ax):∃ k:Nat,k < s.ax.length∧Sx.cn s ((k:Int) + 1)=c:=by
 obtain ⟨g,hg⟩:=List.getElem?_of_mem h;have hl:=(List.getElem?_eq_some_iff.1 hg).1;have:=rW hl;rw [hg] at this;exact ⟨g,hl,by cases this;rfl⟩
section
variable {s:ah} {g:Nat}
theorem F8 (h:Sx.Good s):Sx.Bd 200 s:=by
 have h':=h.toMInv;obtain ⟨H,I⟩:=h.po;have ln:=I.lens;simp only at ln;have f:=p6 h;have z:=h.z;refine ⟨h.n8,h.c8,h.jT,by have:=h'.dn;have:=AK h';omega,h.d5,h.ca,fun l hl=>?_,by omega,h.f0,fun x hx=>?_,fun c hc=>?_⟩
 ·have:=Sx.vK hl;omega
 ·obtain ⟨k,hk,rfl⟩:=Pe hx;have L:=h'.loc hk;have zk:=z k;have w:=xI (n:=s.gs.length) L.w4 (fun a ha=>L.w3 a ha);have n8:=h.n8;exact ⟨by have:=L.lB;omega,fun o ho=>by have:=zk.op o ho;omega,by have:=zk.od;omega,by have:=zk.lk;omega,by have:=zk.sg;omega,by omega⟩
 ·obtain ⟨k,hk,rfl⟩:=Pf hc;have q:=AJ h' ((k:Int) + 1);have c4:=h'.fH (c:=(k:Int) + 1) (by omega) (by omega);exact ⟨by omega,by omega,by omega,by omega⟩
theorem Pg (h:Sx.Good s):FY s:=by
 have h':=h.toMInv;obtain ⟨H,I⟩:=h.po;have c1:=h.c1;have sn:=h.sn;have po:=Po.Ku I (by have:=h.ca;have:=h.n8;omega);refine ⟨Bd.fw (F8 h) (by omega),h.qs,fun k hk=>?_,fun k hk=>?_,fun k hk=>?_,fun k hk=>?_,by omega,by omega,po.1,po.2,h.oD,h.pI⟩
 ·have:=(h'.loc hk).pq;omega
 ·have:=Sx.Inv.iJ h'.v ((k:Int) + 1) (by omega) (by omega);omega
 ·have c4:=h'.fH (c:=(k:Int) + 1) (by omega) (by omega);omega
 ·have q:=AJ h' ((k:Int) + 1);omega
end
def jG (p:List (List Pn.Op)) (sn cn:Int) (d l:List Int):ah × Bool :=
 if 8 < p.length∨300 < d.length∨400 < l.length then (oX,false)
 else if (Sx.new p sn cn d).2=0 then ((Sx.runs (Sx.new p sn cn d).1 l).1,true) else ((Sx.new p sn cn d).1,false)
theorem Ph {p:List (List Pn.Op)} {sn cn:Int} {d l:List Int} (hd:∀ x∈d,0≤x∧x < 65536) (h:(jG p sn cn d l).2=true):Sx.Good (jG p sn cn d l).1:=by
 unfold jG at h ⊢
 split at h
 ·cases h
 ·rename_i c;rw [if_neg c]
  split at h
  ·rename_i c2;rw [if_pos c2];unfold Sx.new at c2 ⊢
   split at c2
   ·cases c2
   ·rename_i r1
    split at c2
    ·cases c2
    ·rename_i r2;rw [if_neg r1,if_neg r2];exact (Sx.Good.start (by simpa using r1) (by simpa using r2) hd (by omega)).runs l
  ·cases h
theorem Pj (p:List (List Pn.Op)) (sn cn:Int) (d l:List Int) (hd:∀ x∈d,0≤x∧x < 65536) :
  Pure prog 7 [.agg (qR p sn cn d),.c (ints l)] (.aY [.agg (az (jG p sn cn d l).1),.c (bI (jG p sn cn d l).2)]):=by
 have CN:=Ms p sn cn d;refine aq.intro func7 rfl rfl rfl (fun ok e=>?_)
 cases t1:(decide ((p.length:Int) > 8)) with
 | true =>
  have er:jG p sn cn d l=(oX,false):=by unfold jG;rw [if_pos (.inl (by have:=of_decide_eq_true t1;omega))]
  rw [er]
  repeat (first | (refine K.store ?_;refine JO.ld (Ld.aT rfl rfl rfl (by exact rfl) (by exact rfl)) rfl (fun _=>?_)) | refine av ?_ | intro _)
  (exact J.ret func7 rfl (.cons (.cell 0 rfl rfl rfl) (.cons (.tmp rfl) .nil)) () (by (exact .aY (by repeat (first | exact .nil | refine .cons (.agg (by repeat (first | exact .nil | refine .cons .refl ?_ | refine .cons .nil ?_))) ?_ | refine .cons .refl ?_)))) [] .nil rfl rfl)
 | false =>
 cases t2:(decide ((d.length:Int) > 300)) with
 | true =>
  have er:jG p sn cn d l=(oX,false):=by unfold jG;rw [if_pos (.inr (.inl (by have:=of_decide_eq_true t2;omega)))]
  rw [er]
  repeat (first | (refine K.store ?_;refine JO.ld (Ld.aT rfl rfl rfl (by exact rfl) (by exact rfl)) rfl (fun _=>?_)) | refine av ?_ | intro _)
  (exact J.ret func7 rfl (.cons (.cell 0 rfl rfl rfl) (.cons (.tmp rfl) .nil)) () (by (exact .aY (by repeat (first | exact .nil | refine .cons (.agg (by repeat (first | exact .nil | refine .cons .refl ?_ | refine .cons .nil ?_))) ?_ | refine .cons .refl ?_)))) [] .nil rfl rfl)
 | false =>
 cases t3:(decide ((l.length:Int) > 400)) with
 | true =>
  have er:jG p sn cn d l=(oX,false):=by unfold jG;rw [if_pos (.inr (.inr (by have:=of_decide_eq_true t3;omega)))]
  rw [er]
  repeat (first | (refine K.store ?_;refine JO.ld (Ld.aT rfl rfl rfl (by exact rfl) (by exact rfl)) rfl (fun _=>?_)) | refine av ?_ | intro _)
  (exact J.ret func7 rfl (.cons (.cell 0 rfl rfl rfl) (.cons (.tmp rfl) .nil)) () (by (exact .aY (by repeat (first | exact .nil | refine .cons (.agg (by repeat (first | exact .nil | refine .cons .refl ?_ | refine .cons .nil ?_))) ?_ | refine .cons .refl ?_)))) [] .nil rfl rfl)
 | false =>
 have u1:=of_decide_eq_false t1;have u2:=of_decide_eq_false t2;have u3:=of_decide_eq_false t3;have e1:¬ (8 < p.length∨300 < d.length∨400 < l.length):=by omega
 cases t4:((Sx.new p sn cn d).2 != 0) with
 | true =>
  have er:jG p sn cn d l=((Sx.new p sn cn d).1,false):=by unfold jG;rw [if_neg e1,if_neg (by simpa using t4)]
  rw [er]
  repeat (first | (refine K.store ?_;refine JO.ld (Ld.aT rfl rfl rfl (by exact rfl) (by exact rfl)) rfl (fun _=>?_)) | refine av ?_ | intro _)
  exact aA func7
 | false =>
  have t5:(Sx.new p sn cn d).2=0:=by simpa using t4
  have er:jG p sn cn d l=((Sx.runs (Sx.new p sn cn d).1 l).1,true):=by unfold jG;rw [if_neg e1,if_pos t5]
  have hg:Sx.Good (Sx.new p sn cn d).1∧(Sx.new p sn cn d).1.step=0:=by
   unfold Sx.new at t5 ⊢
   split at t5
   ·cases t5
   ·rename_i r1
    split at t5
    ·cases t5
    ·rename_i r2;rw [if_neg r1,if_neg r2];exact ⟨Sx.Good.start (by simpa using r1) (by simpa using r2) hd (by omega),rfl⟩
  have CR:=Pd (Sx.new p sn cn d).1 l hg.1 (by rw [hg.2];omega) (by rw [hg.2];omega) (by omega);rw [er]
  repeat (first | (refine K.store ?_;refine JO.ld (Ld.aT rfl rfl rfl (by exact rfl) (by exact rfl)) rfl (fun _=>?_)) | refine av ?_ | intro _)
  exact aA func7
theorem Pk {w:World} {cs:List Value} {a:vb} {U:List Nat} (h:sI w cs a U):∀ x∈a.d,0≤x∧x < 65536:=by
 obtain ⟨vp,vd,_,_,xs,T,v1,v2,_⟩:=h;intro x hx;obtain ⟨k,hk⟩:=List.getElem?_of_mem hx;obtain ⟨V,u1,_⟩:=v2 k x hk;have:=u1.2.1;simp only [Lit.wf,IntKind.min,IntKind.max,Bool.and_eq_true] at this;obtain ⟨q1,q2⟩:=this;have q3:decide ((0:Int)≤x)=true:=q1;have q4:decide (x≤(65535:Int))=true:=q2;simp only [decide_eq_true_eq] at q3 q4;omega
theorem Pm:eU prog 28 (mT (kB .i64) 1) 1:=tf Tryz.underlying28 (by kernel_rfl) Ao
theorem Pp {F:FuncId} {a:vb} {l:List Int} (h:Pure prog F [.agg (qR a.p a.sn a.cn a.d),.c (ints l)] (.c (bI true))) {w:World} {cs:Array Value} {U:List Nat} {v:Value} {S:List Nat} (he:sI w cs.toList a U) (hl:GV (kB .i64) 1 w v l S):Calls prog F #[.agg cs,v] w fun e w'=>e=.returned (.bool true)∧aE [] w w' :=
 H9 h (xs:=[.agg cs,v]) (bO.cons (by unfold RD;exact ⟨cs.toList,by simp,MD he fun _ _=>trivial⟩) (bO.cons (by unfold RD;exact MB.ra hl fun _ _=>trivial) bO.nil))
end Fl
open Go.RowKit
namespace Fl
open Sx Go.Proofs.Tryz
set_option maxRecDepth 100000
set_option maxHeartbeats 4000000
theorem Pq (ops:List Pn.Op) (m1:ops.length≤100000) (m2:∀ o∈ops,o.cases.length≤1000) :
  aq prog 66 [.c (.r 1 [[.r 6 (ops.map cC)]])] [] (fun u:Value=>(.c (.r 1 [[.v u]]),[.row u 58 6 (ops.map cC)])):=by
 refine aq.intro func66 rfl rfl rfl (fun ok e=>?_)
 repeat (first | (refine K.make ?_;refine JO.ld (Ld.vW (1) (qb rfl) rfl rfl (by (rfl)) (by omega)) rfl (fun _=>?_)) | refine gn ?_)
 refine J.loop (ι:=Value × Option Value) (fun q=>[(12,.c (.r 1 [[.r 6 (ops.map cC)]])),(13,.c (nI 1)),(14,.c (nI (match q.2 with | none=>0 | some _=>1))),(3,.c (.v q.1))]) (fun q=>match q.2 with | none=>[.row q.1 53 1 []] | some u=>[.row q.1 53 1 [[.v u]],.row u 58 6 (ops.map cC)]) (fun q=>match q.2 with | none=>1 | some _=>0) (_,none) (fun X h=>h.aQ ⟨rfl,rfl,rfl,rfl,trivial⟩) (fun q ih=>?_);obtain ⟨v1,q⟩:=q
 cases q with
 | none =>
  simp only at ih ⊢;have t1:decide ((0:Int) < (1:Int))=true:=rfl;have J1:[[A.r 6 (ops.map cC)]][(0:Int).toNat]?=some [A.r 6 (ops.map cC)]:=rfl
  repeat (refine gn ?_)
  refine J.gB 58 6 ?_;refine J.loop (ι:={ q:Nat × Value // q.1≤ops.length }) (fun q=>[(18,.c (.r 6 (ops.map cC))),(19,.c (nI ops.length)),(20,.c (nI q.1.1)),(6,.c (.v q.1.2)),(12,.c (.r 1 [[.r 6 (ops.map cC)]])),(13,.c (nI 1)),(14,.c (nI 0)),(3,.c (.v v1))]) (fun q=>[.row q.1.2 58 6 ((ops.take q.1.1).map cC),.row v1 53 1 []]) (fun q=>ops.length - q.1.1) ⟨(0,.slice none 0 0),Nat.zero_le _⟩ (fun X h=>h.aQ ⟨rfl,rfl,rfl,rfl,rfl,rfl,rfl,rfl,trivial⟩) (fun q fF=>?_);obtain ⟨⟨j,u⟩,hj⟩:=q;simp only at hj fF ⊢
  by_cases dH:j < ops.length
  ·have t2:(decide ((j:Int) < (ops.length:Int)))=true:=by simpa using dH
   obtain ⟨o,kO⟩:∃ o,ops[j]?=some o:=⟨_,List.getElem?_eq_getElem dH⟩
   have J2:(ops.map cC)[((j:Int)).toNat]?=some (cC o):=by rw [Int.toNat_natCast,List.getElem?_map,kO];rfl
   have m3:=m2 o (List.mem_of_getElem? kO)
   repeat (first | (refine K.store ?_;first | refine JO.ld (Ld.aT rfl rfl rfl (by exact rfl) (by exact rfl)) rfl (fun _=>?_) | refine JO.ld (Ld.cr rfl rfl (by exact rfl)) rfl (fun _=>?_)) | (refine K.bi ?_;first | refine JO.ld (Ld.dO (qb rfl) rfl rfl .read (by (simp;omega))) rfl (fun _=>?_) | ((refine JO.ld (Ld.bH (qb rfl) rfl rfl .bV (by (simp;omega))) rfl (fun _=>?_)))) | refine av ?_ | intro _)
   refine J.eI 1 ?_;refine J.eI 1 ?_;refine J.dj ?_ ((fF ⟨(j + 1,_),by simp only;omega⟩ (by simp only;omega)).aQ ⟨rfl,rfl,rfl,rfl,rfl,rfl,rfl,rfl,trivial⟩);rw [List.take_add_one,kO,List.map_append];rfl
  ·have t2:(decide ((j:Int) < (ops.length:Int)))=false:=by simpa using dH
   obtain rfl:j=ops.length:=by omega
   rw [List.take_length]
   repeat (first | (refine K.bi ?_;refine JO.ld (Ld.bH (qb rfl) rfl rfl .bV (by (simp))) rfl (fun _=>?_)) | refine av ?_ | intro _)
   rename_i v2;refine J.eI 1 ?_;exact (ih (v2,some u) (by simp)).aQ ⟨rfl,rfl,rfl,rfl,trivial⟩
 | some u =>
  simp only;have t1:decide ((1:Int) < (1:Int))=false:=rfl
  repeat (refine gn ?_)
  refine J.gG 2 rfl ?_
  (exact J.cS func66 rfl (.cons (.tmp rfl) .nil) u (by exact .refl) rfl)
theorem Pr (L:List ak) (x:Gr) (v w:Value) {i j:Nat} (hi:L[i]?=some (.row v 3 1 (aU x.au))) (hj:L[j]?=some (.row w 3 1 (aU x.an)))
  (b1:x.ops.length≤100000) (b2:∀ o∈x.ops,o.cases.length≤1000) (b3:x.order.length≤1000) (b4:x.aC.length≤1000) (b5:x.au.length≤1000) (b6:x.an.length≤1000) :
  aq prog 35 [.agg (gW x v w)] L (fun z:Value=>(.agg (.v z :: (eG { x with status:=0,token:=false }).tail),.row z 58 6 (x.ops.map cC) :: L)):=by
 have C1:=Pq x.ops b1 b2;haveI xO:eY L v 3 1 (aU x.au) i:=⟨hi⟩
 haveI nj:eY L w 3 1 (aU x.an) j:=⟨hj⟩
 refine aq.intro func35 rfl rfl rfl (fun ok e=>?_);have l5:(aU x.au).length=x.au.length:=fA _;have l6:(aU x.an).length=x.an.length:=fA _
 repeat (first | (refine K.store ?_;first | refine JO.ld (Ld.aT rfl rfl rfl (by exact rfl) (by exact rfl)) rfl (fun _=>?_) | refine JO.ld (Ld.cr rfl rfl (by exact rfl)) rfl (fun _=>?_)) | (refine K.indexAddr ?_;refine jx rfl rfl rfl rfl (by omega) (rfl) ?_) | (refine K.call ?_;rename_i b2 b1 _;refine JO.ld (Ld.yV (L':=fun z=>.row z 58 6 (x.ops.map cC) :: .box b1 55 _ :: .box b2 55 _ :: L) C1 (fun z=>rfl) (qb rfl) rfl (.cons .refl .nil)) rfl ?_;intro z) | (refine K.lit ?_;refine JO.ld (Ld.iZ (qb rfl) rfl rfl rfl rfl rfl) rfl (fun _=>?_)) | (refine K.bi ?_;first | refine JO.ld (Ld.dO (qb rfl) rfl rfl .read (by (simp;omega))) rfl (fun _=>?_) | refine JO.ld (Ld.dO (qb rfl) rfl rfl .bV (by (omega))) rfl (fun _=>?_)) | refine av ?_ | intro _)
 refine J.perm (List.perm_middle (l₁:=[_,_]) (l₂:=L)) ?_
 (exact J.rP [_,_] rfl func35 rfl (.cons (.cell 0 rfl rfl rfl) .nil) z la rfl)
end Fl
open Go.RowKit
namespace Fl
open Sx Go.Proofs.Tryz
set_option maxRecDepth 100000
set_option maxHeartbeats 4000000
structure vD where
 vg:Value
 vs:Value
 vd:Value
 vl:Nat→Value
def kr (s:ah) (vl:Nat→Value) (n:Nat):List (List A):=(List.range n).map fun k=>.v (vl k) :: (eG (aa s k)).tail
def nD (s:ah) (vl:Nat→Value) (n:Nat):List ak:=(List.range n).map fun k=>.row (vl k) 58 6 ((aa s k).ops.map cC)
theorem Pt (s:ah) (vl:Nat→Value) (k:Nat) (z:Value):kr s (fun j=>if j=k then z else vl j) (k + 1)=kr s vl k ++ [.v z :: (eG (aa s k)).tail]:=by
 unfold kr;rw [List.range_succ,List.map_append];simp only [List.map_cons,List.map_nil,if_pos]
 congr 1
 exact List.map_congr_left fun j hj=>by rw [if_neg (by have:=List.mem_range.1 hj;omega)]
theorem Pu (s:ah) (vl:Nat→Value) (k:Nat) (z:Value):nD s (fun j=>if j=k then z else vl j) (k + 1)=nD s vl k ++ [.row z 58 6 ((aa s k).ops.map cC)]:=by
 unfold nD;rw [List.range_succ,List.map_append];simp only [List.map_cons,List.map_nil,if_pos]
 congr 1
 exact List.map_congr_left fun j hj=>by rw [if_neg (by have:=List.mem_range.1 hj;omega)]
@[reducible] def jH (b:Nat) (u:U) (s:ah) (X:List ak):List ak :=
 .box b 87 (wW u s) ::
 .row u.vG 55 25 (fB u s) ::
 .row u.vR 104 1 ((List.range s.ax.length).map fun i=>[.v (u.rs i)]) ::
 .row u.vC 4 1 (s.ax.map fun c=>[bI c.closed]) ::
 .row u.vS 60 7 (s.aD.map eS) ::
 .row u.vM 46 13 (s.done.map eM) ::
 .box u.bD 132 [dW s,nI s.drawn] ::
 aL (tB u.pB (s.gs.map fun x=>(x.status,x.token))) u.TB ::
 aL (tL u.pL (s.ax.map (·.lock))) u.TL ::
 aL (tQ u.pQ s.aD.length (qW s)) u.TQ ::
 aL (tP u.pP s.cY.toNat s.bM.toNat (iI u s)) u.TP ::
 aL (tR (oq u s)) u.TR :: (ni u s ++ X)
theorem Pv (b:Nat) (u:U) (s:ah) (X:List ak):jH b u s X=wd b u s ++ X:=rfl
theorem Pw {u:U} {s:ah} {g:Nat} {X:List ak} (hg:g < s.gs.length):(ni u s ++ X)[g]?=some (.row (u.sg g) 3 1 (aU (aa s g).au)):=by
 have h:=CH (u:=u) hg;rw [List.getElem?_append_left (List.getElem?_eq_some_iff.1 h).1];exact h
theorem Px {u:U} {s:ah} {g:Nat} {X:List ak} (hg:g < s.gs.length):(ni u s ++ X)[s.gs.length + g]?=some (.row (u.wk g) 3 1 (aU (aa s g).an)):=by
 have h:=CI (u:=u) hg;rw [List.getElem?_append_left (List.getElem?_eq_some_iff.1 h).1];exact h
def vE (s:ah) (g c k:A) (vs vd:Value):List A:=[nI s.cY,nI s.bM,nI s.step,g,c,.v vs,k,ints s.middle,nI s.fresh,iu s.cD,nI s.drawn,.v vd]
def qX (s:ah) (q:vD):List A:=vE s (.v q.vg) (.r 6 (s.ax.map eC)) (.r 1 (s.cache.map fun l=>[ints l])) q.vs q.vd
@[reducible] def F9 (b:Nat) (u:U) (s:ah) (q:vD):List ak :=
 .row q.vg 55 25 (kr s q.vl s.gs.length) :: .row q.vs 60 7 (s.aD.map eS) :: .row q.vd 46 13 (s.done.map eM) :: jH b u s (nD s q.vl s.gs.length)
theorem J.back {P:Program} {c:Cx} {k:List Item} {f:Fm} {L L2:List ak} (i:Nat) {r:ak} [er:jK L i L2] (hi:L[i]?=some r) (h:J P c k f (L2 ++ [r])):J P c k f L :=
 J.perm ((List.perm_append_comm (l₁:=L2) (l₂:=[r])).trans (by rw [← er.h];exact nN L i hi)) h
theorem Py (b:Nat) (u:U) (s:ah) (F:Fw s) :
  aq prog 15 [.c (.v (pt b))] (wd b u s) (fun q:vD=>(.agg (qX s q),F9 b u s q)):=by
 have f1:=F.su;have f2:=F.dn;have f3:=F.dr;have f4:=F.fr;have z:((s.fresh.toNat:Nat):Int)=s.fresh:=by omega
 have CM:=Cw u.pP s.cY.toNat s.bM.toNat (iI u s) u.TP F.mb;have CF:=Cy u.pP s.cY.toNat s.bM.toNat (iI u s) u.TP;rw [show (((iI u s).f:Nat):Int)=s.fresh from z] at CF;have CD:aq prog 39 [.c (.v (pt u.bD))] [.box u.bD 132 [dW s,nI s.drawn]] (fun _:Unit=>(.c (nI s.drawn),[.box u.bD 132 [dW s,nI s.drawn]])):=CU u.bD s.cD s.drawn;refine aq.intro func15 rfl rfl rfl (fun ok e=>?_)
 repeat (first | refine J.seq ?_ | (refine J.region ?_;refine JO.alloc rfl (qb rfl) ?_;intro b2;refine JO.nil ?_))
 refine J.dj (L':=.box b2 36 kK :: jH b u s []) (by rw [Pv,List.append_nil];rfl) ?_;refine J.join (ι:=Nat × Value × Value) (fun q=>[(3,.c (.v (pt q.1))),(2,.c (.v (pt b2))),(0,.c (.v (pt b)))]) (fun q=>.box q.1 36 (vE s (.v (.slice none 0 0)) (.v (.slice none 0 0)) (.v (.slice none 0 0)) q.2.1 q.2.2) :: .box b2 36 kK :: .row q.2.1 60 7 (s.aD.map eS) :: .row q.2.2 46 13 (s.done.map eM) :: jH b u s []) (fun q=>?rest) (fun rest=>?_)
 case rest =>
  obtain ⟨b3,vs,vd⟩:=q;simp only
  repeat (first | (refine K.bi ?_;refine jq rfl rfl rfl (Qt.ot 5 rfl rfl (qD u s)) ?_) | refine gn ?_)
  refine J.gB 55 25 ?_;refine J.gB 28 1 ?_;refine J.loop (ι:={ q:Nat × Value × Value × (Nat→Value) // q.1≤s.gs.length }) (fun q=>[(52,.c (nI q.1.1)),(51,.c (nI s.gs.length)),(50,.c (.v u.vG)),(3,.c (.v (pt b3))),(2,.c (.v (pt b2))),(0,.c (.v (pt b)))]) (fun q=>.row q.1.2.1 28 1 ((s.cache.take q.1.1).map fun l=>[ints l]) :: .row q.1.2.2.1 55 25 (kr s q.1.2.2.2 q.1.1) :: .box b3 36 (vE s (.v q.1.2.2.1) (.v (.slice none 0 0)) (.v q.1.2.1) vs vd) :: .box b2 36 kK :: .row vs 60 7 (s.aD.map eS) :: .row vd 46 13 (s.done.map eM) :: jH b u s (nD s q.1.2.2.2 q.1.1)) (fun q=>s.gs.length - q.1.1) ⟨(0,.slice none 0 0,.slice none 0 0,fun _=>.slice none 0 0),Nat.zero_le _⟩ (fun X h=>h.aQ ⟨rfl,rfl,rfl,rfl,rfl,rfl,trivial⟩) (fun q ih=>?_);obtain ⟨⟨k,vc,vg,vl⟩,hk⟩:=q;simp only at hk ih ⊢
  by_cases aN:k < s.gs.length
  ·have t1:(decide ((k:Int) < (s.gs.length:Int)))=true:=by simpa using aN
   have OW:∀ x:Int,x=k→0≤x∧x < (fB u s).length:=fun x hx=>by rw [qD];omega
   have hx:s.gs[k]?=some (aa s k):=by unfold aa;rw [List.getD_eq_getElem?_getD,List.getElem?_eq_getElem aN];rfl
   have hm:=List.mem_of_getElem? hx;have BS:=Ci u.pB (s.gs.map fun x=>(x.status,x.token)) u.TB (k:Int);have BT:=Cj u.pB (s.gs.map fun x=>(x.status,x.token)) u.TB (k:Int);rw [CX aN] at BS;rw [CY aN] at BT;have CC:=Cz u.pP s.cY.toNat s.bM.toNat (iI u s) u.TP k (by show k < s.cache.length;rw [F.cl];omega) F.cb;obtain ⟨o1,o2⟩:=F.op _ hm;obtain ⟨o3,o4,o5,o6⟩:=F.zo _ hm;have bU:(s.cache.take k).length=k:=by rw [List.length_take,F.cl];omega
   have tj:(kr s vl k).length=k:=by simp [kr]
   have g8:=F.gs
   repeat (first | (refine K.load ?_;((refine jq rfl rfl rfl (Qt.Bk rfl ((zm aN)) (by exact rfl)) ?_))) | (refine K.store ?_;refine JO.ld (Ld.aT rfl rfl rfl (by exact rfl) (by exact rfl)) rfl (fun _=>?_)) | (refine K.indexAddr ?_;refine jq rfl rfl rfl (Qt.cB rfl rfl (OW _ rfl).1 (OW _ rfl).2) ?_) | (refine K.call ?_;refine JO.ld (Ld.gy (Pr _ (aa s k) (u.sg k) (u.wk k) (i:=k + 19) (j:=s.gs.length + k + 19) (Pw aN) (Px aN) o1 o2 o3 o4 o5 o6) (qb rfl) rfl (.cons .refl .nil)) rfl ?_;intro z) | refine av ?_ | intro _)
   refine J.draw (by kernel_rfl) rfl ?_;refine JW.gw [15] (some 13) ?_;refine tk 0 ?_;refine tk 1 ?_;refine tk 2 ?_;refine tk 3 ?_;refine tk 4 ?_;refine JD.j7 6 rfl rfl (by kernel_rfl) rfl (qb rfl) (Qt.move rfl) rfl ?_;refine JD.j7 7 rfl rfl (by kernel_rfl) rfl (qb rfl) (Qt.nilCheck rfl rfl) rfl ?_;refine JD.j7 8 rfl rfl (by kernel_rfl) rfl (qb rfl) (Qt.fieldAddr rfl rfl) rfl ?_
   (refine JD.j7 9 rfl rfl (by kernel_rfl) rfl (qb rfl) (Qt.kE rfl (by exact rfl)) rfl ?_)
   refine JD.j7 10 rfl rfl (by kernel_rfl) rfl (qb rfl) (Qt.move rfl) rfl ?_;refine jl 5 rfl rfl rfl rfl (Ld.cT BS (qb rfl) rfl (.cons .refl (.cons .refl .nil))) (.dS rfl) (fun _=>?_);refine tk 12 ?_;refine jl 11 rfl rfl rfl rfl (Ld.cT BT (qb rfl) rfl (.cons .refl (.cons .refl .nil))) (.dS rfl) (fun _=>?_);refine jt 13 rfl rfl (Ld.cr rfl rfl (by exact rfl)) (fun _=>?_);refine JW.gw [15] (some 15) ?_;refine jk 14 rfl rfl rfl rfl (Qt.fieldAddr rfl rfl) ?_;refine jt 15 rfl rfl (Ld.cr rfl rfl (by exact rfl)) (fun _=>?_);refine bz ?_
   repeat (first | (refine K.store ?_;refine JO.ld (Ld.cr rfl rfl (by exact rfl)) rfl (fun _=>?_)) | (refine K.bi ?_;refine JO.ld (Ld.bH (qb rfl) rfl rfl .bV (by (simp;omega))) rfl (fun _=>?_)) | refine av ?_ | intro _)
   refine J.eI 1 ?_;refine J.eI 2 ?_;refine J.draw (by kernel_rfl) rfl ?_;refine JW.gw [17,2] (some 11) ?_;refine tk 0 ?_;refine tk 1 ?_;refine tk 2 ?_;refine tk 3 ?_;refine tk 4 ?_;refine tk 5 ?_;refine tk 6 ?_;refine jl 7 rfl rfl rfl rfl (Ld.cT CC (qb rfl) rfl (.cons .refl (.cons .refl .nil))) (.dS rfl) (fun _=>?_);refine jl 8 rfl rfl rfl rfl (Ld.iZ (qb rfl) rfl rfl rfl rfl rfl) .none (fun _=>?_);refine jl 9 rfl rfl rfl rfl (Ld.bH (qb rfl) rfl rfl .read (by (simp;omega))) (.oU rfl) (fun _=>?_);refine jk 10 rfl rfl rfl rfl (Qt.fieldAddr rfl rfl) ?_;refine jt 11 rfl rfl (Ld.cr rfl rfl (by exact rfl)) (fun _=>?_);refine bz ?_
   repeat (refine gn ?_)
   rename_i uh _ _ _ uj _;refine J.back 2 rfl ?_;refine J.dj ?_ ((ih ⟨(k + 1,uj,uh,fun j=>if j=k then z else vl j),by simp only;omega⟩ (by simp only;omega)).aQ ⟨rfl,rfl,rfl,rfl,rfl,rfl,trivial⟩);have bX:=C9 (s:=s) (k:=k) (by rw [F.cl];exact aN);simp only;rw [List.take_add_one,bX,List.map_append,Pt,Pu];simp only [jH,List.cons_append,List.append_assoc];rfl
  ·have t1:(decide ((k:Int) < (s.gs.length:Int)))=false:=by simpa using aN
   obtain rfl:k=s.gs.length:=by omega
   refine J.jR 0 2 6 rfl rfl rfl ?_
   repeat (first | (refine K.bi ?_;refine jq rfl rfl rfl (Qt.ot 7 (n:=s.ax.length) rfl rfl (by simp)) ?_) | refine gn ?_)
   refine J.gB 97 6 ?_;rw [List.take_of_length_le (by rw [F.cl];exact Nat.le_refl _)];refine J.loop (ι:={ q:Nat × Value // q.1≤s.ax.length }) (fun q=>[(96,.c (nI q.1.1)),(95,.c (nI s.ax.length)),(94,.c (.v u.vR)),(3,.c (.v (pt b3))),(2,.c (.v (pt b2))),(0,.c (.v (pt b)))]) (fun q=>.row q.1.2 97 6 ((s.ax.take q.1.1).map eC) :: .row vg 55 25 (kr s vl s.gs.length) :: .box b3 36 (vE s (.v vg) (.v q.1.2) (.r 1 (s.cache.map fun l=>[ints l])) vs vd) :: .box b2 36 kK :: .row vs 60 7 (s.aD.map eS) :: .row vd 46 13 (s.done.map eM) :: jH b u s (nD s vl s.gs.length)) (fun q=>s.ax.length - q.1.1) ⟨(0,.slice none 0 0),Nat.zero_le _⟩ (fun X h=>h.aQ ⟨rfl,rfl,rfl,rfl,rfl,rfl,trivial⟩) (fun q ih=>?_);obtain ⟨⟨k,vh⟩,hk⟩:=q;simp only at hk ih ⊢
   by_cases aN:k < s.ax.length
   ·have t1:(decide ((k:Int) < (s.ax.length:Int)))=true:=by simpa using aN
    have hx:=rW aN;have hm:=List.mem_of_getElem? hx;have c8:=F.ch;have uk:=F.cp _ hm;have bU:(s.ax.take k).length=k:=by rw [List.length_take];omega
    have RR:=Cm (oq u s) u.TR (wB (u:=u) aN);rw [show (((Sx.cn s ((k:Int) + 1)).cap.toNat:Nat):Int)=(Sx.cn s ((k:Int) + 1)).cap by omega] at RR;have RA:=Co (oq u s) u.TR (wB (u:=u) aN);have LO:=BZ u.pL (s.ax.map (·.lock)) u.TL (k:Int);rw [CZ aN] at LO;have QR:=wq u.pQ s.aD.length (qW s) u.TQ (2 * ((k:Int) + 1) - 2);rw [C7 (by omega)] at QR;have QS:=wq u.pQ s.aD.length (qW s) u.TQ (2 * ((k:Int) + 1) - 1);rw [C8 (by omega)] at QS;have w1:IntKind.i64.wrap ((k:Int) + 1)=(k:Int) + 1:=fq (by omega) (by omega);have OR:∀ x:Int,x=k→0≤x∧x < ((List.range s.ax.length).map fun i=>[A.v (u.rs i)]).length:=fun x hx=>by simp;omega
    have OC:∀ x:Int,x=k→0≤x∧x < (s.ax.map fun c=>[bI c.closed]).length:=fun x hx=>by simp;omega
    have AR:((List.range s.ax.length).map fun i=>[A.v (u.rs i)])[((k:Int)).toNat]?=some [A.v (u.rs k)]:=by rw [Int.toNat_natCast,List.getElem?_map,List.getElem?_range aN];rfl
    have AC:(s.ax.map fun c=>[bI c.closed])[((k:Int)).toNat]?=some [bI (Sx.cn s ((k:Int) + 1)).closed]:=by rw [Int.toNat_natCast,List.getElem?_map,hx];rfl
    repeat (first | (refine K.load ?_;refine jq rfl rfl rfl (Qt.dx rfl (AR) (by exact rfl)) ?_) | (refine K.indexAddr ?_;refine jq rfl rfl rfl (Qt.cB rfl rfl (OR _ rfl).1 (OR _ rfl).2) ?_) | refine gn ?_)
    refine J.draw (by kernel_rfl) rfl ?_;refine JW.gw [0,14,15,17] (some 39) ?_;refine tk 0 ?_;refine tk 1 ?_;refine tk 2 ?_;refine tk 4 ?_;refine tk 6 ?_;refine tk 7 ?_;refine tk 8 ?_;refine tk 9 ?_;refine tk 10 ?_;refine JD.take 11 rfl rfl (by kernel_rfl) rfl (qb rfl) (Qt.cB rfl rfl (OC _ rfl).1 (OC _ rfl).2) rfl ?_;refine JD.take 12 rfl rfl (by kernel_rfl) rfl (qb rfl) (Qt.dx rfl AC rfl) rfl ?_;refine tk 13 ?_;refine tk 14 ?_;refine tk 15 ?_;refine tk 16 ?_;refine tk 17 ?_;refine tk 19 ?_;refine tk 20 ?_;refine tk 21 ?_;refine tk 22 ?_;refine tk 23 ?_;refine JD.take 24 rfl rfl (by kernel_rfl) rfl (qb rfl) (Qt.dy rfl rfl rfl w1) rfl ?_;refine tk 27 ?_;refine tk 28 ?_;refine tk 29 ?_;refine tk 30 ?_;refine tk 31 ?_;refine JD.take 32 rfl rfl (by kernel_rfl) rfl (qb rfl) (Qt.dy rfl rfl rfl w1) rfl ?_;refine jl 3 rfl rfl rfl rfl (Ld.cT RR (qb rfl) rfl (.cons .refl .nil)) (.dS rfl) (fun _=>?_);refine jl 5 rfl rfl rfl rfl (Ld.cT RA (qb rfl) rfl (.cons .refl .nil)) (.dS rfl) (fun _=>?_);refine jl 18 rfl rfl rfl rfl (Ld.cT LO (qb rfl) rfl (.cons .refl (.cons .refl .nil))) (.dS rfl) (fun _=>?_);refine jl 25 rfl rfl rfl rfl (Ld.pure (zq ((k:Int) + 1) (by omega) (by omega)) (qb rfl) rfl lq) .none (fun _=>?_);refine jl 26 rfl rfl rfl rfl (Ld.cT QR (qb rfl) rfl (.cons .refl (.cons .refl .nil))) (.dS rfl) (fun _=>?_);refine jl 33 rfl rfl rfl rfl (Ld.pure (zu ((k:Int) + 1) (by omega) (by omega)) (qb rfl) rfl lq) .none (fun _=>?_);refine jl 34 rfl rfl rfl rfl (Ld.cT QS (qb rfl) rfl (.cons .refl (.cons .refl .nil))) (.dS rfl) (fun _=>?_);refine jk 35 rfl rfl rfl rfl (Qt.build rfl (by kernel_rfl)) ?_;refine jl 36 rfl rfl rfl rfl (Ld.iZ (qb rfl) rfl rfl rfl rfl rfl) .none (fun _=>?_);refine jl 37 rfl rfl rfl rfl (Ld.bH (qb rfl) rfl rfl .read (by (simp;omega))) (.oU rfl) (fun _=>?_);refine jk 38 rfl rfl rfl rfl (Qt.fieldAddr rfl rfl) ?_;refine jt 39 rfl rfl (Ld.cr rfl rfl (by exact rfl)) (fun _=>?_);refine bz ?_
    repeat (refine gn ?_)
    rename_i zy _;refine J.dj ?_ ((ih ⟨(k + 1,zy),by simp only;omega⟩ (by simp only;omega)).aQ ⟨rfl,rfl,rfl,rfl,rfl,rfl,trivial⟩);rw [List.take_add_one,hx,List.map_append];rfl
   ·have t1:(decide ((k:Int) < (s.ax.length:Int)))=false:=by simpa using aN
    obtain rfl:k=s.ax.length:=by omega
    rw [List.take_of_length_le (Nat.le_refl _)];refine J.jR 0 2 4 rfl rfl rfl ?_
    repeat (first | (refine K.store ?_;refine JO.ld (Ld.aT rfl rfl rfl (by exact rfl) (by exact rfl)) rfl (fun _=>?_)) | refine gn ?_)
    refine J.perm (List.perm_middle (l₁:=[_,_])) ?_
    (exact J.rP [_,_] rfl func15 rfl (.cons (.cell 1 rfl rfl rfl) .nil) ⟨vg,vs,vd,vl⟩ la rfl)
 refine J.draw (by kernel_rfl) rfl ?_;refine JW.gw [11,7] (some 40) ?_;refine tk 0 ?_;refine tk 1 ?_;refine tk 2 ?_;refine tk 3 ?_;refine tk 4 ?_;refine tk 5 ?_;refine tk 6 ?_;refine tk 7 ?_;refine tk 8 ?_;refine tk 9 ?_;refine tk 10 ?_;refine tk 11 ?_;refine tk 13 ?_;refine tk 14 ?_;refine tk 15 ?_;refine tk 16 ?_;refine tk 18 ?_;refine tk 19 ?_;refine tk 20 ?_;refine tk 21 ?_;refine tk 23 ?_;refine tk 24 ?_;refine tk 25 ?_;refine tk 26 ?_;refine tk 28 ?_;refine tk 29 ?_;refine tk 30 ?_;refine tk 31 ?_;refine tk 33 ?_;refine tk 34 ?_;refine tk 35 ?_;refine tk 36 ?_;refine JD.cy (i:=12) (j:=39) (by kernel_rfl) ?_ ?_;refine JS.bt rfl rfl rfl (qb rfl) (Ld.jM (qb rfl) rfl rfl .bV (by (simp;omega))) .none (fun _=>?_);refine JD.cy (i:=17) (j:=39) (by kernel_rfl) ?_ ?_;refine JS.bt rfl rfl rfl (qb rfl) (Ld.cT CM (qb rfl) rfl (.cons .refl .nil)) (.dS rfl) (fun _=>?_);refine JD.cy (i:=22) (j:=39) (by kernel_rfl) ?_ ?_;refine JS.bt rfl rfl rfl (qb rfl) (Ld.cT CF (qb rfl) rfl (.cons .refl .nil)) (.dS rfl) (fun _=>?_);refine JD.cy (i:=27) (j:=39) (by kernel_rfl) ?_ ?_;refine JS.bt rfl rfl rfl (qb rfl) (Ld.dO (qb rfl) rfl rfl .read (by (simp;omega))) .none (fun _=>?_);refine JD.cy (i:=32) (j:=39) (by kernel_rfl) ?_ ?_;refine JS.bt rfl rfl rfl (qb rfl) (Ld.cT CD (qb rfl) rfl (.cons .refl .nil)) (.ig rfl) (fun _=>?_);refine JD.cy (i:=37) (j:=39) (by kernel_rfl) ?_ ?_;refine JS.bt rfl rfl rfl (qb rfl) (Ld.jM (qb rfl) rfl rfl .bV (by (simp;omega))) .none (fun _=>?_);refine JD.jN ?_;refine tk 38 ?_;refine jl 39 rfl rfl rfl rfl (Ld.alloc (qb rfl)) .none (fun _=>?_);refine jt 40 rfl rfl (Ld.aT rfl rfl rfl (by exact rfl) (by exact rfl)) (fun _=>?_);refine bz ?_
 rotate_left
 refine JS.bt rfl rfl rfl (qb rfl) (Ld.alloc (qb rfl)) .none (fun _=>?_);refine jl 37 rfl rfl rfl rfl (Ld.jM (qb rfl) rfl rfl .bV (by (simp;omega))) .none (fun _=>?_);refine jk 38 rfl rfl rfl rfl (Qt.build rfl (by kernel_rfl)) ?_;refine jt 40 rfl rfl (Ld.aT rfl rfl rfl (by exact rfl) (by exact rfl)) (fun _=>?_);refine bz ?_
 rotate_left
 refine JS.bt rfl rfl rfl (qb rfl) (Ld.alloc (qb rfl)) .none (fun _=>?_);refine jl 32 rfl rfl rfl rfl (Ld.cT CD (qb rfl) rfl (.cons .refl .nil)) (.ig rfl) (fun _=>?_);refine jl 37 rfl rfl rfl rfl (Ld.jM (qb rfl) rfl rfl .bV (by (simp;omega))) .none (fun _=>?_);refine jk 38 rfl rfl rfl rfl (Qt.build rfl (by kernel_rfl)) ?_;refine jt 40 rfl rfl (Ld.aT rfl rfl rfl (by exact rfl) (by exact rfl)) (fun _=>?_);refine bz ?_
 rotate_left
 refine JS.bt rfl rfl rfl (qb rfl) (Ld.alloc (qb rfl)) .none (fun _=>?_);refine jl 27 rfl rfl rfl rfl (Ld.dO (qb rfl) rfl rfl .read (by (simp;omega))) .none (fun _=>?_);refine jl 32 rfl rfl rfl rfl (Ld.cT CD (qb rfl) rfl (.cons .refl .nil)) (.ig rfl) (fun _=>?_);refine jl 37 rfl rfl rfl rfl (Ld.jM (qb rfl) rfl rfl .bV (by (simp;omega))) .none (fun _=>?_);refine jk 38 rfl rfl rfl rfl (Qt.build rfl (by kernel_rfl)) ?_;refine jt 40 rfl rfl (Ld.aT rfl rfl rfl (by exact rfl) (by exact rfl)) (fun _=>?_);refine bz ?_
 rotate_left
 refine JS.bt rfl rfl rfl (qb rfl) (Ld.alloc (qb rfl)) .none (fun _=>?_);refine jl 22 rfl rfl rfl rfl (Ld.cT CF (qb rfl) rfl (.cons .refl .nil)) (.dS rfl) (fun _=>?_);refine jl 27 rfl rfl rfl rfl (Ld.dO (qb rfl) rfl rfl .read (by (simp;omega))) .none (fun _=>?_);refine jl 32 rfl rfl rfl rfl (Ld.cT CD (qb rfl) rfl (.cons .refl .nil)) (.ig rfl) (fun _=>?_);refine jl 37 rfl rfl rfl rfl (Ld.jM (qb rfl) rfl rfl .bV (by (simp;omega))) .none (fun _=>?_);refine jk 38 rfl rfl rfl rfl (Qt.build rfl (by kernel_rfl)) ?_;refine jt 40 rfl rfl (Ld.aT rfl rfl rfl (by exact rfl) (by exact rfl)) (fun _=>?_);refine bz ?_
 rotate_left
 refine JS.bt rfl rfl rfl (qb rfl) (Ld.alloc (qb rfl)) .none (fun _=>?_);refine jl 17 rfl rfl rfl rfl (Ld.cT CM (qb rfl) rfl (.cons .refl .nil)) (.dS rfl) (fun _=>?_);refine jl 22 rfl rfl rfl rfl (Ld.cT CF (qb rfl) rfl (.cons .refl .nil)) (.dS rfl) (fun _=>?_);refine jl 27 rfl rfl rfl rfl (Ld.dO (qb rfl) rfl rfl .read (by (simp;omega))) .none (fun _=>?_);refine jl 32 rfl rfl rfl rfl (Ld.cT CD (qb rfl) rfl (.cons .refl .nil)) (.ig rfl) (fun _=>?_);refine jl 37 rfl rfl rfl rfl (Ld.jM (qb rfl) rfl rfl .bV (by (simp;omega))) .none (fun _=>?_);refine jk 38 rfl rfl rfl rfl (Qt.build rfl (by kernel_rfl)) ?_;refine jt 40 rfl rfl (Ld.aT rfl rfl rfl (by exact rfl) (by exact rfl)) (fun _=>?_);refine bz ?_
 rotate_left
 refine JS.bt rfl rfl rfl (qb rfl) (Ld.alloc (qb rfl)) .none (fun _=>?_);refine jl 12 rfl rfl rfl rfl (Ld.jM (qb rfl) rfl rfl .bV (by (simp;omega))) .none (fun _=>?_);refine jl 17 rfl rfl rfl rfl (Ld.cT CM (qb rfl) rfl (.cons .refl .nil)) (.dS rfl) (fun _=>?_);refine jl 22 rfl rfl rfl rfl (Ld.cT CF (qb rfl) rfl (.cons .refl .nil)) (.dS rfl) (fun _=>?_);refine jl 27 rfl rfl rfl rfl (Ld.dO (qb rfl) rfl rfl .read (by (simp;omega))) .none (fun _=>?_);refine jl 32 rfl rfl rfl rfl (Ld.cT CD (qb rfl) rfl (.cons .refl .nil)) (.ig rfl) (fun _=>?_);refine jl 37 rfl rfl rfl rfl (Ld.jM (qb rfl) rfl rfl .bV (by (simp;omega))) .none (fun _=>?_);refine jk 38 rfl rfl rfl rfl (Qt.build rfl (by kernel_rfl)) ?_;refine jt 40 rfl rfl (Ld.aT rfl rfl rfl (by exact rfl) (by exact rfl)) (fun _=>?_);refine bz ?_
 rotate_left
 all_goals
  refine J.BF 45 rfl ?_;refine J.BF 20 rfl ?_;refine J.perm ((List.perm_append_comm (l₁:=[_,_]) (l₂:=[_,_])).append_right (jH b u s [])) ?_;exact (rest (_,_,_)).aQ ⟨rfl,rfl,rfl,trivial⟩
end Fl
open Go.RowKit
namespace Fl
open Sx Go.Proofs.Tryz
set_option maxRecDepth 100000
section
variable {P:Program} {c:Cx} {k:List Item} {f:Fm} {L:List ak} {T X:TypeId} {ps:String} {af:Array Edge} {gd:Option (Nat × Bool)} {t:Nat}
theorem Ld.Pz {F:FuncId} {args:List Operand} {tys:Array TypeId} {ds:List D} {v:Value} [i:aK P F] (hC:Pure P F ds (.c (.v v))) (ht:t < c.N) (h:∀ (a:Act) (w:World),St c f L a w→bO (fun _=>True) w ds (args.map a.eval)) :
  Ld P c ⟨some t,.call ⟨.value (.func F),args.toArray,tys⟩,T,ps,af,gd⟩ f L [] (fun _:Unit=>(t,.c (.v v)) :: f) (fun _=>L):=⟨fun a w s K Q hK=>by
 have mU:(execOp a.eval ⟨some t,.call ⟨.value (.func F),args.toArray,tys⟩,T,ps,af,gd⟩).run P w=.ok (.enter F (args.map a.eval).toArray) w:=by
  simp [execOp,resolve,Deferred.ofValue,invoke,Act.eval,Sem.run_bind,By i.h]
 unfold Oper.wp;rw [mU];refine Calls.mono (hC.go (fun _=>True) w (args.map a.eval) (h a w s) (by simp) List.Pairwise.nil (by simp [aS])) ?_
 rintro en w' ⟨_,x,rfl,kp,g1,g2,g3,g4⟩
 have kY:aE [] w w':=by simpa [aS] using kp
 unfold RD RA at g4;obtain ⟨rfl,hv⟩:=g4;exact hK () _ _ kY (s.more ht kY (by unfold RD RA;exact ⟨rfl,hv⟩)) fun y hy=>.inl hy⟩
theorem J.PA {b:Nat} {u:U} {s:ah} {X:List ak} {f0 f1 f2 f3 f4 f5 r:ak} (j:Nat) (hj:X[j]?=some r) (h:J P c k f (r :: f0 :: f1 :: f2 :: f3 :: f4 :: f5 :: jH b u s (X.eraseIdx j))):J P c k f (f0 :: f1 :: f2 :: f3 :: f4 :: f5 :: jH b u s X) :=
 J.I9 (f0 :: f1 :: f2 :: f3 :: f4 :: f5 :: wd b u s) hj h
theorem J.Ga {b:Nat} {u:U} {s:ah} {X X':List ak} {f0 f1 f2 f3 f4 f5 r q:ak} (j:Nat) (hj:X[j]?=some q) (e:X.set j r=X') (h:J P c k f (f0 :: f1 :: f2 :: f3 :: f4 :: f5 :: jH b u s X')):J P c k f (r :: f0 :: f1 :: f2 :: f3 :: f4 :: f5 :: jH b u s (X.eraseIdx j)) :=
 J.Ja (f0 :: f1 :: f2 :: f3 :: f4 :: f5 :: wd b u s) hj e h
end
theorem J.PB {P:Program} {c:Cx} {k:List Item} {f:Fm} {b:Nat} {u:U} {s:ah} {X:List ak} {f0 f1 f2 f3 f4 f5:ak} (h:J P c k f (f0 :: f1 :: f2 :: f3 :: f4 :: f5 :: wd b u s)):J P c k f (f0 :: f1 :: f2 :: f3 :: f4 :: f5 :: jH b u s X) :=
 J.Eh (E:=f0 :: f1 :: f2 :: f3 :: f4 :: f5 :: wd b u s) h
theorem RA.tt {ok:Nat→Prop} {w:World} {a:A} {x:Value} (h:RA ok w a x):RA (fun _=>True) w a x:=RA.ck ⟨Nat.le_refl _,fun _ _ _=>⟨trivial,rfl⟩⟩ _ _ h
theorem RC.tt {ok:Nat→Prop} {w:World} {a:List A} {x:List Value} (h:RC ok w a x):RC (fun _=>True) w a x:=RC.ck ⟨Nat.le_refl _,fun _ _ _=>⟨trivial,rfl⟩⟩ _ _ h
theorem RX.imp {ok dL:Nat→Prop} {w:World} {sz:Nat}:∀ {l l':List (List A)} {xs:List Value},l.length=l'.length→(∀ (k:Nat) (cs eV:List A),l[k]?=some cs→l'[k]?=some eV→∀ vs,RC ok w cs vs→RC dL w eV vs)→RX ok w sz l xs→RX dL w sz l' xs
 | [],[],xs,_,_,h=>h
 | [],_ :: _,_,e,_,_=>by simp at e
 | _ :: _,[],_,e,_,_=>by simp at e
 | a :: l,b :: l',xs,e,hp,h=>by
  obtain ⟨vs,ys,h1,h2,h3,h4⟩:=h;exact ⟨vs,ys,h1,h2,hp 0 a b rfl rfl _ h3,RX.imp (by simpa using e) (fun k cs eV x y=>hp (k + 1) cs eV (by simpa using x) (by simpa using y)) h4⟩
theorem RA.ofRow {ok:Nat→Prop} {w:World} {v:Value} {e:TypeId} {sz:Nat} {l l':List (List A)} (hl:l.length=l'.length) (hp:∀ (k:Nat) (cs eV:List A),l[k]?=some cs→l'[k]?=some eV→∀ vs,RC ok w cs vs→RC (fun _=>True) w eV vs) (h:ak.holds ok w (.row v e sz l)):RA (fun _=>True) w (.r sz l') v:=by
 obtain ⟨xs,r1,r2⟩:=h;have r3:=r1.view;rw [hl] at r3;exact RA.vQ r3 (RX.imp hl hp r2) fun _ _=>trivial
theorem RA.row {ok:Nat→Prop} {w:World} {v:Value} {e:TypeId} {sz:Nat} {l:List (List A)} (h:ak.holds ok w (.row v e sz l)):RA (fun _=>True) w (.r sz l) v :=
 RA.ofRow rfl (fun k cs eV h1 h2 vs hv=>by rw [h1] at h2;cases h2;exact hv.tt) h
theorem PC {ok:Nat→Prop} {w:World} {s:ah} {q:vD} {cs:List Value} (h:RC ok w (qX s q) cs) (hg:ak.holds ok w (.row q.vg 55 25 (kr s q.vl s.gs.length))) (hs:ak.holds ok w (.row q.vs 60 7 (s.aD.map eS))) (hd:ak.holds ok w (.row q.vd 46 13 (s.done.map eM)))
  (ho:∀ k,k < s.gs.length→ak.holds ok w (.row (q.vl k) 58 6 ((aa s k).ops.map cC))):RC (fun _=>True) w (az s) cs:=by
 unfold qX vE at h;have at_:∀ k a,[nI s.cY,nI s.bM,nI s.step,A.v q.vg,.r 6 (s.ax.map eC),.v q.vs,.r 1 (s.cache.map fun l=>[ints l]),ints s.middle,nI s.fresh,iu s.cD,nI s.drawn,.v q.vd][k]?=some a→∃ x,cs[k]?=some x∧RA ok w a x:=fun k a e=>RC.get k h e
 have hl:cs.length=12:=RC.len h;obtain ⟨x0,x1,x2,x3,x4,x5,x6,x7,x8,x9,vF,sR,rfl⟩:∃ x0 x1 x2 x3 x4 x5 x6 x7 x8 x9 vF sR,cs=[x0,x1,x2,x3,x4,x5,x6,x7,x8,x9,vF,sR]:=by
  match cs,hl with
  | [x0,x1,x2,x3,x4,x5,x6,x7,x8,x9,vF,sR],_=>exact ⟨x0,x1,x2,x3,x4,x5,x6,x7,x8,x9,vF,sR,rfl⟩
 have g:∀ k a x,[nI s.cY,nI s.bM,nI s.step,A.v q.vg,.r 6 (s.ax.map eC),.v q.vs,.r 1 (s.cache.map fun l=>[ints l]),ints s.middle,nI s.fresh,iu s.cD,nI s.drawn,.v q.vd][k]?=some a→[x0,x1,x2,x3,x4,x5,x6,x7,x8,x9,vF,sR][k]?=some x→RA ok w a x:=fun k a x e1 e2=>by
  obtain ⟨y,e3,r⟩:=at_ k a e1;rw [e2] at e3;cases e3;exact r
 have e3:x3=q.vg:=by have:=g 3 _ _ rfl rfl;unfold RA at this;exact this.1
 have e5:x5=q.vs:=by have:=g 5 _ _ rfl rfl;unfold RA at this;exact this.1
 have jU:sR=q.vd:=by have:=g 11 _ _ rfl rfl;unfold RA at this;exact this.1
 subst e3 e5 jU;refine RC.cons (g 0 _ _ rfl rfl).tt (RC.cons (g 1 _ _ rfl rfl).tt (RC.cons (g 2 _ _ rfl rfl).tt (RC.cons (RA.ofRow (by simp [kr]) (fun k cs eV h1 h2 vs hv=>?_) hg) (RC.cons (g 4 _ _ rfl rfl).tt (RC.cons (RA.row hs) (RC.cons (g 6 _ _ rfl rfl).tt (RC.cons (g 7 _ _ rfl rfl).tt (RC.cons (g 8 _ _ rfl rfl).tt (RC.cons (g 9 _ _ rfl rfl).tt (RC.cons (g 10 _ _ rfl rfl).tt (RC.cons (RA.row hd) RC.nil)))))))))));rw [List.getElem?_map] at h2;obtain ⟨y,hy,rfl⟩:=Option.map_eq_some_iff.1 h2;have hk:k < s.gs.length:=(List.getElem?_eq_some_iff.1 hy).1;have ey:aa s k=y:=by unfold aa;rw [List.getD_eq_getElem?_getD,hy];rfl
 unfold kr at h1;rw [List.getElem?_map,List.getElem?_range hk] at h1
 cases h1;unfold RC at hv;obtain ⟨z,zs,rfl,hz,hr⟩:=hv;unfold RA at hz;obtain ⟨rfl,_⟩:=hz;have:=ho k hk;rw [ey] at this hr;exact RC.cons (RA.row this) hr.tt
theorem PD {s:ah} {vl:Nat→Value} {k n:Nat} (hk:k < n):ak.row (vl k) 58 6 ((aa s k).ops.map cC)∈nD s vl n:=by
 unfold nD;exact List.mem_map.2 ⟨k,List.mem_range.2 hk,rfl⟩
theorem PE {c:Cx} {f:Fm} {L:List ak} {s:ah} {q:vD} {x y:Operand} (hx:aP f x=some (.agg (qX s q))) (hy:aP f y=some (.agg (az s)))
  (m1:ak.row q.vg 55 25 (kr s q.vl s.gs.length)∈L) (m2:ak.row q.vs 60 7 (s.aD.map eS)∈L) (m3:ak.row q.vd 46 13 (s.done.map eM)∈L)
  (m4:∀ k,k < s.gs.length→ak.row (q.vl k) 58 6 ((aa s k).ops.map cC)∈L) (a:Act) (w:World) (h:St c f L a w):bO (fun _=>True) w [.agg (az s),.agg (az s)] ([x,y].map a.eval):=by
 have rx:=h.ev hx;have ry:=h.ev hy;unfold RD at rx ry;obtain ⟨v1,e1,r1⟩:=rx;obtain ⟨v2,e2,r2⟩:=ry;exact bO.cons (by unfold RD;exact ⟨v1,e1,PC r1 (h.res _ m1) (h.res _ m2) (h.res _ m3) fun k hk=>h.res _ (m4 k hk)⟩) (bO.cons (by unfold RD;exact ⟨v2,e2,r2.tt⟩) bO.nil)
def lS (l:List Pn.Op) (m:Int):List (List A):=match l with
 | []=>[]
 | o :: os=>(nI m :: (cC o).tail) :: os.map cC
theorem Gb (l:List Pn.Op) (m:Int):(lS l m).length=l.length:=by cases l <;> simp [lS]
def mM (s:ah) (vl:Nat→Value) (at_:Nat→Int):List (List A):=(List.range s.gs.length).map fun k=>.v (vl k) :: nI (at_ k) :: (eG (aa s k)).drop 2
def mN (s:ah) (vl:Nat→Value) (kd:Nat→Int):List ak:=(List.range s.gs.length).map fun k=>.row (vl k) 58 6 (lS (aa s k).ops (kd k))
def mO (s:ah) (g:Nat→Int):List (List A):=(List.range s.aD.length).map fun k=>bI (s.aD.getD k dX).live :: nI (g k) :: (eS (s.aD.getD k dX)).drop 2
def sS:Mk:=⟨0,0,0,0,0,0,0,0,⟨0,0,0,false,0⟩⟩
def nE (s:ah) (g:Nat→Int):List (List A):=(List.range s.done.length).map fun k=>nI (g k) :: (eM (s.done.getD k sS)).tail
theorem Gc {α β:Type} (l:List α) (d:α) (e:α→β):l.map e=(List.range l.length).map fun k=>e (l.getD k d):=by
 apply List.ext_getElem?;intro k;rw [List.getElem?_map,List.getElem?_map]
 by_cases hk:k < l.length
 ·rw [List.getElem?_range hk,List.getElem?_eq_getElem hk];simp [hk]
 ·rw [List.getElem?_eq_none (by omega),List.getElem?_eq_none (by simpa using hk)];rfl
theorem PF (s:ah) (vl:Nat→Value):kr s vl s.gs.length=mM s vl (fun k=>(aa s k).at_):=rfl
theorem PG (s:ah) (vl:Nat→Value):nD s vl s.gs.length=mN s vl (fun k=>((aa s k).ops.headD qp).kind):=by
 unfold nD mN;refine List.map_congr_left fun k _=>?_
 have:∀ l:List Pn.Op,l.map cC=lS l (l.headD qp).kind:=fun l=>by cases l <;> rfl
 rw [this]
theorem PI (s:ah):s.aD.map eS=mO s (fun k=>(s.aD.getD k dX).g):=Gc s.aD dX eS
theorem PJ (s:ah):s.done.map eM=nE s (fun k=>(s.done.getD k sS).g):=Gc s.done sS eM
section
variable {s:ah} {vl:Nat→Value} {at_ kd g:Nat→Int} {k:Nat} {m:Int}
def ku {α:Type} (f:Nat→α) (k:Nat) (x:α):Nat→α:=fun j=>if j=k then x else f j
theorem PK:(mM s vl at_).length=s.gs.length:=by simp [mM]
theorem Gd:(mO s g).length=s.aD.length:=by simp [mO]
theorem Ge:(nE s g).length=s.done.length:=by simp [nE]
theorem xM (hk:k < s.gs.length):(mM s vl at_)[((k:Int)).toNat]?=some (.v (vl k) :: nI (at_ k) :: (eG (aa s k)).drop 2):=by
 unfold mM;rw [Int.toNat_natCast,List.getElem?_map,List.getElem?_range hk];rfl
theorem AP (hk:k < s.gs.length):(mN s vl kd)[k]?=some (.row (vl k) 58 6 (lS (aa s k).ops (kd k))):=by
 unfold mN;rw [List.getElem?_map,List.getElem?_range hk];rfl
theorem Gf (hk:k < s.aD.length):(mO s g)[((k:Int)).toNat]?=some (bI (s.aD.getD k dX).live :: nI (g k) :: (eS (s.aD.getD k dX)).drop 2):=by
 unfold mO;rw [Int.toNat_natCast,List.getElem?_map,List.getElem?_range hk];rfl
theorem Gg (hk:k < s.done.length):(nE s g)[((k:Int)).toNat]?=some (nI (g k) :: (eM (s.done.getD k sS)).tail):=by
 unfold nE;rw [Int.toNat_natCast,List.getElem?_map,List.getElem?_range hk];rfl
theorem PL (hk:k < s.gs.length):(mM s vl at_).set ((k:Int)).toNat ((A.v (vl k) :: nI (at_ k) :: (eG (aa s k)).drop 2).set (0 + 1) (.v (.int .i64 m)))=mM s vl (ku at_ k m):=by
 unfold mM;rw [Int.toNat_natCast];exact uf hk (by simp [ku,nI]) fun j hj _=>by simp [ku,hj]
theorem PM (hk:k < s.aD.length):(mO s g).set ((k:Int)).toNat ((bI (s.aD.getD k dX).live :: nI (g k) :: (eS (s.aD.getD k dX)).drop 2).set (0 + 1) (.v (.int .i64 m)))=mO s (ku g k m):=by
 unfold mO;rw [Int.toNat_natCast];exact uf hk (by simp [ku,nI]) fun j hj _=>by simp [ku,hj]
theorem PN (hk:k < s.done.length):(nE s g).set ((k:Int)).toNat ((nI (g k) :: (eM (s.done.getD k sS)).tail).set (0 + 0) (.v (.int .i64 m)))=nE s (ku g k m):=by
 unfold nE;rw [Int.toNat_natCast];exact uf hk (by simp [ku,nI]) fun j hj _=>by simp [ku,hj]
theorem Gh (o:Pn.Op) (os:List Pn.Op) (m:Int):(lS (o :: os) m)[((0:Int)).toNat]?=some (nI m :: (cC o).tail):=rfl
theorem PO (o:Pn.Op) (os:List Pn.Op) (m n:Int):(lS (o :: os) m).set ((0:Int)).toNat ((nI m :: (cC o).tail).set (0 + 0) (.v (.int .i64 n)))=lS (o :: os) n:=rfl
theorem Gi (hk:k < s.gs.length):(mN s vl kd).set k (.row (vl k) 58 6 (lS (aa s k).ops m))=mN s vl (ku kd k m):=by
 unfold mN;exact uf hk (by simp [ku]) fun j hj _=>by simp [ku,hj]
end
end Fl
open Go.RowKit
namespace Fl
open Sx Go.Proofs.Tryz
set_option maxRecDepth 100000
set_option maxHeartbeats 4000000
theorem PR (p:List (List Pn.Op)) (sn cn:Int) (d l:List Int) (hd:∀ x∈d,0≤x∧x < 65536) :
  Pure prog 5 [.agg (qR p sn cn d),.c (ints l)] (.c (bI true)):=by
 have CR:=Pj p sn cn d l hd;have HG:=Ph (p:=p) (sn:=sn) (cn:=cn) (l:=l) hd;generalize jG p sn cn d l=r at CR HG;obtain ⟨s,o⟩:=r;refine aq.intro func5 rfl rfl rfl (fun ok e=>?_)
 cases o with
 | false =>
  repeat (first | (refine K.store ?_;refine JO.ld (Ld.aT rfl rfl rfl (by exact rfl) (by exact rfl)) rfl (fun _=>?_)) | refine lp (EL) ?_ | refine aI (CR) ?_ | refine av ?_ | intro _)
  exact aA func5
 | true =>
 have G:Sx.Good s:=HG rfl;have g8:=G.n8;clear HG;have CO:=O5 s (Pg G);have B2:=F8 G;have ES:=Mi s (Bd.fe B2 (by omega));have FW:=Bd.fw B2 (by omega)
 repeat (first | (refine K.store ?_;refine JO.ld (Ld.aT rfl rfl rfl (by exact rfl) (by exact rfl)) rfl (fun _=>?_)) | (refine K.binOp ?_;refine jq rfl rfl rfl (Qt.EI EK rfl rfl) ?_) | (refine K.call ?_;first | refine lp (EL) ?_ | refine aI (CR) ?_ | (refine JO.ld (Ld.mg CO (qb rfl) rfl (.cons .refl .nil)) rfl ?_;intro x)) | refine av ?_ | intro _)
 obtain ⟨⟨b7,u⟩,hu⟩:=x;simp only at hu ⊢;rename_i b2 b5 _;have CT:=Py b7 u s FW
 repeat (first | (refine K.store ?_;refine JO.ld (Ld.aT rfl rfl rfl (by exact rfl) (by exact rfl)) rfl (fun _=>?_)) | (refine K.call ?_;first | (refine JO.ld (Ld.mg CT (qb rfl) rfl (.cons .refl .nil)) rfl ?_;intro q) | (refine JO.ld (Ld.Pz (args:=[_,_]) ES (qb rfl) (PE rfl rfl (.tail _ (.tail _ (.tail _ (.head _)))) (.tail _ (.tail _ (.tail _ (.tail _ (.head _))))) (.tail _ (.tail _ (.tail _ (.tail _ (.tail _ (.head _)))))) fun k hk=>List.mem_append_right (_ :: _ :: _ :: _ :: _ :: _ :: wd b7 u s) (PD hk))) rfl (fun _=>?_))) | (refine K.bi ?_;refine jq rfl rfl rfl (Qt.ot 3 (n:=s.gs.length) rfl rfl (by simp [kr])) ?_) | refine av ?_ | intro _)
 rename_i b8 _ _;unfold F9;rw [PF,PG];generalize (fun k=>(aa s k).at_)=cL;generalize (fun k=>((aa s k).ops.headD qp).kind)=PS;refine J.loop (ι:={ q:Nat × (Nat→Int) × (Nat→Int) // q.1≤s.gs.length }) (fun z=>[(35,.c (nI z.1.1)),(34,.c (nI s.gs.length)),(8,.c (.v (pt b8))),(7,.c (.v (pt b7))),(5,.c (.v (pt b5)))]) (fun z=>.box b8 36 (qX s q) :: .box b5 36 (az s) :: .box b2 27 (qR p sn cn d) :: .row q.vg 55 25 (mM s q.vl z.1.2.1) :: .row q.vs 60 7 (s.aD.map eS) :: .row q.vd 46 13 (s.done.map eM) :: jH b7 u s (mN s q.vl z.1.2.2)) (fun z=>s.gs.length - z.1.1) ⟨(0,cL,PS),Nat.zero_le _⟩ (fun X h=>h.aQ ⟨rfl,rfl,rfl,rfl,rfl,trivial⟩) (fun z ih=>?_);obtain ⟨⟨k,at_,kd⟩,hk⟩:=z;simp only at hk ih ⊢
 by_cases aN:k < s.gs.length
 ·have t1:(decide ((k:Int) < (s.gs.length:Int)))=true:=by simpa using aN
  have OW:∀ y:Nat→Int,(k:Int) < (mM s q.vl y).length:=fun y=>by rw [PK];omega
  refine J.PA k (AP aN) ?_
  repeat (first | (refine K.load ?_;((refine jq rfl rfl rfl (Qt.dx rfl ((xM aN)) (by exact rfl)) ?_))) | (refine K.store ?_;refine JO.ld (Ld.j6 rfl rfl (by exact rfl) ((xM aN))) rfl (fun _=>?_)) | (refine K.indexAddr ?_;refine jq rfl rfl rfl (Qt.cB rfl rfl (Int.natCast_nonneg k) (OW _)) ?_) | (refine K.binOp ?_;first | refine aJ t1 ?_ | refine jq rfl rfl rfl ((Qt.dy rfl rfl rfl rfl)) ?_) | refine gn ?_)
  rw [PL aN]
  cases mU:(aa s k).ops with
  | nil =>
   have t2:decide ((([]:List Pn.Op).length:Int) > 0)=false:=rfl;rw [show lS [] (kd k)=lS [] 0 from rfl]
   repeat (first | (refine K.load ?_;refine jq rfl rfl rfl (Qt.dx rfl ((xM aN)) (by exact rfl)) ?_) | (refine K.indexAddr ?_;refine jq rfl rfl rfl (Qt.cB rfl rfl (Int.natCast_nonneg k) (OW _)) ?_) | (refine K.binOp ?_;first | refine aJ t2 ?_ | refine jq rfl rfl rfl (Qt.dy rfl rfl rfl (fq (by omega) (by omega))) ?_) | (refine K.bi ?_;refine jq rfl rfl rfl (Qt.ot 0 (n:=([]:List Pn.Op).length) rfl rfl rfl) ?_) | refine gn ?_)
   refine J.Ga (X':=mN s q.vl (ku kd k 0)) k (AP aN) (by have:=Gi (vl:=q.vl) (kd:=kd) (m:=0) aN;rw [mU] at this;exact this) ?_;exact (ih ⟨(k + 1,_,_),by simp only;omega⟩ (by simp only;omega)).aQ ⟨rfl,rfl,rfl,rfl,rfl,trivial⟩
  | cons o os =>
   have t2:decide ((((o :: os).length:Nat):Int) > 0)=true:=decide_eq_true (by rw [List.length_cons];omega);have O2:(0:Int) < (((lS (o :: os) (kd k)).length:Nat):Int):=by rw [Gb,List.length_cons];omega
   repeat (first | (refine K.load ?_;first | ((refine jq rfl rfl rfl (Qt.dx rfl ((xM aN)) (by exact rfl)) ?_)) | ((refine jq rfl rfl rfl (Qt.dx rfl ((Gh _ _ _)) (by exact rfl)) ?_))) | (refine K.store ?_;refine JO.ld (Ld.j6 rfl rfl (by exact rfl) ((Gh _ _ _))) rfl (fun _=>?_)) | (refine K.indexAddr ?_;first | refine jq rfl rfl rfl (Qt.cB rfl rfl (Int.natCast_nonneg k) (OW _)) ?_ | refine jq rfl rfl rfl (Qt.cB rfl rfl (Int.le_refl 0) O2) ?_) | (refine K.binOp ?_;first | refine aJ t2 ?_ | refine jq rfl rfl rfl (Qt.dy rfl rfl rfl (fq (by omega) (by omega))) ?_ | refine jq rfl rfl rfl ((Qt.dy rfl rfl rfl rfl)) ?_) | (refine K.bi ?_;refine jq rfl rfl rfl (Qt.ot 0 (n:=(o :: os).length) rfl rfl (Gb _ _)) ?_) | refine gn ?_)
   rw [PO];refine J.Ga (X':=mN s q.vl (ku kd k (IntKind.i64.wrap (kd k + 1)))) k (AP aN) (by have:=Gi (vl:=q.vl) (kd:=kd) (m:=IntKind.i64.wrap (kd k + 1)) aN;rw [mU] at this;exact this) ?_;exact (ih ⟨(k + 1,_,_),by simp only;omega⟩ (by simp only;omega)).aQ ⟨rfl,rfl,rfl,rfl,rfl,trivial⟩
 obtain rfl:k=s.gs.length:=by omega
 have t1:(decide ((s.gs.length:Int) < (s.gs.length:Int)))=false:=decide_eq_false (by omega);clear ih;rw [PI];generalize (fun k=>(s.aD.getD k dX).g)=g0;generalize mM s q.vl at_=GL;generalize mN s q.vl kd=XL
 repeat (first | refine aJ t1 ?_ | (refine K.bi ?_;refine jq rfl rfl rfl (Qt.ot 4 (n:=s.aD.length) rfl rfl Gd) ?_) | refine gn ?_)
 refine J.loop (ι:={ q:Nat × (Nat→Int) // q.1≤s.aD.length }) (fun z=>[(71,.c (nI z.1.1)),(70,.c (nI s.aD.length)),(8,.c (.v (pt b8))),(7,.c (.v (pt b7))),(5,.c (.v (pt b5)))]) (fun z=>.box b8 36 (qX s q) :: .box b5 36 (az s) :: .box b2 27 (qR p sn cn d) :: .row q.vg 55 25 GL :: .row q.vs 60 7 (mO s z.1.2) :: .row q.vd 46 13 (s.done.map eM) :: jH b7 u s XL) (fun z=>s.aD.length - z.1.1) ⟨(0,g0),Nat.zero_le _⟩ (fun X h=>h.aQ ⟨rfl,rfl,rfl,rfl,rfl,trivial⟩) (fun z ih=>?_);obtain ⟨⟨k,gg⟩,hk⟩:=z;simp only at hk ih ⊢;have pn:=G.jT
 by_cases aN:k < s.aD.length
 ·have t1:(decide ((k:Int) < (s.aD.length:Int)))=true:=by simpa using aN
  have OW:∀ y:Nat→Int,(k:Int) < (mO s y).length:=fun y=>by rw [Gd];omega
  repeat (first | (refine K.load ?_;((refine jq rfl rfl rfl (Qt.dx rfl ((Gf aN)) (by exact rfl)) ?_))) | (refine K.store ?_;refine JO.ld (Ld.j6 rfl rfl (by exact rfl) ((Gf aN))) rfl (fun _=>?_)) | (refine K.indexAddr ?_;refine jq rfl rfl rfl (Qt.cB rfl rfl (Int.natCast_nonneg k) (OW _)) ?_) | (refine K.binOp ?_;first | refine aJ t1 ?_ | refine jq rfl rfl rfl (Qt.dy rfl rfl rfl (fq (by omega) (by omega))) ?_ | refine jq rfl rfl rfl ((Qt.dy rfl rfl rfl rfl)) ?_) | refine gn ?_)
  rw [PM aN];exact (ih ⟨(k + 1,_),by simp only;omega⟩ (by simp only;omega)).aQ ⟨rfl,rfl,rfl,rfl,rfl,trivial⟩
 obtain rfl:k=s.aD.length:=by omega
 have t1:(decide ((s.aD.length:Int) < (s.aD.length:Int)))=false:=decide_eq_false (by omega);clear ih;rw [PJ];generalize (fun k=>(s.done.getD k sS).g)=g1;generalize mO s gg=SL;have dn:s.done.length≤128:=by have:=G.dn;have:=AK G.toMInv;omega
 repeat (first | refine aJ t1 ?_ | (refine K.bi ?_;refine jq rfl rfl rfl (Qt.ot 5 (n:=s.done.length) rfl rfl Ge) ?_) | refine gn ?_)
 refine J.loop (ι:={ q:Nat × (Nat→Int) // q.1≤s.done.length }) (fun z=>[(87,.c (nI z.1.1)),(86,.c (nI s.done.length)),(8,.c (.v (pt b8))),(7,.c (.v (pt b7))),(5,.c (.v (pt b5)))]) (fun z=>.box b8 36 (qX s q) :: .box b5 36 (az s) :: .box b2 27 (qR p sn cn d) :: .row q.vg 55 25 GL :: .row q.vs 60 7 SL :: .row q.vd 46 13 (nE s z.1.2) :: jH b7 u s XL) (fun z=>s.done.length - z.1.1) ⟨(0,g1),Nat.zero_le _⟩ (fun X h=>h.aQ ⟨rfl,rfl,rfl,rfl,rfl,trivial⟩) (fun z ih=>?_);obtain ⟨⟨k,gg⟩,hk⟩:=z;simp only at hk ih ⊢
 by_cases aN:k < s.done.length
 ·have t1:(decide ((k:Int) < (s.done.length:Int)))=true:=by simpa using aN
  have OW:∀ y:Nat→Int,(k:Int) < (nE s y).length:=fun y=>by rw [Ge];omega
  repeat (first | (refine K.load ?_;((refine jq rfl rfl rfl (Qt.dx rfl ((Gg aN)) (by exact rfl)) ?_))) | (refine K.store ?_;refine JO.ld (Ld.j6 rfl rfl (by exact rfl) ((Gg aN))) rfl (fun _=>?_)) | (refine K.indexAddr ?_;refine jq rfl rfl rfl (Qt.cB rfl rfl (Int.natCast_nonneg k) (OW _)) ?_) | (refine K.binOp ?_;first | refine aJ t1 ?_ | refine jq rfl rfl rfl (Qt.dy rfl rfl rfl (fq (by omega) (by omega))) ?_ | refine jq rfl rfl rfl ((Qt.dy rfl rfl rfl rfl)) ?_) | refine gn ?_)
  rw [PN aN];exact (ih ⟨(k + 1,_),by simp only;omega⟩ (by simp only;omega)).aQ ⟨rfl,rfl,rfl,rfl,rfl,trivial⟩
 obtain rfl:k=s.done.length:=by omega
 have t1:(decide ((s.done.length:Int) < (s.done.length:Int)))=false:=decide_eq_false (by omega);clear ih;have AQ:=Da b7 u s FW;refine J.PB ?_
 repeat (first | refine aJ t1 ?_ | refine gn ?_)
 refine J.draw (by kernel_rfl) rfl ?_;refine JW.cy (i:=0) (j:=2) (by kernel_rfl) ?_ ?_;refine JT.q rfl rfl rfl (qb rfl) (Qt.move rfl) ?_;refine JW.cy (i:=1) (j:=2) (by kernel_rfl) ?_ ?_;refine JT.ld rfl rfl (Ld.mg AQ (qb rfl) rfl (.cons .refl .nil)) (fun _=>?_);refine JW.fR (i:=2) (by kernel_rfl) ?_
 (refine JT.q rfl rfl rfl (qb rfl) (Qt.qc rfl (by exact rfl)) ?_)
 refine JW.fR (i:=3) (by kernel_rfl) ?_;refine JT.ld rfl rfl (Ld.pure (ES) (qb rfl) rfl (by repeat (first | exact br.nil | refine br.cons (c9.agg (by repeat (first | exact .nil | refine .cons .refl ?_))) ?_))) (fun _=>?_);refine JW.fR (i:=4) (by kernel_rfl) ?_;refine JT.q rfl rfl rfl (qb rfl) (Qt.assign rfl) ?_;refine bz ?_
 rotate_left
 (refine JT.q rfl rfl rfl (qb rfl) (Qt.qc rfl (by exact rfl)) ?_)
 refine JW.fR (i:=1) (by kernel_rfl) ?_;refine JT.ld rfl rfl (Ld.mg AQ (qb rfl) rfl (.cons .refl .nil)) (fun _=>?_);refine JW.fR (i:=3) (by kernel_rfl) ?_;refine JT.ld rfl rfl (Ld.pure (ES) (qb rfl) rfl (by repeat (first | exact br.nil | refine br.cons (c9.agg (by repeat (first | exact .nil | refine .cons .refl ?_))) ?_))) (fun _=>?_);refine JW.fR (i:=4) (by kernel_rfl) ?_;refine JT.q rfl rfl rfl (qb rfl) (Qt.assign rfl) ?_;refine bz ?_
 rotate_left
 (refine JT.q rfl rfl rfl (qb rfl) (Qt.qc rfl (by exact rfl)) ?_)
 refine JW.fR (i:=0) (by kernel_rfl) ?_;refine JT.q rfl rfl rfl (qb rfl) (Qt.move rfl) ?_;refine JW.fR (i:=1) (by kernel_rfl) ?_;refine JT.ld rfl rfl (Ld.mg AQ (qb rfl) rfl (.cons .refl .nil)) (fun _=>?_);refine JW.fR (i:=3) (by kernel_rfl) ?_;refine JT.ld rfl rfl (Ld.pure (ES) (qb rfl) rfl (by repeat (first | exact br.nil | refine br.cons (c9.agg (by repeat (first | exact .nil | refine .cons .refl ?_))) ?_))) (fun _=>?_);refine JW.fR (i:=4) (by kernel_rfl) ?_;refine JT.q rfl rfl rfl (qb rfl) (Qt.assign rfl) ?_;refine bz ?_
 rotate_left
 all_goals
  repeat (fail)
  exact aA func5
theorem PT (w:World) (cs:Array Value) (a:vb) (U:List Nat) (sz:cs.size=4) (he:sI w cs.toList a U) (oc:∀ y∈cs.toList,y.oneCell'=true) (v:Value) (l:List Int) (S:List Nat) (hl:GV (kB .i64) 1 w v l S) :
  Calls prog 5 #[.agg cs,v] w fun e w'=>e=.returned (.bool true)∧aE [] w w' :=
 Pp (PR a.p a.sn a.cn a.d l (Pk he)) he hl
end Fl
end Go.Proofs.YtgjpdogjekmemaaGreat
