/-
  What the laws need, part Q28.
  Conditions: none.
-/
import Derived.Test.YtdibmkjoaghafaaQ27
set_option linter.unusedVariables false
set_option linter.unusedSimpArgs false
set_option linter.unnecessarySimpa false
set_option maxHeartbeats 2000000
namespace Go.Proofs.Ytdibmkjoaghafaa
open Go.RowKit
namespace Fl
set_option maxRecDepth 100000
set_option maxHeartbeats 4000000
theorem t_refOpW (v0:Value) (p:List (List Pn.Op)) (m:Sx.Mk) (made:List (Int × Int)) (hmi:Jg.inP p m=true) (hc:(Jg.opAt p m).cases.length≤1000) (hl:made.length≤1000) :
  Con Try.prog 21 [.c (opsA p),.agg (eM m),.c (.v v0)] [.row v0 70 2 (made.map eMd)] (fun _:Unit=>(.agg (eOp (Jg.cutD (Jg.opAt p m) (Jg.look made m.call))),[.row v0 70 2 (made.map eMd)])):=by
 obtain ⟨ops,o,h1,h2,z0,z1,h3⟩:=Jg.inP_get hmi;rw [h3] at hc ⊢;have AP:(p.map fun ops=>[A.r 6 (ops.map eOp)])[m.g.toNat]?=some [A.r 6 (ops.map eOp)]:=by rw [List.getElem?_map,h1];rfl
 have AQ:(ops.map eOp)[m.op.toNat]?=some (eOp o):=by rw [List.getElem?_map,h2];rfl
 refine Con.intro Try.func21 rfl rfl rfl (fun ok e=>?_)
 repeat (first | refine gmQ ?_ | intro _)
 refine J.draw (by kernel_rfl) rfl ?_;refine JW.base (some 10) ?_;refine tk 0 ?_;refine tk 1 ?_;refine tk 2 ?_;refine JD.take 3 rfl rfl (by kernel_rfl) rfl (qb rfl) (Qt.indexR rfl rfl z0 AP) rfl ?_;refine tk 4 ?_;refine tk 5 ?_;refine tk 6 ?_;refine JD.take 7 rfl rfl (by kernel_rfl) rfl (qb rfl) (Qt.indexR rfl rfl z1 AQ) rfl ?_;refine tk 8 ?_;refine jl 9 rfl rfl rfl rfl (Ld.alloc (qb rfl)) .none (fun _=>?_);refine jt 10 rfl rfl (Ld.storeW rfl rfl rfl (by exact rfl) (by exact rfl)) (fun _=>?_);refine wnQ ?_
 repeat (refine gn ?_)
 rename_i b4 b6 b7 _;have em:(made.map eMd).length=made.length:=List.length_map ..
 try rw [em]
 refine J.loop (ι:={ k:Nat // k≤made.length }) (fun q=>[(25,.c (nI q.1)),(24,.c (nI made.length)),(23,.c (.v v0)),(8,.c (nI (Jg.look (made.take q.1) m.call))),(7,.c (.v (.pointer (some ⟨b7,0,none⟩)))),(6,.c (.v (.pointer (some ⟨b6,0,none⟩)))),(4,.c (.v (.pointer (some ⟨b4,0,none⟩))))])
  (fun q=>[.box b7 28 (eOp o),.box b6 28 zO,.box b4 52 (eM m),.row v0 70 2 (made.map eMd)]) (fun q=>made.length - q.1) ⟨0,Nat.zero_le _⟩ (fun X h=>h.weak ⟨rfl,rfl,rfl,rfl,rfl,rfl,rfl,trivial⟩) (fun q ih=>?_)
 obtain ⟨k,hk'⟩:=q;simp only at hk' ih ⊢
 by_cases hk:k < made.length
 ·have t1:decide ((k:Int) < (made.length:Int))=true:=decide_eq_true (by omega);obtain ⟨x,hx⟩:∃ x,made[k]?=some x:=⟨_,List.getElem?_eq_getElem hk⟩
  have AX:=s_at (enc:=eMd) hx;have i0:(0:Int)≤(k:Int):=by omega
  have i1:(k:Int) < ((made.map eMd).length:Int):=by rw [List.length_map];omega
  have ih1:=ih ⟨k + 1,by omega⟩ (by simp only;omega);clear ih;simp only at ih1;rw [look_snocK _ hx] at ih1
  cases t2:decide (x.1 < m.call)
  ·rw [if_neg (of_decide_eq_false t2)] at ih1
   repeat (first | (refine K.load ?_;refine jq rfl rfl rfl (Qt.loadWo rfl AX rfl) ?_) | (refine K.store ?_;refine JO.ld (Ld.storeW rfl rfl rfl (by exact rfl) (by exact rfl)) rfl (fun _=>?_)) | (refine K.indexAddr ?_;refine jq rfl rfl rfl (Qt.indexO rfl rfl i0 i1) ?_) | refine gmQ ?_ | intro _)
   refine J.dropN 0 ?_;exact ih1.weak ⟨rfl,rfl,rfl,rfl,rfl,rfl,rfl,trivial⟩
  ·rw [if_pos (of_decide_eq_true t2)] at ih1
   repeat (first | (refine K.load ?_;refine jq rfl rfl rfl (Qt.loadWo rfl AX rfl) ?_) | (refine K.store ?_;refine JO.ld (Ld.storeW rfl rfl rfl (by exact rfl) (by exact rfl)) rfl (fun _=>?_)) | (refine K.indexAddr ?_;refine jq rfl rfl rfl (Qt.indexO rfl rfl i0 i1) ?_) | refine gmQ ?_ | intro _)
   refine J.dropN 0 ?_;exact ih1.weak ⟨rfl,rfl,rfl,rfl,rfl,rfl,rfl,trivial⟩
 ·obtain rfl:k=made.length:=by omega
  have t1:decide ((made.length:Int) < (made.length:Int))=false:=decide_eq_false (by omega);clear ih;rw [List.take_length];generalize Jg.look made m.call=N;have cd:Jg.cutD o N={ o with ch:=if (decide (o.kind ≥ 2) && decide (o.kind≤5))=true then Jg.cut o.ch N else o.ch,cases:=o.cases.map (Jg.cutC N) }:=by unfold Jg.cutD;simp
  rw [cd];have C0:=t_cut o.ch N;generalize hch:Jg.cut o.ch N=z at C0;obtain ⟨y,hy⟩:∃ y,(if (decide (o.kind ≥ 2) && decide (o.kind≤5))=true then z else o.ch)=y:=⟨_,rfl⟩
  rw [hy]
  cases t2:decide (o.kind ≥ 2) <;> cases t3:decide (o.kind≤5)
  case true.true =>
   obtain rfl:z=y:=by rw [t2,t3] at hy;simpa using hy
   repeat (first | (refine K.store ?_;refine JO.ld (Ld.store1 rfl rfl (by exact rfl)) rfl (fun _=>?_)) | refine gmQ ?_ | intro _)
   rename_i b11;refine J.loop (ι:={ q:Nat × Value // q.1≤o.cases.length }) (fun q=>[(54,.c (nI q.1.1)),(53,.c (nI o.cases.length)),(52,.c (.r 3 (o.cases.map eCs))),(11,.c (.v q.1.2)),(8,.c (nI N)),(7,.c (.v (.pointer (some ⟨b7,0,none⟩)))),(6,.c (.v (.pointer (some ⟨b6,0,none⟩))))])
    (fun q=>[.row q.1.2 87 3 (((o.cases.take q.1.1).map (Jg.cutC N)).map eCs),.box b7 28 (eOp { o with ch:=z }),.box b6 28 zO,.row v0 70 2 (made.map eMd)]) (fun q=>o.cases.length - q.1.1) ⟨(0,.slice (some ⟨b11,0,none⟩) 0 0),Nat.zero_le _⟩ (fun X h=>J.dropN 3 (h.weak ⟨rfl,rfl,rfl,rfl,rfl,rfl,rfl,trivial⟩)) (fun q ih=>?_)
   obtain ⟨⟨k,v⟩,hk'⟩:=q;simp only at hk' ih ⊢
   by_cases hk:k < o.cases.length
   ·have t4:decide ((k:Int) < (o.cases.length:Int))=true:=decide_eq_true (by omega);obtain ⟨c,hcs⟩:∃ c,o.cases[k]?=some c:=⟨_,List.getElem?_eq_getElem hk⟩
    have CA:=s_at (enc:=eCs) hcs;have C1:=t_cut c.ch N;have ln:(((o.cases.take k).map (Jg.cutC N)).map eCs).length=k:=by simp;omega
    have ev:((o.cases.take (k + 1)).map (Jg.cutC N)).map eCs=((o.cases.take k).map (Jg.cutC N)).map eCs ++ [eCs (Jg.cutC N c)]:=by rw [List.take_add_one,hcs];simp
    have ih1:=fun v':Value=>ih ⟨(k + 1,v'),by simp only;omega⟩ (by simp only;omega)
    clear ih;simp only [ev] at ih1;generalize ((o.cases.take k).map (Jg.cutC N)).map eCs=R at ln ih1 ⊢
    repeat (first | (refine K.store ?_;first | refine JO.ld (Ld.storeW rfl rfl rfl (by exact rfl) (by exact rfl)) rfl (fun _=>?_) | refine JO.ld (Ld.store1 rfl rfl (by exact rfl)) rfl (fun _=>?_)) | (refine K.lit ?_;refine JO.ld (Ld.lit1R (qb rfl) rfl rfl rfl rfl rfl) rfl (fun _=>?_)) | (refine K.bi ?_;refine JO.ld (Ld.appOw (qb rfl) rfl rfl .read (by (simp;omega))) rfl (fun _=>?_)) | refine gmQ ?_ | intro _)
    refine J.dropN 1 ?_;exact (ih1 _).weak ⟨rfl,rfl,rfl,rfl,rfl,rfl,rfl,trivial⟩
   ·obtain rfl:k=o.cases.length:=by omega
    have t4:decide ((o.cases.length:Int) < (o.cases.length:Int))=false:=decide_eq_false (by omega);rw [List.take_length];clear ih
    repeat (first | (refine K.store ?_;first | refine JO.ld (Ld.storeW rfl rfl rfl (by exact rfl) (by exact rfl)) rfl (fun _=>?_) | refine JO.ld (Ld.store1 rfl rfl (by exact rfl)) rfl (fun _=>?_)) | refine gn ?_)
    refine J.frzC 11 6 4 rfl rfl rfl ?_
    (exact J.retE [_,_] rfl Try.func21 rfl (.cons (.cell 1 rfl rfl rfl) .nil) () la rfl)
  all_goals
   obtain rfl:o.ch=y:=by rw [t2,t3] at hy;simpa using hy
   repeat (first | refine gmQ ?_ | intro _)
   rename_i b11;refine J.loop (ι:={ q:Nat × Value // q.1≤o.cases.length }) (fun q=>[(54,.c (nI q.1.1)),(53,.c (nI o.cases.length)),(52,.c (.r 3 (o.cases.map eCs))),(11,.c (.v q.1.2)),(8,.c (nI N)),(7,.c (.v (.pointer (some ⟨b7,0,none⟩)))),(6,.c (.v (.pointer (some ⟨b6,0,none⟩))))])
    (fun q=>[.row q.1.2 87 3 (((o.cases.take q.1.1).map (Jg.cutC N)).map eCs),.box b7 28 (eOp o),.box b6 28 zO,.row v0 70 2 (made.map eMd)]) (fun q=>o.cases.length - q.1.1) ⟨(0,.slice (some ⟨b11,0,none⟩) 0 0),Nat.zero_le _⟩ (fun X h=>J.dropN 3 (h.weak ⟨rfl,rfl,rfl,rfl,rfl,rfl,rfl,trivial⟩)) (fun q ih=>?_)
   obtain ⟨⟨k,v⟩,hk'⟩:=q;simp only at hk' ih ⊢
   by_cases hk:k < o.cases.length
   ·have t4:decide ((k:Int) < (o.cases.length:Int))=true:=decide_eq_true (by omega);obtain ⟨c,hcs⟩:∃ c,o.cases[k]?=some c:=⟨_,List.getElem?_eq_getElem hk⟩
    have CA:=s_at (enc:=eCs) hcs;have C1:=t_cut c.ch N;have ln:(((o.cases.take k).map (Jg.cutC N)).map eCs).length=k:=by simp;omega
    have ev:((o.cases.take (k + 1)).map (Jg.cutC N)).map eCs=((o.cases.take k).map (Jg.cutC N)).map eCs ++ [eCs (Jg.cutC N c)]:=by rw [List.take_add_one,hcs];simp
    have ih1:=fun v':Value=>ih ⟨(k + 1,v'),by simp only;omega⟩ (by simp only;omega)
    clear ih;simp only [ev] at ih1;generalize ((o.cases.take k).map (Jg.cutC N)).map eCs=R at ln ih1 ⊢
    repeat (first | (refine K.store ?_;first | refine JO.ld (Ld.storeW rfl rfl rfl (by exact rfl) (by exact rfl)) rfl (fun _=>?_) | refine JO.ld (Ld.store1 rfl rfl (by exact rfl)) rfl (fun _=>?_)) | (refine K.lit ?_;refine JO.ld (Ld.lit1R (qb rfl) rfl rfl rfl rfl rfl) rfl (fun _=>?_)) | (refine K.bi ?_;refine JO.ld (Ld.appOw (qb rfl) rfl rfl .read (by (simp;omega))) rfl (fun _=>?_)) | refine gmQ ?_ | intro _)
    refine J.dropN 1 ?_;exact (ih1 _).weak ⟨rfl,rfl,rfl,rfl,rfl,rfl,rfl,trivial⟩
   ·obtain rfl:k=o.cases.length:=by omega
    have t4:decide ((o.cases.length:Int) < (o.cases.length:Int))=false:=decide_eq_false (by omega);rw [List.take_length];clear ih
    repeat (first | (refine K.store ?_;first | refine JO.ld (Ld.storeW rfl rfl rfl (by exact rfl) (by exact rfl)) rfl (fun _=>?_) | refine JO.ld (Ld.store1 rfl rfl (by exact rfl)) rfl (fun _=>?_)) | refine gn ?_)
    refine J.frzC 11 6 4 rfl rfl rfl ?_
    (exact J.retE [_,_] rfl Try.func21 rfl (.cons (.cell 1 rfl rfl rfl) .nil) () la rfl)
end Fl
namespace Jg
theorem count_same {p:List (List Pn.Op)} {l:List Sx.Mk} {D:List Ta.Pt} {st:Md.St} {md:List (Int × Int)} {x:Ta.Pt} {r:List Ta.Pt} (h:Inv p l D st md (x :: r)):(Ta.points l).countP (fun y=>y.step == x.step)=(hd x r).length:=by
 rw [h.all,List.countP_append];have h1:D.countP (fun y=>y.step == x.step)=0:=List.countP_eq_zero.2 fun y hy=>by
  have:=h.low y hy x (List.mem_cons_self ..);simp;omega
 have h2:(x :: r).countP (fun y=>y.step == x.step)=(hd x r).length:=by
  conv=>lhs;rw [← hd_tl x r]
  rw [List.countP_append];have a1:(hd x r).countP (fun y=>y.step == x.step)=(hd x r).length:=List.countP_eq_length.2 fun y hy=>by
   simpa using hd_same y hy
  have a2:(tl x r).countP (fun y=>y.step == x.step)=0:=List.countP_eq_zero.2 fun y hy=>by
   have:=tl_more h.sorted y hy;simp;omega
  rw [a1,a2];omega
 rw [h1,h2];omega
theorem countP_snoc {α:Type} {l:List α} {k:Nat} {m:α} {q:α→Bool} (h:l[k]?=some m):(l.take (k + 1)).countP q=(l.take k).countP q + if q m=true then 1 else 0:=by
 rw [List.take_add_one,h];simp [List.countP_append,List.countP_cons]
structure Dl where
 D:List Ta.Pt
 R:List Ta.Pt
 st:Md.St
 q:Mr.St
 md:List (Int × Int)
 k:Nat
 v:Value
structure DlOk (p:List (List Pn.Op)) (l:List Sx.Mk) (z:Dl):Prop where
 inv:Inv p l z.D z.st z.md z.R
 part:Part l (opP p l) z.st z.R
 rel:Mr.Rel z.st z.q
 wl:z.q.waits.length + z.R.length≤1000
 ml:z.md.length + z.R.length≤1000
 sz:Sz z.st z.k
 kl:z.k + 2 * z.R.length≤1700
theorem DlOk.start (p:List (List Pn.Op)) (l:List Sx.Mk) (v:Value) (h:l.length≤400):DlOk p l ⟨[],Ta.points l,st0,⟨[],[]⟩,[],0,v⟩:=by
 have:=points_len l;exact ⟨Inv.start p l,Part.start l _,⟨rfl,fun h o=>by simp [st0]⟩,by simp only [List.length_nil];omega,by simp only [List.length_nil];omega,by unfold Sz Bf st0;simp,by simp only;omega⟩
theorem DlOk.next {p:List (List Pn.Op)} {l:List Sx.Mk} {D:List Ta.Pt} {x:Ta.Pt} {r:List Ta.Pt} {st:Md.St} {q q':Mr.St} {md:List (Int × Int)} {k:Nat} {v v':Value} (h:DlOk p l ⟨D,x :: r,st,q,md,k,v⟩) (hg:grpB l (opP p l) st (hd x r)=true) (hr:Mr.Rel (grpS l (opP p l) st (hd x r)) q') (hw:q'.waits.length≤q.waits.length + 1) :
  DlOk p l ⟨D ++ hd x r,tl x r,grpS l (opP p l) st (hd x r),q',md ++ [(x.step,((grpS l (opP p l) st (hd x r)).chans.length:Int))],k + 2,v'⟩:=by
 have hl:(hd x r).length + (tl x r).length=(x :: r).length:=by rw [← List.length_append,hd_tl]
 have hp:=hd_pos x r;have w:=h.wl;have m:=h.ml;have kk:=h.kl;simp only at w m kk;exact ⟨h.inv.next hg,h.part.next hg,hr,by simp only;omega,by simp only [List.length_append,List.length_cons,List.length_nil] at m hl ⊢;omega,h.sz.grp _ _ _,by simp only;omega⟩
end Jg
namespace Fl
set_option maxRecDepth 100000
set_option maxHeartbeats 4000000
section
variable {P:Program} {c:Cx} {f:Fm} {L:List Res}
theorem Qt.leR {U:List Nat} {o:Oper} {d:D} (d':D) (q:Qt P c U o f L d) (h:LeD d d'):Qt P c U o f L d':=⟨fun a w s=>by
 obtain ⟨v,h1,h2⟩:=q.go a w s;exact ⟨v,h.rep h1,h2⟩⟩
end
theorem pt_ok {p:List (List Pn.Op)} {l:List Sx.Mk} (hp:p.length≤400) (hin:∀ x∈l,Jg.inP p x=true) (hcs:∀ m∈l,Jg.inP p m=true→(Jg.opAt p m).cases.length≤1000) {y:Ta.Pt} (hy:y∈Ta.points l):(0:Int)≤y.at_∧(l.map eM)[y.at_.toNat]?=some (eM (Jg.mkAt l y))∧Jg.inP p (Jg.mkAt l y)=true∧(Jg.opAt p (Jg.mkAt l y)).cases.length≤1000:=by
 have hk:=Jg.points_mem hy;obtain ⟨m1,m2⟩:=hk.mk;obtain ⟨k,m,k1,k2,_⟩:=hk;exact ⟨by omega,by rw [List.getElem?_map,m2];rfl,hin _ m1,hcs _ m1 (hin _ m1)⟩
abbrev zMd:List A:=[.v (.slice none 0 0),.v (.slice none 0 0)]
theorem t_refReplay (p:List (List Pn.Op)) (l:List Sx.Mk) (hs:l.length≤400) (hp:p.length≤400) (hq:∀ ops∈p,ops.length≤1000) (hcs:∀ m∈l,Jg.inP p m=true→(Jg.opAt p m).cases.length≤1000) :
  Con Try.prog 6 [.c (opsA p),.c (.r 13 (l.map eM))] [] (fun x:{ x:Mr.St × List (Int × Int) // (Jg.rp p l).2=0→Mr.Rel (Jg.rp p l).1 x.1 }=>(.tup [.agg (eMr x.1.1),.c (.r 2 (x.1.2.map eMd)),.c (nI (Jg.rp p l).2)],[])):=by
 refine Con.intro Try.func6 rfl rfl rfl (fun ok e=>?_);have CF:=t_refFits p l hs hp hq
 cases hf:Jg.fits p l
 ·rw [hf] at CF;have e1:Jg.rp p l=(Jg.st0,-1):=by unfold Jg.rp;rw [if_neg (by simp [hf])]
  rw [e1]
  repeat (first | (refine K.store ?_;refine JO.ld (Ld.storeW rfl rfl rfl (by exact rfl) (by exact rfl)) rfl (fun _=>?_)) | (refine K.call ?_;refine JO.ld (Ld.pure (CF) (qb rfl) rfl (by (exact LeDs.cons .refl (.cons .refl .nil)))) rfl (fun _=>?_)) | (refine K.build ?_;refine jq rfl rfl rfl ((Qt.leR (.agg (eMr ⟨[],[]⟩)) (Qt.build rfl (by kernel_rfl)) (.agg (.cons .nil (.cons .nil .nil))))) ?_) | refine gmQ ?_ | intro _)
  refine J.frzS 5 rfl ?_
  (exact J.ret Try.func6 rfl (.cons (.cell 1 rfl rfl rfl) (.cons (.tmp rfl) (.cons (.tmp rfl) .nil))) ⟨(⟨[],[]⟩,[]),fun h=>by cases h⟩ (by exact .refl) [] .nil rfl rfl)
 rw [hf] at CF;have e1:Jg.rp p l=Jg.run l (Jg.opP p l) Jg.st0 (Ta.points l):=by unfold Jg.rp;rw [if_pos hf]
 rw [e1];have hin:∀ x∈l,Jg.inP p x=true:=fun x hx=>(Jg.fits_op hf hx).2.2
 have CP:=t_refPoints l hs;have pl:=Jg.points_len l;obtain ⟨T,hT⟩:∃ T,(Jg.run l (Jg.opP p l) Jg.st0 (Ta.points l)).1=T:=⟨_,rfl⟩
 obtain ⟨sp,hK⟩:∃ sp,(Jg.run l (Jg.opP p l) Jg.st0 (Ta.points l)).2=sp:=⟨_,rfl⟩
 rw [hT,hK]
 repeat (first | (refine K.store ?_;refine JO.ld (Ld.storeW rfl rfl rfl (by exact rfl) (by exact rfl)) rfl (fun _=>?_)) | (refine K.call ?_;first | (refine JO.ld (Ld.pure (CF) (qb rfl) rfl (by (exact LeDs.cons .refl (.cons .refl .nil)))) rfl (fun _=>?_)) | (refine JO.ld (Ld.pure (CP) (qb rfl) rfl (LeDs.cons .refl .nil)) rfl (fun _=>?_))) | (refine K.build ?_;refine jq rfl rfl rfl ((Qt.leR (.agg (eMr ⟨[],[]⟩)) (Qt.build rfl (by kernel_rfl)) (.agg (.cons .nil (.cons .nil .nil))))) ?_) | refine gmQ ?_ | intro _)
 rename_i b4 b7 _ b8 _ _;refine J.loop (ι:={ z:Jg.Dl // Jg.DlOk p l z }) (fun z=>[(10,.c (nI z.1.D.length)),(9,.c (.r 3 ((Ta.points l).map ePt))),(8,.c (.v z.1.v)),(7,.c (.v (.pointer (some ⟨b7,0,none⟩)))),(4,.c (.v (.pointer (some ⟨b4,0,none⟩)))),(1,.c (.r 13 (l.map eM))),(0,.c (opsA p))])
  (fun z=>[.row z.1.v 70 2 (z.1.md.map eMd),.box b7 35 (eMr z.1.q),.box b4 35 zMd]) (fun z=>z.1.R.length) ⟨⟨[],Ta.points l,Jg.st0,⟨[],[]⟩,[],0,.slice (some ⟨b8,0,none⟩) 0 0⟩,Jg.DlOk.start p l _ hs⟩ (fun X h=>h.weak ⟨rfl,rfl,rfl,rfl,rfl,rfl,rfl,trivial⟩) (fun z ih=>?_)
 obtain ⟨⟨D,R,st,q,md,k,v⟩,ho⟩:=z;simp only at ih ⊢;have hall:=ho.inv.all;have hrel:=ho.rel;have hwl:=ho.wl;have hml:=ho.ml;have hkl:=ho.kl;have hsz:=ho.sz;simp only at hall hrel hwl hml hkl hsz;have hpl:(Ta.points l).length=D.length + R.length:=by rw [hall,List.length_append]
 cases R with
 | nil =>
  have t2:decide ((D.length:Int) < ((Ta.points l).length:Int))=false:=decide_eq_false (by rw [hpl];simp);have hr:=ho.part.2.1;rw [Jg.run_nil] at hr;rw [← hr] at hT hK;simp only at hT hK;subst hT hK
  repeat (first | (refine K.store ?_;refine JO.ld (Ld.storeW rfl rfl rfl (by exact rfl) (by exact rfl)) rfl (fun _=>?_)) | refine gn ?_)
  refine J.frzS 5 rfl ?_
  (exact J.ret Try.func6 rfl (.cons (.cell 1 rfl rfl rfl) (.cons (.tmp rfl) (.cons (.tmp rfl) .nil))) ⟨(q,md),fun _=>hrel⟩ (by exact .refl) [] .nil rfl rfl)
 | cons x r =>
  simp only [List.length_cons] at hpl hwl hml hkl;have t2:decide ((D.length:Int) < ((Ta.points l).length:Int))=true:=decide_eq_true (by omega);have PX:=s_at (enc:=ePt) (show (Ta.points l)[D.length]?=some x by rw [hall,List.getElem?_append_right (Nat.le_refl _),Nat.sub_self];rfl);have hx:x∈Ta.points l:=by rw [hall];simp
  obtain ⟨zx,LA,ix,cx⟩:=pt_ok hp hin hcs hx;have CO:=t_refOpW v p (Jg.mkAt l x) md ix cx (by omega);rw [show Jg.cutD (Jg.opAt p (Jg.mkAt l x)) (Jg.look md (Jg.mkAt l x).call)=Jg.opP p l x.at_.toNat from ho.inv.op hf x (by simp [Jg.hd])] at CO;have hlen:(Jg.hd x r).length + (Jg.tl x r).length=r.length + 1:=by
   have:=congrArg List.length (Jg.hd_tl x r);simpa using this
  repeat (first | (refine K.store ?_;refine JO.ld (Ld.storeW rfl rfl rfl (by exact rfl) (by exact rfl)) rfl (fun _=>?_)) | (refine K.call ?_;refine JO.ld (Ld.callT (CO) (qb rfl) rfl (by (exact LeDs.cons .refl (.cons .refl (.cons .refl .nil))))) rfl (fun _=>?_)) | refine gmQ ?_ | intro _)
  rename_i b11 _ b12 _ _ b13 _;refine J.loop (ι:={ j:Nat // j≤(Ta.points l).length }) (fun j=>[(52,.c (nI j.1)),(51,.c (nI (Ta.points l).length)),(50,.c (.r 3 ((Ta.points l).map ePt))),(14,.c (nI (((Ta.points l).take j.1).countP (fun y=>y.step == x.step)))),(13,.c (.v (.pointer (some ⟨b13,0,none⟩)))),(12,.c (.v (.pointer (some ⟨b12,0,none⟩)))),(11,.c (.v (.pointer (some ⟨b11,0,none⟩)))),(10,.c (nI D.length)),(9,.c (.r 3 ((Ta.points l).map ePt))),(8,.c (.v v)),(7,.c (.v (.pointer (some ⟨b7,0,none⟩)))),(4,.c (.v (.pointer (some ⟨b4,0,none⟩)))),(1,.c (.r 13 (l.map eM))),(0,.c (opsA p))])
   (fun _=>[.box b13 28 (eOp (Jg.opP p l x.at_.toNat)),.box b12 52 (eM (Jg.mkAt l x)),.box b11 64 (ePt x),.row v 70 2 (md.map eMd),.box b7 35 (eMr q),.box b4 35 zMd]) (fun j=>(Ta.points l).length - j.1) ⟨0,Nat.zero_le _⟩ (fun X h=>h.weak ⟨rfl,rfl,rfl,rfl,rfl,rfl,rfl,rfl,rfl,rfl,rfl,rfl,rfl,rfl,trivial⟩) (fun j ih2=>?_)
  obtain ⟨j,hj'⟩:=j;simp only at hj' ih2 ⊢
  by_cases hj:j < (Ta.points l).length
  ·have t3:decide ((j:Int) < ((Ta.points l).length:Int))=true:=decide_eq_true (by omega);obtain ⟨y,hy⟩:∃ y,(Ta.points l)[j]?=some y:=⟨_,List.getElem?_eq_getElem hj⟩
   have AY:=s_at (enc:=ePt) hy;have fs:=Jg.countP_snoc (q:=fun y:Ta.Pt=>y.step == x.step) hy;have fl:=(List.countP_le_length (p:=fun y:Ta.Pt=>y.step == x.step) (l:=(Ta.points l).take j))
   have ft:=List.length_take_le j (Ta.points l);have ih3:=ih2 ⟨j + 1,by omega⟩ (by simp only;omega);clear ih ih2;simp only at ih3;rw [fs] at ih3;generalize ((Ta.points l).take j).countP (fun y=>y.step == x.step)=n at fl ih3 ⊢
   cases t4:(y.step == x.step)
   all_goals
    rw [t4] at ih3
    repeat (first | (refine K.store ?_;refine JO.ld (Ld.storeW rfl rfl rfl (by exact rfl) (by exact rfl)) rfl (fun _=>?_)) | refine gmQ ?_ | intro _)
    refine J.dropN 0 ?_;exact ih3.weak ⟨rfl,rfl,rfl,rfl,rfl,rfl,rfl,rfl,rfl,rfl,rfl,rfl,rfl,rfl,trivial⟩
  obtain rfl:j=(Ta.points l).length:=by omega
  have t3:decide (((Ta.points l).length:Int) < ((Ta.points l).length:Int))=false:=decide_eq_false (by omega);clear ih2 hj hj';rw [List.take_length,Jg.count_same ho.inv];have MA:=t_refAlone st q hrel (Jg.opP p l x.at_.toNat) (Jg.mkAt l x) x.kind q.waits.length k (Nat.le_refl _) (by omega) hsz (by omega);have hGd:Jg.hd x r=x :: r.takeWhile (Jg.same x):=rfl
  cases hTW:r.takeWhile (Jg.same x) with
  | nil =>
   rw [hTW] at hGd;have hGl:=hGd;rw [hGd];have eD:((D ++ Jg.hd x r).length:Int)=(D.length:Int) + 1:=by rw [hGl];simp
   cases hB:oneB st (Jg.mkAt l x) (Jg.opP p l x.at_.toNat) x.kind
   ·rw [hB] at MA;have hno:Jg.grpB l (Jg.opP p l) st (Jg.hd x r)=false:=by rw [hGl];exact hB
    have hst:=ho.part.stop hno;rw [hK] at hst;have h1:=Jg.pt_pos hf hx;subst hst
    repeat (first | (refine K.store ?_;refine JO.ld (Ld.storeW rfl rfl rfl (by exact rfl) (by exact rfl)) rfl (fun _=>?_)) | (refine K.call ?_;refine JO.callI (MA) rfl (qb rfl) rfl (by (exact LeDs.cons .refl (.cons .refl (.cons .refl (.cons .refl .nil))))) ?_;intro _) | refine gmQ ?_ | intro _)
    refine J.draw (by kernel_rfl) rfl ?_;refine JW.base1 none (.tmp 4) rfl ?_;refine tk 0 ?_;refine tk 1 ?_;refine tk 2 ?_;refine tk 3 ?_;refine JD.each1 (i:=4) (by kernel_rfl) ?_
    (refine JS.st rfl rfl rfl (Ld.storeW rfl rfl rfl (by exact rfl) (by exact rfl)) (.tbox rfl) (fun _=>?_))
    refine tk 5 ?_;refine tk 6 ?_;refine dnQ ?_
    all_goals
     repeat (fail)
     refine J.frzS 5 rfl ?_
     (exact J.ret Try.func6 rfl (.cons (.cell 5 rfl rfl rfl) (.cons (.tmp rfl) (.cons (.tmp rfl) .nil))) ⟨(q,md),fun h=>by omega⟩ (by exact .refl) [] .nil rfl rfl)
   ·rw [hB] at MA;have hyes:Jg.grpB l (Jg.opP p l) st (Jg.hd x r)=true:=by rw [hGl];exact hB
    have ih1:=fun (q':Mr.St) (v':Value) (hr':Mr.Rel (Jg.grpS l (Jg.opP p l) st (Jg.hd x r)) q') (hw':q'.waits.length≤q.waits.length + 1)=>ih ⟨⟨D ++ Jg.hd x r,Jg.tl x r,Jg.grpS l (Jg.opP p l) st (Jg.hd x r),q',md ++ [(x.step,((Jg.grpS l (Jg.opP p l) st (Jg.hd x r)).chans.length:Int))],k + 2,v'⟩,ho.next hyes hr' hw'⟩ (by simp only [List.length_cons];have:=Jg.hd_pos x r;omega)
    clear ih;have eS:Jg.grpS l (Jg.opP p l) st (Jg.hd x r)=oneS st (Jg.mkAt l x) (Jg.opP p l x.at_.toNat) x.kind:=by rw [hGl];rfl
    simp only [eD] at ih1
    repeat (first | (refine K.store ?_;refine JO.ld (Ld.storeW rfl rfl rfl (by exact rfl) (by exact rfl)) rfl (fun _=>?_)) | (refine K.call ?_;refine JO.callI (MA) rfl (qb rfl) rfl (by (exact LeDs.cons .refl (.cons .refl (.cons .refl (.cons .refl .nil))))) ?_;intro _) | (refine K.lit ?_;refine JO.ld (Ld.lit1R (qb rfl) rfl rfl rfl rfl rfl) rfl (fun _=>?_)) | (refine K.bi ?_;refine JO.ld (Ld.appOw (qb rfl) rfl rfl .read (by (simp;omega))) rfl (fun _=>?_)) | refine gmQ ?_ | intro _)
    rename_i z _ _ _ _ v';refine J.dropN 1 ?_;refine J.dropN 1 ?_;refine J.dropN 1 ?_;refine J.dropN 1 ?_;refine J.congL ?_ ((ih1 z.1 v' (by rw [eS];exact z.2.1) z.2.2).weak ⟨rfl,rfl,rfl,rfl,rfl,rfl,rfl,trivial⟩);rw [List.map_append,eS,(z.2.1).1];rfl
  | cons y tt =>
   rw [hTW] at hGd
   cases tt with
   | cons y2 t2' =>
    have hGl:=hGd;rw [hGd];have g2:decide ((((x :: y :: y2 :: t2').length:Nat):Int) > 2)=true:=decide_eq_true (by simp only [List.length_cons];omega);have hno:Jg.grpB l (Jg.opP p l) st (Jg.hd x r)=false:=by rw [hGl];rfl
    have hst:=ho.part.stop hno;rw [hK] at hst;have h1:=Jg.pt_pos hf hx;subst hst
    repeat (first | (refine K.store ?_;refine JO.ld (Ld.storeW rfl rfl rfl (by exact rfl) (by exact rfl)) rfl (fun _=>?_)) | (refine K.call ?_;refine JO.callI (MA) rfl (qb rfl) rfl (by (exact LeDs.cons .refl (.cons .refl (.cons .refl (.cons .refl .nil))))) ?_;intro _) | refine gmQ ?_ | intro _)
    refine J.draw (by kernel_rfl) rfl ?_;refine JW.base1 none (.tmp 4) rfl ?_;refine tk 0 ?_;refine tk 1 ?_;refine tk 2 ?_;refine tk 3 ?_;refine JD.each1 (i:=4) (by kernel_rfl) ?_
    (refine JS.st rfl rfl rfl (Ld.storeW rfl rfl rfl (by exact rfl) (by exact rfl)) (.tbox rfl) (fun _=>?_))
    refine tk 5 ?_;refine tk 6 ?_;refine dnQ ?_
    all_goals
     repeat (fail)
     refine J.frzS 5 rfl ?_
     (exact J.ret Try.func6 rfl (.cons (.cell 5 rfl rfl rfl) (.cons (.tmp rfl) (.cons (.tmp rfl) .nil))) ⟨(q,md),fun h=>by omega⟩ (by exact .refl) [] .nil rfl rfl)
   | nil =>
    have hGl:=hGd;rw [hGd];have hy:y∈Ta.points l:=ho.part.mem (by simp only;rw [← Jg.hd_tl x r,hGl];simp);have g2:decide (((([x,y]:List Ta.Pt).length:Nat):Int) > 2)=false:=rfl;have g3:(((([x,y]:List Ta.Pt).length:Nat):Int) == 2)=true:=rfl;have zD:(0:Int)≤(D.length:Int) + 1:=by omega
    have PY:((Ta.points l).map ePt)[((D.length:Int) + 1).toNat]?=some (ePt y):=by
     have e:((D.length:Int) + 1).toNat=D.length + 1:=by omega
     rw [e,List.getElem?_map,hall,List.getElem?_append_right (by omega),show D.length + 1 - D.length=1 by omega,← Jg.hd_tl x r,hGl];rfl
    cases t7:(x.kind != 2)
    case true =>
     have n7:¬ x.kind=2:=by simpa using t7
     have hno:Jg.grpB l (Jg.opP p l) st (Jg.hd x r)=false:=by rw [hGl];simp only [Jg.grpB,decide_eq_false n7,Bool.false_and]
     have hst:=ho.part.stop hno;rw [hK] at hst;have h1:=Jg.pt_pos hf hx;subst hst
     repeat (first | (refine K.store ?_;refine JO.ld (Ld.storeW rfl rfl rfl (by exact rfl) (by exact rfl)) rfl (fun _=>?_)) | (refine K.call ?_;refine JO.callI (MA) rfl (qb rfl) rfl (by (exact LeDs.cons .refl (.cons .refl (.cons .refl (.cons .refl .nil))))) ?_;intro _) | refine gmQ ?_ | intro _)
     refine J.draw (by kernel_rfl) rfl ?_;refine JW.base1 none (.tmp 4) rfl ?_;refine tk 0 ?_;refine tk 1 ?_;refine tk 2 ?_;refine tk 3 ?_;refine JD.each1 (i:=4) (by kernel_rfl) ?_
     (refine JS.st rfl rfl rfl (Ld.storeW rfl rfl rfl (by exact rfl) (by exact rfl)) (.tbox rfl) (fun _=>?_))
     refine tk 5 ?_;refine tk 6 ?_;refine dnQ ?_
     all_goals
      repeat (fail)
      refine J.frzS 5 rfl ?_
      (exact J.ret Try.func6 rfl (.cons (.cell 5 rfl rfl rfl) (.cons (.tmp rfl) (.cons (.tmp rfl) .nil))) ⟨(q,md),fun h=>by omega⟩ (by exact .refl) [] .nil rfl rfl)
    have n7:x.kind=2:=by simpa using t7
    cases t8:(y.kind != 2)
    case true =>
     have n8:¬ y.kind=2:=by simpa using t8
     have hno:Jg.grpB l (Jg.opP p l) st (Jg.hd x r)=false:=by rw [hGl];simp only [Jg.grpB,decide_eq_false n8,Bool.and_false,Bool.false_and]
     have hst:=ho.part.stop hno;rw [hK] at hst;have h1:=Jg.pt_pos hf hx;subst hst
     repeat (first | (refine K.store ?_;refine JO.ld (Ld.storeW rfl rfl rfl (by exact rfl) (by exact rfl)) rfl (fun _=>?_)) | (refine K.indexAddr ?_;refine jq rfl rfl rfl (Qt.indexR rfl rfl zD PY) ?_) | (refine K.call ?_;refine JO.callI (MA) rfl (qb rfl) rfl (by (exact LeDs.cons .refl (.cons .refl (.cons .refl (.cons .refl .nil))))) ?_;intro _) | refine gmQ ?_ | intro _)
     refine J.draw (by kernel_rfl) rfl ?_;refine JW.base1 none (.tmp 4) rfl ?_;refine tk 0 ?_;refine tk 1 ?_;refine tk 2 ?_;refine tk 3 ?_;refine JD.each1 (i:=4) (by kernel_rfl) ?_
     (refine JS.st rfl rfl rfl (Ld.storeW rfl rfl rfl (by exact rfl) (by exact rfl)) (.tbox rfl) (fun _=>?_))
     refine tk 5 ?_;refine tk 6 ?_;refine dnQ ?_
     all_goals
      repeat (fail)
      refine J.frzS 5 rfl ?_
      (exact J.ret Try.func6 rfl (.cons (.cell 5 rfl rfl rfl) (.cons (.tmp rfl) (.cons (.tmp rfl) .nil))) ⟨(q,md),fun h=>by omega⟩ (by exact .refl) [] .nil rfl rfl)
    have n8:y.kind=2:=by simpa using t8
    obtain ⟨zy,LB,iy,cy⟩:=pt_ok hp hin hcs hy;have CY:=t_refOpW v p (Jg.mkAt l y) md iy cy (by omega);rw [show Jg.cutD (Jg.opAt p (Jg.mkAt l y)) (Jg.look md (Jg.mkAt l y).call)=Jg.opP p l y.at_.toNat from ho.inv.op hf y (by rw [hGl];simp)] at CY;have eD:((D ++ Jg.hd x r).length:Int)=(D.length:Int) + 1 + 1:=by rw [hGl,List.length_append];simp only [List.length_cons,List.length_nil];omega
    have TD:=Jg.two_doc st (Jg.mkAt l x) (Jg.mkAt l y) (Jg.opP p l x.at_.toNat) (Jg.opP p l y.at_.toNat);have MB1:=t_refBoth st q hrel (Jg.mkAt l x) (Jg.opP p l x.at_.toNat) (Jg.mkAt l y) (Jg.opP p l y.at_.toNat) q.waits.length k (Nat.le_refl _) (by omega) hsz (by omega);have MB2:=t_refBoth st q hrel (Jg.mkAt l y) (Jg.opP p l y.at_.toNat) (Jg.mkAt l x) (Jg.opP p l x.at_.toNat) q.waits.length k (Nat.le_refl _) (by omega) hsz (by omega);have hyl:1≤r.length:=by have h:=hlen;rw [hGl] at h;simp only [List.length_cons,List.length_nil] at h;omega
    cases hB1:Jg.bothB st (Jg.mkAt l x) (Jg.opP p l x.at_.toNat) (Jg.mkAt l y) (Jg.opP p l y.at_.toNat)
    ·cases hB2:Jg.bothB st (Jg.mkAt l y) (Jg.opP p l y.at_.toNat) (Jg.mkAt l x) (Jg.opP p l x.at_.toNat)
     ·have hB:Jg.twoB st (Jg.mkAt l x) (Jg.opP p l x.at_.toNat) (Jg.mkAt l y) (Jg.opP p l y.at_.toNat)=false:=by rw [TD.1,hB1,hB2];rfl
      rw [hB1] at MB1;rw [hB2] at MB2;have hno:Jg.grpB l (Jg.opP p l) st (Jg.hd x r)=false:=by rw [hGl];simp only [Jg.grpB,decide_eq_true n7,decide_eq_true n8,Bool.true_and];exact hB
      have hst:=ho.part.stop hno;rw [hK] at hst;have h1:=Jg.pt_pos hf hx;subst hst
      repeat (first | (refine K.store ?_;refine JO.ld (Ld.storeW rfl rfl rfl (by exact rfl) (by exact rfl)) rfl (fun _=>?_)) | (refine K.indexAddr ?_;refine jq rfl rfl rfl (Qt.indexR rfl rfl zD PY) ?_) | (refine K.call ?_;first | (refine JO.callI (MA) rfl (qb rfl) rfl (by (exact LeDs.cons .refl (.cons .refl (.cons .refl (.cons .refl .nil))))) ?_;intro _) | (refine JO.ld (Ld.callT (CY) (qb rfl) rfl (by (exact LeDs.cons .refl (.cons .refl (.cons .refl .nil))))) rfl (fun _=>?_)) | (refine JO.callI (MB1) rfl (qb rfl) rfl (by (exact LeDs.cons .refl (.cons .refl (.cons .refl (.cons .refl (.cons .refl .nil)))))) ?_;intro _) | (refine JO.callI (MB2) rfl (qb rfl) rfl (by (exact LeDs.cons .refl (.cons .refl (.cons .refl (.cons .refl (.cons .refl .nil)))))) ?_;intro _)) | refine gmQ ?_ | intro _)
      refine J.draw (by kernel_rfl) rfl ?_;refine JW.base1 none (.tmp 4) rfl ?_;refine tk 0 ?_;refine tk 1 ?_;refine tk 2 ?_;refine tk 3 ?_;refine JD.each1 (i:=4) (by kernel_rfl) ?_
      (refine JS.st rfl rfl rfl (Ld.storeW rfl rfl rfl (by exact rfl) (by exact rfl)) (.tbox rfl) (fun _=>?_))
      refine tk 5 ?_;refine tk 6 ?_;refine dnQ ?_
      all_goals
       repeat (fail)
       refine J.frzS 5 rfl ?_
       (exact J.ret Try.func6 rfl (.cons (.cell 7 rfl rfl rfl) (.cons (.tmp rfl) (.cons (.tmp rfl) .nil))) ⟨(q,md),fun h=>by omega⟩ (by exact .refl) [] .nil rfl rfl)
     ·have hB:Jg.twoB st (Jg.mkAt l x) (Jg.opP p l x.at_.toNat) (Jg.mkAt l y) (Jg.opP p l y.at_.toNat)=true:=by rw [TD.1,hB1,hB2];rfl
      have hS:=TD.2 hB;rw [if_neg (by simp [hB1])] at hS;rw [hB1] at MB1;rw [hB2] at MB2;have hyes:Jg.grpB l (Jg.opP p l) st (Jg.hd x r)=true:=by rw [hGl];simp only [Jg.grpB,decide_eq_true n7,decide_eq_true n8,Bool.true_and];exact hB
      have ih1:=fun (q':Mr.St) (v':Value) (hr':Mr.Rel (Jg.grpS l (Jg.opP p l) st (Jg.hd x r)) q') (hw':q'.waits.length≤q.waits.length + 1)=>ih ⟨⟨D ++ Jg.hd x r,Jg.tl x r,Jg.grpS l (Jg.opP p l) st (Jg.hd x r),q',md ++ [(x.step,((Jg.grpS l (Jg.opP p l) st (Jg.hd x r)).chans.length:Int))],k + 2,v'⟩,ho.next hyes hr' hw'⟩ (by simp only [List.length_cons];have:=Jg.hd_pos x r;omega)
      clear ih;have eS:Jg.grpS l (Jg.opP p l) st (Jg.hd x r)=Jg.bothS st (Jg.mkAt l y) (Jg.opP p l y.at_.toNat) (Jg.mkAt l x) (Jg.opP p l x.at_.toNat):=by rw [hGl];simp only [Jg.grpS];exact hS
      simp only [eD] at ih1
      repeat (first | (refine K.store ?_;refine JO.ld (Ld.storeW rfl rfl rfl (by exact rfl) (by exact rfl)) rfl (fun _=>?_)) | (refine K.indexAddr ?_;refine jq rfl rfl rfl (Qt.indexR rfl rfl zD PY) ?_) | (refine K.call ?_;first | (refine JO.callI (MA) rfl (qb rfl) rfl (by (exact LeDs.cons .refl (.cons .refl (.cons .refl (.cons .refl .nil))))) ?_;intro _) | (refine JO.ld (Ld.callT (CY) (qb rfl) rfl (by (exact LeDs.cons .refl (.cons .refl (.cons .refl .nil))))) rfl (fun _=>?_)) | (refine JO.callI (MB1) rfl (qb rfl) rfl (by (exact LeDs.cons .refl (.cons .refl (.cons .refl (.cons .refl (.cons .refl .nil)))))) ?_;intro _) | (refine JO.callI (MB2) rfl (qb rfl) rfl (by (exact LeDs.cons .refl (.cons .refl (.cons .refl (.cons .refl (.cons .refl .nil)))))) ?_;intro _)) | (refine K.lit ?_;refine JO.ld (Ld.lit1R (qb rfl) rfl rfl rfl rfl rfl) rfl (fun _=>?_)) | (refine K.bi ?_;refine JO.ld (Ld.appOw (qb rfl) rfl rfl .read (by (simp;omega))) rfl (fun _=>?_)) | refine gmQ ?_ | intro _)
      rename_i z _ _ _ v';refine J.dropN 1 ?_;refine J.dropN 1 ?_;refine J.dropN 1 ?_;refine J.dropN 1 ?_;refine J.dropN 1 ?_;refine J.dropN 1 ?_;refine J.congL ?_ ((ih1 z.1 v' (by rw [eS];exact (z.2 rfl).1) (by have:=(z.2 rfl).2;omega)).weak ⟨rfl,rfl,rfl,rfl,rfl,rfl,rfl,trivial⟩);rw [List.map_append,eS,((z.2 rfl).1).1];rfl
    ·have hB:Jg.twoB st (Jg.mkAt l x) (Jg.opP p l x.at_.toNat) (Jg.mkAt l y) (Jg.opP p l y.at_.toNat)=true:=by rw [TD.1,hB1];rfl
     have hS:=TD.2 hB;rw [if_pos hB1] at hS;rw [hB1] at MB1;have hyes:Jg.grpB l (Jg.opP p l) st (Jg.hd x r)=true:=by rw [hGl];simp only [Jg.grpB,decide_eq_true n7,decide_eq_true n8,Bool.true_and];exact hB
     have ih1:=fun (q':Mr.St) (v':Value) (hr':Mr.Rel (Jg.grpS l (Jg.opP p l) st (Jg.hd x r)) q') (hw':q'.waits.length≤q.waits.length + 1)=>ih ⟨⟨D ++ Jg.hd x r,Jg.tl x r,Jg.grpS l (Jg.opP p l) st (Jg.hd x r),q',md ++ [(x.step,((Jg.grpS l (Jg.opP p l) st (Jg.hd x r)).chans.length:Int))],k + 2,v'⟩,ho.next hyes hr' hw'⟩ (by simp only [List.length_cons];have:=Jg.hd_pos x r;omega)
     clear ih;have eS:Jg.grpS l (Jg.opP p l) st (Jg.hd x r)=Jg.bothS st (Jg.mkAt l x) (Jg.opP p l x.at_.toNat) (Jg.mkAt l y) (Jg.opP p l y.at_.toNat):=by rw [hGl];simp only [Jg.grpS];exact hS
     simp only [eD] at ih1
     repeat (first | (refine K.store ?_;refine JO.ld (Ld.storeW rfl rfl rfl (by exact rfl) (by exact rfl)) rfl (fun _=>?_)) | (refine K.indexAddr ?_;refine jq rfl rfl rfl (Qt.indexR rfl rfl zD PY) ?_) | (refine K.call ?_;first | (refine JO.callI (MA) rfl (qb rfl) rfl (by (exact LeDs.cons .refl (.cons .refl (.cons .refl (.cons .refl .nil))))) ?_;intro _) | (refine JO.ld (Ld.callT (CY) (qb rfl) rfl (by (exact LeDs.cons .refl (.cons .refl (.cons .refl .nil))))) rfl (fun _=>?_)) | (refine JO.callI (MB1) rfl (qb rfl) rfl (by (exact LeDs.cons .refl (.cons .refl (.cons .refl (.cons .refl (.cons .refl .nil)))))) ?_;intro _)) | (refine K.lit ?_;refine JO.ld (Ld.lit1R (qb rfl) rfl rfl rfl rfl rfl) rfl (fun _=>?_)) | (refine K.bi ?_;refine JO.ld (Ld.appOw (qb rfl) rfl rfl .read (by (simp;omega))) rfl (fun _=>?_)) | refine gmQ ?_ | intro _)
     rename_i z _ _ _ v';refine J.dropN 1 ?_;refine J.dropN 1 ?_;refine J.dropN 1 ?_;refine J.dropN 1 ?_;refine J.dropN 1 ?_;refine J.dropN 1 ?_;refine J.congL ?_ ((ih1 z.1 v' (by rw [eS];exact (z.2 rfl).1) (by have:=(z.2 rfl).2;omega)).weak ⟨rfl,rfl,rfl,rfl,rfl,rfl,rfl,trivial⟩);rw [List.map_append,eS,((z.2 rfl).1).1];rfl
end Fl
open Go.RowKit
namespace Jg
def alO:Pn.Op:=⟨1,0,0,0,[],false⟩
def alP:List (List Pn.Op):=[[alO]]
def alM (n:Int):Sx.Mk:=⟨0,0,1,0,2,-1,-1,3,⟨1,-1,0,true,n⟩⟩
theorem al_fits (n:Int):fits alP [alM n]=true:=by
 rw [fits_doc];have h1:Pn.right alP=true:=by decide
 have h2:good1 alP [alM n] (alM n)=true:=rfl;simp [h1,h2]
theorem al_points (n:Int):Ta.points [alM n]=[⟨2,2,0⟩]:=rfl
theorem al_op (n:Int):opP alP [alM n] 0=alO:=rfl
theorem al_one (n:Int):grpB [alM n] (opP alP [alM n]) st0 (hd ⟨2,2,0⟩ [])=resEq ⟨1,-1,0,true,n⟩ ⟨1,-1,0,true,1⟩:=by
 have e:hd (⟨2,2,0⟩:Ta.Pt) []=[⟨2,2,0⟩]:=rfl;rw [e];have e2:mkAt [alM n] ⟨2,2,0⟩=alM n:=rfl;have e3:(⟨2,2,0⟩:Ta.Pt).at_.toNat=0:=rfl;simp only [grpB,e2,e3,al_op];rw [if_neg (by decide)];unfold aloneB;rw [if_neg (by simp [alM]),if_neg (by simp [alM])];have e4:Md.fire st0 (alM n).g alO (alM n).fire=(⟨[⟨0,[],false⟩],Md.drops (fun _=>none) 0⟩,some ⟨1,-1,0,true,1⟩):=rfl;unfold fireB;rw [e4];simp only [Option.isSome_some,Bool.true_and,Option.getD_some];unfold agr;simp [alM]
theorem al_1:(rp alP [alM 1]).2=0:=by
 unfold rp;rw [if_pos (al_fits 1),al_points,run_yes (by rw [al_one];rfl)];rfl
theorem al_2:(rp alP [alM 2]).2=2:=by
 unfold rp;rw [if_pos (al_fits 2),al_points,run_no (by rw [al_one];rfl)]
end Jg
namespace Fl
set_option maxRecDepth 100000
set_option maxHeartbeats 4000000
theorem al_cs (n:Int):∀ m∈[Jg.alM n],Jg.inP Jg.alP m=true→(Jg.opAt Jg.alP m).cases.length≤1000:=fun m hm _=>by
 rw [List.mem_singleton.1 hm]
 show (0:Nat)≤1000;omega
theorem t_alive21:Pure Try.prog 4 [] (.c (bI true)):=by
 have C1:=t_Check Jg.alP [Jg.alM 1] (by decide) (by decide) (al_cs 1);rw [Jg.al_1] at C1;have C2:=t_Replay Jg.alP [Jg.alM 2] (by decide) (by decide) (al_cs 2);rw [Jg.al_2] at C2;generalize (Jg.rp Jg.alP [Jg.alM 2]).1=T at C2;refine Con.intro Try.func4 rfl rfl rfl (fun ok e=>?_)
 repeat (first | (refine K.call ?_;first | (refine JO.ld (Ld.pure (C1) (qb rfl) rfl (by (exact LeDs.cons .refl (.cons .refl .nil)))) rfl (fun _=>?_)) | refine JO.call C2 rfl (qb rfl) rfl (.cons .refl (.cons .refl .nil)) (Ll:=[]) (Lr:=_) rfl ?_;rintro ⟨_ | ⟨b,N,S⟩,hx⟩) | (refine K.build ?_;first | refine jq rfl rfl rfl ((Qt.leR (.agg (eOp Jg.alO)) (Qt.build rfl (by kernel_rfl)) (.agg (.cons .refl (.cons .refl (.cons .refl (.cons .refl (.cons .nil (.cons .refl .nil))))))))) ?_ | refine jq rfl rfl rfl ((Qt.buildA (r:=eRes ⟨1,-1,0,true,1⟩) rfl rfl)) ?_ | refine jq rfl rfl rfl ((Qt.buildA (r:=eM (Jg.alM 1)) rfl rfl)) ?_) | (refine K.lit ?_;refine JO.ld (Ld.lit1R (qb rfl) rfl rfl rfl rfl rfl) rfl (fun _=>?_)) | refine gmQ ?_ | intro _)
 all_goals
  repeat (refine gn ?_)
  exact rtQ Try.func4
end Fl
open Go.RowKit Go.ChangeShapes Go.WideShapes Go.Deep
namespace Fl
theorem om_int:Opens Try.prog 3 (numE .i64) 1:=opens_num Try.underlying3 (by kernel_rfl)
theorem om_int64:Opens Try.prog 2 (numE .i64) 1:=opens_num Try.underlying2 (by kernel_rfl)
theorem om_bool:Opens Try.prog 4 bitE 1:=opens_bit Try.underlying4 (by kernel_rfl)
def vR (r:Md.Res):List Value:=[.int .i64 r.code,.int .i64 r.cs,.int .i64 r.v,.bool r.ok,.int .i64 r.n]
def resE (w:World) (cs:List Value) (r:Md.Res) (U:List Nat):Prop:=cs=vR r∧U=[]
theorem resE_kept:Kept resE:=⟨fun h _ _=>h,fun h x hx=>by obtain ⟨_,rfl⟩:=h;simp at hx⟩
theorem om_list5 {α:Type}:∀ {l:List α},l.length=5→∃ x0 x1 x2 x3 x4,l=[x0,x1,x2,x3,x4]
 | [x0,x1,x2,x3,x4],_=>⟨x0,x1,x2,x3,x4,rfl⟩
theorem om_list13 {α:Type}:∀ {l:List α},l.length=13→∃ x0 x1 x2 x3 x4 x5 x6 x7 x8 x9 x10 x11 x12,l=[x0,x1,x2,x3,x4,x5,x6,x7,x8,x9,x10,x11,x12]
 | [x0,x1,x2,x3,x4,x5,x6,x7,x8,x9,x10,x11,x12],_=>⟨x0,x1,x2,x3,x4,x5,x6,x7,x8,x9,x10,x11,x12,rfl⟩
theorem om_res:Opens Try.prog 50 resE 5:=by
 refine ⟨by omega,resE_kept,by kernel_rfl,?_⟩;intro H enc W fuel cs x h;obtain ⟨xs,n,_,_,hl,hxl,hf⟩:=DataW.trod_struct Try.underlying50 h;obtain ⟨v0,v1,v2,v3,v4,rfl⟩:=om_list5 (hl.trans (by kernel_rfl));have hx5:xs.length=5:=hxl.trans (by kernel_rfl);have hs:∀ i,i < 5→(xs[i]?).isSome=true:=fun i hi=>by simp [hx5,hi]
 obtain ⟨_,_,a0,U0,e0,_⟩:=om_int.field rfl rfl (hs 0 (by omega)) (hf 0 _ rfl);obtain ⟨_,_,a1,U1,e1,_⟩:=om_int.field rfl rfl (hs 1 (by omega)) (hf 1 _ rfl);obtain ⟨_,_,a2,U2,e2,_⟩:=om_int64.field rfl rfl (hs 2 (by omega)) (hf 2 _ rfl);obtain ⟨_,_,a3,U3,e3,_⟩:=om_bool.field rfl rfl (hs 3 (by omega)) (hf 3 _ rfl);obtain ⟨_,_,a4,U4,e4,_⟩:=om_int.field rfl rfl (hs 4 (by omega)) (hf 4 _ rfl);simp at e0 e1 e2 e3 e4;subst e0 e1 e2 e3 e4;exact ⟨rfl,(by intro y hy;simp at hy;rcases hy with rfl | rfl | rfl | rfl | rfl <;> rfl),⟨a0,a1,a2,a3,a4⟩,[],rfl,rfl⟩
def markE (w:World) (cs:List Value) (m:Sx.Mk) (U:List Nat):Prop:=cs=[.int .i64 m.g,.int .i64 m.op,.int .i64 m.call,.int .i64 m.arrive,.int .i64 m.point,.int .i64 m.wi,.int .i64 m.fire,.int .i64 m.re] ++ vR m.res∧U=[]
theorem markE_kept:Kept markE:=⟨fun h _ _=>h,fun h x hx=>by obtain ⟨_,rfl⟩:=h;simp at hx⟩
theorem om_mark:Opens Try.prog 52 markE 13:=by
 refine ⟨by omega,markE_kept,by kernel_rfl,?_⟩;intro H enc W fuel cs x h;obtain ⟨xs,n,_,_,hl,hxl,hf⟩:=DataW.trod_struct Try.underlying52 h;obtain ⟨v0,v1,v2,v3,v4,v5,v6,v7,v8,v9,v10,v11,v12,rfl⟩:=om_list13 (hl.trans (by kernel_rfl));have hx9:xs.length=9:=hxl.trans (by kernel_rfl);have hs:∀ i,i < 9→(xs[i]?).isSome=true:=fun i hi=>by simp [hx9,hi]
 obtain ⟨_,_,a0,U0,e0,_⟩:=om_int.field rfl rfl (hs 0 (by omega)) (hf 0 _ rfl);obtain ⟨_,_,a1,U1,e1,_⟩:=om_int.field rfl rfl (hs 1 (by omega)) (hf 1 _ rfl);obtain ⟨_,_,a2,U2,e2,_⟩:=om_int.field rfl rfl (hs 2 (by omega)) (hf 2 _ rfl);obtain ⟨_,_,a3,U3,e3,_⟩:=om_int.field rfl rfl (hs 3 (by omega)) (hf 3 _ rfl);obtain ⟨_,_,a4,U4,e4,_⟩:=om_int.field rfl rfl (hs 4 (by omega)) (hf 4 _ rfl);obtain ⟨_,_,a5,U5,e5,_⟩:=om_int.field rfl rfl (hs 5 (by omega)) (hf 5 _ rfl);obtain ⟨_,_,a6,U6,e6,_⟩:=om_int.field rfl rfl (hs 6 (by omega)) (hf 6 _ rfl);obtain ⟨_,_,a7,U7,e7,_⟩:=om_int.field rfl rfl (hs 7 (by omega)) (hf 7 _ rfl);obtain ⟨_,_,a8,U8,e8,_⟩:=om_res.field rfl rfl (hs 8 (by omega)) (hf 8 _ rfl);simp [vR] at e0 e1 e2 e3 e4 e5 e6 e7 e8;obtain ⟨p0,p1,p2,p3,p4⟩:=e8;subst e0 e1 e2 e3 e4 e5 e6 e7 p0 p1 p2 p3 p4;exact ⟨rfl,(by intro y hy;simp at hy;rcases hy with rfl | rfl | rfl | rfl | rfl | rfl | rfl | rfl | rfl | rfl | rfl | rfl | rfl <;> rfl),⟨a0,a1,a2,a3,a4,a5,a6,a7,a8⟩,[],rfl,rfl⟩
theorem om_marks:Opens Try.prog 23 (rowE markE 13) 1:=opens_row Try.underlying23 (by kernel_rfl) om_mark
theorem si_mark:Si eM markE:=fun ok w cs m U r _=>by
 obtain ⟨rfl,_⟩:=r;exact RC.cons (RA.w rfl) (RC.cons (RA.w rfl) (RC.cons (RA.w rfl) (RC.cons (RA.w rfl) (RC.cons (RA.w rfl) (RC.cons (RA.w rfl) (RC.cons (RA.w rfl) (RC.cons (RA.w rfl) (RC.cons (RA.w rfl) (RC.cons (RA.w rfl) (RC.cons (RA.w rfl) (RC.cons (RA.w rfl) (RC.cons (RA.w rfl) RC.nil))))))))))))
end Fl
open Go.RowKit
namespace Jg
theorem play_sz (l:List Sx.Mk) (f:Nat→Pn.Op):∀ (n:Nat) (st:Md.St) (R:List Ta.Pt) (k:Nat),Sz st k→∃ m,Sz (play l f n st R).1 m
 | 0,st,R,k,h=>⟨k,h⟩
 | n + 1,st,[],k,h=>⟨k,h⟩
 | n + 1,st,x :: r,k,h=>by
  unfold play
  split
  ·exact play_sz l f n _ _ _ (h.grp l f (hd x r))
  ·exact ⟨k,h⟩
theorem rp_len (p:List (List Pn.Op)) (l:List Sx.Mk):(rp p l).1.chans.length≤8:=by
 unfold rp
 split
 ·obtain ⟨m,h⟩:=play_sz l (opP p l) (Ta.points l).length st0 (Ta.points l) 0 (by unfold Sz Bf st0;simp);exact h.1
 ·unfold st0;simp
end Jg
namespace Fl
set_option maxRecDepth 100000
set_option maxHeartbeats 4000000
section
variable {P:Program} {c:Cx} {f:Fm} {L:List Res} {T:TypeId} {ps:String} {af:Array Edge} {gd:Option (Nat × Bool)} {t:Nat}
theorem Qt.eqP {x y:Operand} {X Y:Nat} {p:Option Addr} (h:evD f x=some (.c (.v (.pointer p)))) (hy:evD f y=some (.c (.v (.pointer none)))) (hr:∀ w,(binOp .eql X (.pointer p) (.pointer none)).run P w=.ok (.bool p.isNone) w):Qt P c [] ⟨t,.binOp .eql X x y Y,T,ps,af,gd⟩ f L (.c (.v (.bool p.isNone))):=⟨fun a w s=>by
 have rx:=s.val h;have ry:=s.val hy;refine ⟨.bool p.isNone,by unfold RD RA;exact ⟨rfl,rfl⟩,fun w' k=>?_⟩;simp [execOp,rx,ry,Sem.run_bind,hr,eqGuard]⟩
end
section
variable {P:Program} {c:Cx} {k:List Item} {f:Fm} {L:List Res} {ops:Array Oper} {l:List Oper} {T:TypeId} {ps:String} {af:Array Edge} {gd:Option (Nat × Bool)} {t:Nat}
theorem JO.callR {F:FuncId} {args:List Operand} {tys:Array TypeId} {ds0 ds:List D} {sp:Int} {st:Md.St} {Q:Option (Nat × Nat × List Nat)→Prop} [i:TyC P F] (hC:Con P F ds [] (fun x:{ x:Option (Nat × Nat × List Nat) // Q x }=>(rpD sp x.1,rpL st x.1))) (hw:Wants ops ⟨some t,.call ⟨.value (.func F),args.toArray,tys⟩,T,ps,af,gd⟩ f=true) (ht:t < c.N) (h:evDs f args=some ds0) (hle:LeDs ds0 ds)
  (h0:Q none→JO P c ops l k ((t,.tup [.c (.v (.pointer none)),.c (nI sp)]) :: f) L) (h1:∀ b N S,Q (some (b,N,S))→JO P c ops l k ((t,.tup [.c (.v (pt b)),.c (nI sp)]) :: f) (moT b N st S :: L)) :
  JO P c ops (⟨some t,.call ⟨.value (.func F),args.toArray,tys⟩,T,ps,af,gd⟩ :: l) k f L :=
 JO.call hC hw ht h hle (Ll:=[]) (Lr:=L) rfl fun x=>match x with
  | ⟨none,hx⟩=>h0 hx
  | ⟨some (b,N,S),hx⟩=>h1 b N S hx
end
theorem t_tells21 (p:List (List Pn.Op)) (l:List Sx.Mk):Pure Try.prog 3 [.c (opsA p),.c (.r 13 (l.map eM))] (.c (bI true)):=by
 have AL:=t_alive21;refine Con.intro Try.func3 rfl rfl rfl (fun ok e=>?_)
 by_cases a1:l.length≤200
 case neg =>
  have t1:decide ((l.length:Int) > 200)=true:=decide_eq_true (by omega)
  repeat (first | (refine K.call ?_;refine JO.pure (AL) rfl (qb rfl) rfl ?_ ?_;focus ((repeat ((exact LeDs.nil)));done)) | refine gn ?_)
  exact rtQ Try.func3
 have t1:decide ((l.length:Int) > 200)=false:=decide_eq_false (by omega)
 by_cases a2:p.length≤20
 case neg =>
  have t2:decide ((p.length:Int) > 20)=true:=decide_eq_true (by omega)
  repeat (first | (refine K.call ?_;refine JO.pure (AL) rfl (qb rfl) rfl ?_ ?_;focus ((repeat ((exact LeDs.nil)));done)) | refine gn ?_)
  exact rtQ Try.func3
 have t2:decide ((p.length:Int) > 20)=false:=decide_eq_false (by omega)
 repeat (first | (refine K.call ?_;refine JO.pure (AL) rfl (qb rfl) rfl ?_ ?_;focus ((repeat ((exact LeDs.nil)));done)) | refine gn ?_)
 refine J.loop (ι:={ k:Nat // k≤p.length∧∀ ops∈p.take k,ops.length≤40∧∀ o∈ops,o.cases.length≤20 }) (fun q=>[(30,.c (nI q.1)),(29,.c (nI p.length)),(28,.c (opsA p)),(1,.c (.r 13 (l.map eM))),(0,.c (opsA p))]) (fun q=>[]) (fun q=>p.length - q.1) ⟨0,Nat.zero_le _,by simp⟩ (fun X h=>h.weak ⟨rfl,rfl,rfl,rfl,rfl,trivial⟩) (fun q ih=>?_);obtain ⟨k,hk',hb⟩:=q;simp only at hk' ih ⊢
 by_cases hk:k < p.length
 ·have t3:decide ((k:Int) < (p.length:Int))=true:=decide_eq_true (by omega);obtain ⟨ops,ho⟩:∃ ops,p[k]?=some ops:=⟨_,List.getElem?_eq_getElem hk⟩
  have AP:=s_at (enc:=fun ops:List Pn.Op=>[A.r 6 (ops.map eOp)]) ho
  by_cases a3:ops.length≤40
  case neg =>
   have t4:decide ((ops.length:Int) > 40)=true:=decide_eq_true (by omega)
   repeat (refine gn ?_)
   exact rtQ Try.func3
  have t4:decide ((ops.length:Int) > 40)=false:=decide_eq_false (by omega)
  repeat (refine gn ?_)
  refine J.loop (ι:={ j:Nat // j≤ops.length∧∀ o∈ops.take j,o.cases.length≤20 }) (fun q=>[(39,.c (nI q.1)),(38,.c (nI ops.length)),(37,.c (.r 6 (ops.map eOp))),(30,.c (nI k)),(29,.c (nI p.length)),(28,.c (opsA p)),(1,.c (.r 13 (l.map eM))),(0,.c (opsA p))]) (fun q=>[]) (fun q=>ops.length - q.1) ⟨0,Nat.zero_le _,by simp⟩ (fun X h=>h.weak ⟨rfl,rfl,rfl,rfl,rfl,rfl,rfl,rfl,trivial⟩) (fun q ih2=>?_);obtain ⟨j,hj',hc⟩:=q;simp only at hj' ih2 ⊢
  by_cases hj:j < ops.length
  ·have t5:decide ((j:Int) < (ops.length:Int))=true:=decide_eq_true (by omega);obtain ⟨o,hoo⟩:∃ o,ops[j]?=some o:=⟨_,List.getElem?_eq_getElem hj⟩
   have AO:=s_at (enc:=eOp) hoo
   by_cases a4:o.cases.length≤20
   case neg =>
    have t6:decide ((o.cases.length:Int) > 20)=true:=decide_eq_true (by omega)
    repeat (first | (refine K.store ?_;refine JO.ld (Ld.storeW rfl rfl rfl (by exact rfl) (by exact rfl)) rfl (fun _=>?_)) | refine gmQ ?_ | intro _)
    exact rtQ Try.func3
   have t6:decide ((o.cases.length:Int) > 20)=false:=decide_eq_false (by omega);have ih3:=ih2 ⟨j + 1,by omega,fun x hx=>by
    rw [List.take_add_one,hoo] at hx;rcases List.mem_append.1 hx with hx | hx
    ·exact hc x hx
    ·have:x=o:=by simpa using hx
     rw [this];exact a4⟩ (by simp only;omega)
   clear ih ih2
   repeat (first | (refine K.store ?_;refine JO.ld (Ld.storeW rfl rfl rfl (by exact rfl) (by exact rfl)) rfl (fun _=>?_)) | refine gmQ ?_ | intro _)
   refine J.dropN 0 ?_;exact ih3.weak ⟨rfl,rfl,rfl,rfl,rfl,rfl,rfl,rfl,trivial⟩
  obtain rfl:j=ops.length:=by omega
  have t5:decide ((ops.length:Int) < (ops.length:Int))=false:=decide_eq_false (by omega);rw [List.take_length] at hc;have ih3:=ih ⟨k + 1,by omega,fun x hx=>by
   rw [List.take_add_one,ho] at hx;rcases List.mem_append.1 hx with hx | hx
   ·exact hb x hx
   ·have:x=ops:=by simpa using hx
    rw [this];exact ⟨a3,hc⟩⟩ (by simp only;omega)
  clear ih ih2
  repeat (refine gn ?_)
  exact ih3.weak ⟨rfl,rfl,rfl,rfl,rfl,trivial⟩
 obtain rfl:k=p.length:=by omega
 have t3:decide ((p.length:Int) < (p.length:Int))=false:=decide_eq_false (by omega);clear ih hk hk';rw [List.take_length] at hb;have hcs:∀ m∈l,Jg.inP p m=true→(Jg.opAt p m).cases.length≤1000:=fun m _ hi=>by
  obtain ⟨ops,o,g1,g2,_,_,g5⟩:=Jg.inP_get hi;rw [g5];have:=(hb ops (List.mem_of_getElem? g1)).2 o (List.mem_of_getElem? g2);omega
 have CR:=t_Replay p l (by omega) (by omega) hcs;have CD:=t_refReplay p l (by omega) (by omega) (fun ops h=>by have:=(hb ops h).1;omega) hcs;have C1:=t_Fits p l (by omega) (by omega);have C2:=t_refFits p l (by omega) (by omega) (fun ops h=>by have:=(hb ops h).1;omega);have CC:=t_Check p l (by omega) (by omega) hcs;have h8:=Jg.rp_len p l;generalize Jg.rp p l=z at CR CD CC h8;obtain ⟨T,sp⟩:=z;simp only at CR CD CC h8;generalize Jg.fits p l=F at C1 C2;have t4:(sp != sp)=false:=by simp
 have FF:(F != F)=false:=by simp
 repeat (refine gn ?_)
 refine JO.callR CR rfl (qb rfl) rfl (.cons .refl (.cons .refl .nil)) (fun hx=>?_) (fun b N S hx=>?_)
 ·have hx1:=hx.1;simp only [Option.isSome_none] at hx1;have t5:(sp == 0)=false:=hx1.symm;have t6:(sp != 0)=true:=by simpa using t5
  rw [t5] at CC;clear hx hx1
  repeat (first | (refine K.store ?_;refine JO.ld (Ld.storeW rfl rfl rfl (by exact rfl) (by exact rfl)) rfl (fun _=>?_)) | (refine K.binOp ?_;first | refine jq rfl rfl rfl ((Qt.neB rfl rfl).eq (congrArg (fun z=>D.c (.v (.bool z))) FF)) ?_ | refine jq rfl rfl rfl (Qt.eqP rfl rfl (fun w=>rfl)) ?_) | (refine K.call ?_;first | (refine JO.callI (CD) rfl (qb rfl) rfl (by (exact LeDs.cons .refl (.cons .refl .nil))) ?_;intro _) | (refine JO.ld (Ld.pure (C1) (qb rfl) rfl (by (exact LeDs.cons .refl (.cons .refl .nil)))) rfl (fun _=>?_)) | (refine JO.ld (Ld.pure (C2) (qb rfl) rfl (by (exact LeDs.cons .refl (.cons .refl .nil)))) rfl (fun _=>?_)) | (refine JO.ld (Ld.pure (CC) (qb rfl) rfl (by (exact LeDs.cons .refl (.cons .refl .nil)))) rfl (fun _=>?_))) | refine gmQ ?_ | intro _)
  exact rtQ Try.func3
 have hx1:=hx.1;simp only [Option.isSome_some] at hx1;have t5:(sp == 0)=true:=hx1.symm;have t6:(sp != 0)=false:=by simpa using t5
 have s0:sp=0:=by simpa using t5
 have hN:=hx.2 _ rfl;rw [t5] at CC;clear hx hx1;have MC:=m_chans b N T S (by simp only at hN;omega) (by omega)
 repeat (first | (refine K.store ?_;refine JO.ld (Ld.storeW rfl rfl rfl (by exact rfl) (by exact rfl)) rfl (fun _=>?_)) | (refine K.binOp ?_;first | refine jq rfl rfl rfl ((Qt.neB rfl rfl).eq (congrArg (fun z=>D.c (.v (.bool z))) FF)) ?_ | refine jq rfl rfl rfl (Qt.eqP rfl rfl (fun w=>rfl)) ?_) | (refine K.call ?_;first | (refine JO.callI (CD) rfl (qb rfl) rfl (by (exact LeDs.cons .refl (.cons .refl .nil))) ?_;intro _) | (refine JO.ld (Ld.pure (C1) (qb rfl) rfl (by (exact LeDs.cons .refl (.cons .refl .nil)))) rfl (fun _=>?_)) | (refine JO.ld (Ld.pure (C2) (qb rfl) rfl (by (exact LeDs.cons .refl (.cons .refl .nil)))) rfl (fun _=>?_)) | (refine JO.ld (Ld.pure (CC) (qb rfl) rfl (by (exact LeDs.cons .refl (.cons .refl .nil)))) rfl (fun _=>?_)) | (refine JO.ld (Ld.callT (MC) (qb rfl) rfl (LeDs.cons .refl .nil)) rfl (fun _=>?_))) | refine gmQ ?_ | intro _)
 rename_i q b11 _ _ _ _ b14 _;obtain ⟨⟨q,md⟩,hq⟩:=q;have hrel:=hq s0;simp only at hrel ⊢;refine J.loop (ι:={ z:Nat × Value // z.1≤T.chans.length }) (fun z=>[(95,.c (nI z.1.1)),(94,.c (nI T.chans.length)),(93,.c (.r 3 (T.chans.map eCh))),(14,.c (.v z.1.2)),(11,.c (.v (.pointer (some ⟨b11,0,none⟩)))),(9,.c (.v (pt b))),(0,.c (opsA p))])
  (fun z=>[.row z.1.2 45 3 ((T.chans.take z.1.1).map eCh),.box b11 35 (eMr q),moT b N T S]) (fun z=>T.chans.length - z.1.1) ⟨(0,.slice (some ⟨b14,0,none⟩) 0 0),Nat.zero_le _⟩ (fun X h=>h.weak ⟨rfl,rfl,rfl,rfl,rfl,rfl,rfl,trivial⟩) (fun z ih=>?_)
 obtain ⟨⟨j,v⟩,hj'⟩:=z;simp only at hj' ih ⊢
 by_cases hj:j < T.chans.length
 ·have t7:decide ((j:Int) < (T.chans.length:Int))=true:=decide_eq_true (by omega);obtain ⟨c,hc⟩:∃ c,T.chans[j]?=some c:=⟨_,List.getElem?_eq_getElem hj⟩
  have AC:=s_at (enc:=eCh) hc;have ln:((T.chans.take j).map eCh).length=j:=by rw [List.length_map,List.length_take];omega
  have ev:(T.chans.take (j + 1)).map eCh=(T.chans.take j).map eCh ++ [eCh c]:=by rw [List.take_add_one,hc];simp
  have ih1:=fun v':Value=>ih ⟨(j + 1,v'),by simp only;omega⟩ (by simp only;omega)
  clear ih;simp only [ev] at ih1;generalize (T.chans.take j).map eCh=R at ln ih1 ⊢
  repeat (first | (refine K.store ?_;refine JO.ld (Ld.storeW rfl rfl rfl (by exact rfl) (by exact rfl)) rfl (fun _=>?_)) | (refine K.lit ?_;refine JO.ld (Ld.lit1R (qb rfl) rfl rfl rfl rfl rfl) rfl (fun _=>?_)) | (refine K.bi ?_;refine JO.ld (Ld.appOw (qb rfl) rfl rfl .read (by (simp;omega))) rfl (fun _=>?_)) | refine gmQ ?_ | intro _)
  refine J.dropN 1 ?_;exact (ih1 _).weak ⟨rfl,rfl,rfl,rfl,rfl,rfl,rfl,trivial⟩
 obtain rfl:j=T.chans.length:=by omega
 have t7:decide ((T.chans.length:Int) < (T.chans.length:Int))=false:=decide_eq_false (by omega);rw [List.take_length];clear ih hj hj';refine J.frzS 14 rfl ?_
 repeat (refine gn ?_)
 refine J.loop (ι:={ g:Nat // g≤p.length }) (fun z=>[(106,.c (nI z.1)),(105,.c (nI p.length)),(14,.c (.r 3 (T.chans.map eCh))),(11,.c (.v (.pointer (some ⟨b11,0,none⟩)))),(9,.c (.v (pt b)))])
  (fun z=>[.box b11 35 (eMr q),moT b N T S]) (fun z=>p.length - z.1) ⟨0,Nat.zero_le _⟩ (fun X h=>h.weak ⟨rfl,rfl,rfl,rfl,rfl,trivial⟩) (fun z ih=>?_)
 obtain ⟨g,hg'⟩:=z;simp only at hg' ih ⊢
 by_cases hg:g < p.length
 ·have t8:decide ((g:Int) < (p.length:Int))=true:=decide_eq_true (by omega);have MW:=m_waits b N T S (g:Int) (wfG (by omega) (by omega));have RW:=r_waits T q hrel (g:Int);generalize (T.waits (g:Int)).isSome=W at MW RW;have WW:(W != W)=false:=by simp
  repeat (refine gn ?_)
  refine J.draw (by kernel_rfl) rfl ?_;refine JW.baseT [1] none ?_;refine tk 0 ?_;refine tk 1 ?_;refine tk 3 ?_;refine tk 4 ?_;refine jl 2 rfl rfl rfl rfl (Ld.callT MW (qb rfl) rfl (.cons .refl (.cons .refl .nil))) (.tres rfl) (fun _=>?_);refine jmQ 5 (RW) ?_;refine jk 6 rfl rfl rfl rfl ((Qt.neB rfl rfl).eq (congrArg (fun z=>D.c (.v (.bool z))) WW)) ?_;refine dnQ ?_
  all_goals
   repeat (refine gn ?_)
   exact (ih ⟨g + 1,by omega⟩ (by simp only;omega)).weak ⟨rfl,rfl,rfl,rfl,rfl,trivial⟩
 obtain rfl:g=p.length:=by omega
 have t8:decide ((p.length:Int) < (p.length:Int))=false:=decide_eq_false (by omega);have RS:Pure Try.prog 13 [.c (.r 3 (T.chans.map eCh)),.c (.r 3 (q.chans.map eCh))] (.c (bI true)):=by
  have h:=r_same T.chans;rw [← hrel.1];exact h
 repeat (first | (refine K.call ?_;refine JO.ld (Ld.pure (RS) (qb rfl) rfl (by (exact LeDs.cons .refl (.cons .refl .nil)))) rfl (fun _=>?_)) | refine gn ?_)
 exact rtQ Try.func3
theorem si_opJ:Si eOp opE:=fun ok w cs o U r hS=>by
 obtain ⟨vc,rfl,g⟩:=r;exact RC.cons (RA.w rfl) (RC.cons (RA.w rfl) (RC.cons (RA.w rfl) (RC.cons (RA.w rfl) (RC.cons (si_cs.ra g hS) (RC.cons (RA.w rfl) RC.nil)))))
theorem si_opsJ:Si (fun l:List Pn.Op=>[A.r 6 (l.map eOp)]) opsE:=si_opJ.row
theorem judgeTells_walk (w:World) (v:Value) (p:List (List Pn.Op)) (U:List Nat) (hp:GV opsE 1 w v p U) (u:Value) (l:List Sx.Mk) (V:List Nat) (hl:GV markE 13 w u l V):Calls Try.prog 3 #[v,u] w fun e w'=>e=.returned (.bool true)∧Keeps [] w w' :=
 law1 (t_tells21 p l) (xs:=[v,u]) (RDs.cons (by unfold RD;exact si_opsJ.ra hp fun _ _=>trivial) (RDs.cons (by unfold RD;exact si_mark.ra hl fun _ _=>trivial) RDs.nil))
end Fl
end Go.Proofs.Ytdibmkjoaghafaa
