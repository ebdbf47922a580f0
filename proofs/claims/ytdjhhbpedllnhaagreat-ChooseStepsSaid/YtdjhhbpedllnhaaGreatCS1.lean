/-
  What the laws need, part CS1.
  Conditions: none.
-/
import Derived.Test.YtdjhhbpedllnhaaGreatB23
import Derived.Laws.StructEq
set_option linter.unusedVariables false
set_option linter.unusedSimpArgs false
set_option linter.unnecessarySimpa false
set_option maxHeartbeats 2000000
namespace Go.Proofs.YtdjhhbpedllnhaaGreat
namespace Fl
open Sx
instance:aG Tryz.prog 16:={}
instance:aG Tryz.prog 27:={}
instance:aG Tryz.prog 65:={}
instance:aG Tryz.prog 66:={}
instance:aG Tryz.prog 67:={}
instance:aG Tryz.prog 113:={}
instance:aG Tryz.prog 185:={}
end Fl
open Go.RowKit
namespace Fl
open Sx
section
variable {α:Type} {E:World→List Value→α→List Nat→Prop} {enc:α→List A}
end
end Fl
open Go.RowKit
namespace Fl
open Sx
set_option maxRecDepth 100000
section
variable {P:Program} {c:Cx} {k:List Item} {f:Fm} {L L2:List aj} {T:TypeId} {ps:String} {af:Array Edge} {gd:Option (Nat × Bool)} {t:Nat}
end
end Fl
open Go.RowKit
namespace Fl
open Sx
set_option maxRecDepth 100000
section
variable {P:Program} {c:Cx} {f:Fm} {L:List aj} {T:TypeId} {ps:String} {af:Array Edge} {gd:Option (Nat × Bool)} {t:Nat}
theorem Qt.tr {x y:Operand} {X Y:Nat} {kd:IntKind} {m:Int} (h:bg f x=some (.c (.v (.int kd m)))) (hy:bg f y=some (.c (.v (.int kd m)))):Qt P c [] ⟨t,.binOp .neq X x y Y,T,ps,af,gd⟩ f L (.c (.v (.bool false))) :=
 Qt.cmp h hy (by simp [u7])
theorem Qt.Wq {x y:Operand} {X Y:Nat} {kd:IntKind} {m:Int} (h:bg f x=some (.c (.v (.int kd m)))) (hy:bg f y=some (.c (.v (.int kd m)))):Qt P c [] ⟨t,.binOp .eql X x y Y,T,ps,af,gd⟩ f L (.c (.v (.bool true))) :=
 Qt.cmp h hy (by simp [u7])
theorem Qt.Mb {x y:Operand} {X Y:Nat} {m:Bool} [i:xm P X] (h:bg f x=some (.c (.v (.bool m)))) (hy:bg f y=some (.c (.v (.bool m)))):Qt P c [] ⟨t,.binOp .neq X x y Y,T,ps,af,gd⟩ f L (.c (.v (.bool false))) :=
 (Qt.xw h hy).eq (by simp)
theorem Qt.Wr {x y:Operand} {X Y:Nat} {m:Bool} [i:xm P X] (h:bg f x=some (.c (.v (.bool m)))) (hy:bg f y=some (.c (.v (.bool m)))):Qt P c [] ⟨t,.binOp .eql X x y Y,T,ps,af,gd⟩ f L (.c (.v (.bool true))) :=
 (Qt.xu h hy).eq (by simp)
theorem rY {ok:Nat→Prop} {w:World}:∀ {zs:List Value} {xs:List Value},RC ok w (vs zs) xs→xs=zs
 | [],xs,h=>h.n0
 | z :: zs,xs,h=>by
  obtain ⟨ys,rfl,r⟩:=RC.c1 (fF:=vs zs) h;rw [rY r]
theorem Qt.wS {x y:Operand} {X Y:Nat} (zs:List Value) (h:bg f x=some (.agg (vs zs))) (hy:bg f y=some (.agg (vs zs))) (hr:∀ w,(binOp .neq X (.agg zs.toArray) (.agg zs.toArray)).run P w=.ok (.bool false) w) (hg:P.eqGuardType P.depth X=false):Qt P c [] ⟨t,.binOp .neq X x y Y,T,ps,af,gd⟩ f L (.c (.v (.bool false))):=⟨fun a w s=>by
 have rx:=s.ev h;have ry:=s.ev hy;unfold RD at rx ry;obtain ⟨v1,e1,r1⟩:=rx;obtain ⟨v2,e2,r2⟩:=ry;rw [rY r1] at e1;rw [rY r2] at e2;refine ⟨.bool false,by unfold RD RA;exact ⟨rfl,rfl⟩,fun w' k=>?_⟩;simp [execOp,e1,e2,hr,Sem.run_bind,run_eqGuard_agg _ _ _ _ _ _ _ hg]⟩
theorem Qt.Ws {x y:Operand} {X Y:Nat} (zs:List Value) (h:bg f x=some (.agg (vs zs))) (hy:bg f y=some (.agg (vs zs))) (hr:∀ w,(binOp .eql X (.agg zs.toArray) (.agg zs.toArray)).run P w=.ok (.bool true) w) (hg:P.eqGuardType P.depth X=false):Qt P c [] ⟨t,.binOp .eql X x y Y,T,ps,af,gd⟩ f L (.c (.v (.bool true))):=⟨fun a w s=>by
 have rx:=s.ev h;have ry:=s.ev hy;unfold RD at rx ry;obtain ⟨v1,e1,r1⟩:=rx;obtain ⟨v2,e2,r2⟩:=ry;rw [rY r1] at e1;rw [rY r2] at e2;refine ⟨.bool true,by unfold RD RA;exact ⟨rfl,rfl⟩,fun w' k=>?_⟩;simp [execOp,e1,e2,hr,Sem.run_bind,run_eqGuard_agg _ _ _ _ _ _ _ hg]⟩
end
theorem Wu:Tryz.prog.underlying 24=some (.struct (Tryz.prog.fieldsOf 24)):=by kernel_rfl
theorem Wv:Tryz.prog.stoodInHeld 24=false:=by kernel_rfl
theorem Ww:Tryz.prog.eqGuardType Tryz.prog.depth 24=false:=by kernel_rfl
theorem Wx:∃ f0 f1:Field,(Tryz.prog.fieldsOf 24).toList=[f0,f1]∧(f0.name≠"_"∧f1.name≠"_")∧(f0.type=3∧f1.type=3)∧f0.offset=0∧f1.offset=1:=by
 unfold Program.fieldsOf;rw [Tryz.underlying24];exact ⟨_,_,rfl,⟨by decide,by decide⟩,⟨rfl,rfl⟩,rfl,rfl⟩
theorem Wy (w:World) (x0:Int) (x1:Int):(binOp .neq 24 (.agg #[.int .i64 x0,.int .i64 x1]) (.agg #[.int .i64 x0,.int .i64 x1])).run Tryz.prog w=.ok (.bool false) w:=by
 obtain ⟨f0,f1,hf,⟨n0,n1⟩,⟨t0,t1⟩,o0,o1⟩:=Wx;rw [run_neq_struct,run_equalIn_struct _ _ _ _ _ Wu Wv,hf];have hi:=Tryz.underlying3;have dM:=Tryz.underlying2;have hb:=Tryz.underlying4;simp [Op.eqFields,n0,t0,o0,n1,t1,o1,go_sem,hi,dM,hb]
theorem Wz:Tryz.prog.underlying 52=some (.struct (Tryz.prog.fieldsOf 52)):=by kernel_rfl
theorem WA:Tryz.prog.stoodInHeld 52=false:=by kernel_rfl
theorem WB:Tryz.prog.eqGuardType Tryz.prog.depth 52=false:=by kernel_rfl
theorem WC:∃ f0 f1 f2 f3 f4 f5 f6:Field,(Tryz.prog.fieldsOf 52).toList=[f0,f1,f2,f3,f4,f5,f6]∧(f0.name≠"_"∧f1.name≠"_"∧f2.name≠"_"∧f3.name≠"_"∧f4.name≠"_"∧f5.name≠"_"∧f6.name≠"_")∧(f0.type=4∧f1.type=3∧f2.type=3∧f3.type=3∧f4.type=4∧f5.type=2∧f6.type=4)∧f0.offset=0∧f1.offset=1∧f2.offset=2∧f3.offset=3∧f4.offset=4∧f5.offset=5∧f6.offset=6:=by
 unfold Program.fieldsOf;rw [Tryz.underlying52];exact ⟨_,_,_,_,_,_,_,rfl,⟨by decide,by decide,by decide,by decide,by decide,by decide,by decide⟩,⟨rfl,rfl,rfl,rfl,rfl,rfl,rfl⟩,rfl,rfl,rfl,rfl,rfl,rfl,rfl⟩
theorem WE (w:World) (x0:Bool) (x1:Int) (x2:Int) (x3:Int) (x4:Bool) (x5:Int) (x6:Bool):(binOp .neq 52 (.agg #[.bool x0,.int .i64 x1,.int .i64 x2,.int .i64 x3,.bool x4,.int .i64 x5,.bool x6]) (.agg #[.bool x0,.int .i64 x1,.int .i64 x2,.int .i64 x3,.bool x4,.int .i64 x5,.bool x6])).run Tryz.prog w=.ok (.bool false) w:=by
 obtain ⟨f0,f1,f2,f3,f4,f5,f6,hf,⟨n0,n1,n2,n3,n4,n5,n6⟩,⟨t0,t1,t2,t3,t4,t5,t6⟩,o0,o1,o2,o3,o4,o5,o6⟩:=WC;rw [run_neq_struct,run_equalIn_struct _ _ _ _ _ Wz WA,hf];have hi:=Tryz.underlying3;have dM:=Tryz.underlying2;have hb:=Tryz.underlying4;simp [Op.eqFields,n0,t0,o0,n1,t1,o1,n2,t2,o2,n3,t3,o3,n4,t4,o4,n5,t5,o5,n6,t6,o6,go_sem,hi,dM,hb]
theorem WH:Tryz.prog.underlying 72=some (.struct (Tryz.prog.fieldsOf 72)):=by kernel_rfl
theorem WI:Tryz.prog.stoodInHeld 72=false:=by kernel_rfl
theorem WJ:Tryz.prog.eqGuardType Tryz.prog.depth 72=false:=by kernel_rfl
theorem WK:∃ f0 f1 f2:Field,(Tryz.prog.fieldsOf 72).toList=[f0,f1,f2]∧(f0.name≠"_"∧f1.name≠"_"∧f2.name≠"_")∧(f0.type=4∧f1.type=3∧f2.type=2)∧f0.offset=0∧f1.offset=1∧f2.offset=2:=by
 unfold Program.fieldsOf;rw [Tryz.underlying72];exact ⟨_,_,_,rfl,⟨by decide,by decide,by decide⟩,⟨rfl,rfl,rfl⟩,rfl,rfl,rfl⟩
theorem WL (w:World) (x0:Bool) (x1:Int) (x2:Int):(binOp .neq 72 (.agg #[.bool x0,.int .i64 x1,.int .i64 x2]) (.agg #[.bool x0,.int .i64 x1,.int .i64 x2])).run Tryz.prog w=.ok (.bool false) w:=by
 obtain ⟨f0,f1,f2,hf,⟨n0,n1,n2⟩,⟨t0,t1,t2⟩,o0,o1,o2⟩:=WK;rw [run_neq_struct,run_equalIn_struct _ _ _ _ _ WH WI,hf];have hi:=Tryz.underlying3;have dM:=Tryz.underlying2;have hb:=Tryz.underlying4;simp [Op.eqFields,n0,t0,o0,n1,t1,o1,n2,t2,o2,go_sem,hi,dM,hb]
theorem Cu:Tryz.prog.underlying 45=some (.struct (Tryz.prog.fieldsOf 45)):=by kernel_rfl
theorem Cv:Tryz.prog.stoodInHeld 45=false:=by kernel_rfl
theorem Gi:Tryz.prog.eqGuardType Tryz.prog.depth 45=false:=by kernel_rfl
theorem Cw:∃ f0 f1 f2 f3 f4:Field,(Tryz.prog.fieldsOf 45).toList=[f0,f1,f2,f3,f4]∧(f0.name≠"_"∧f1.name≠"_"∧f2.name≠"_"∧f3.name≠"_"∧f4.name≠"_")∧(f0.type=3∧f1.type=3∧f2.type=2∧f3.type=4∧f4.type=3)∧f0.offset=0∧f1.offset=1∧f2.offset=2∧f3.offset=3∧f4.offset=4:=by
 unfold Program.fieldsOf;rw [Tryz.underlying45];exact ⟨_,_,_,_,_,rfl,⟨by decide,by decide,by decide,by decide,by decide⟩,⟨rfl,rfl,rfl,rfl,rfl⟩,rfl,rfl,rfl,rfl,rfl⟩
theorem WM (w:World) (x0:Int) (x1:Int) (x2:Int) (x3:Bool) (x4:Int):(binOp .eql 45 (.agg #[.int .i64 x0,.int .i64 x1,.int .i64 x2,.bool x3,.int .i64 x4]) (.agg #[.int .i64 x0,.int .i64 x1,.int .i64 x2,.bool x3,.int .i64 x4])).run Tryz.prog w=.ok (.bool true) w:=by
 obtain ⟨f0,f1,f2,f3,f4,hf,⟨n0,n1,n2,n3,n4⟩,⟨t0,t1,t2,t3,t4⟩,o0,o1,o2,o3,o4⟩:=Cw;rw [run_eql_struct,run_equalIn_struct _ _ _ _ _ Cu Cv,hf];have hi:=Tryz.underlying3;have dM:=Tryz.underlying2;have hb:=Tryz.underlying4;simp [Op.eqFields,n0,t0,o0,n1,t1,o1,n2,t2,o2,n3,t3,o3,n4,t4,o4,go_sem,hi,dM,hb]
theorem WN:Tryz.prog.underlying 54=some (.struct (Tryz.prog.fieldsOf 54)):=by kernel_rfl
theorem WO:Tryz.prog.stoodInHeld 54=false:=by kernel_rfl
theorem WQ:Tryz.prog.eqGuardType Tryz.prog.depth 54=false:=by kernel_rfl
theorem WT:∃ f0 f1 f2 f3 f4 f5 f6 f7 f8:Field,(Tryz.prog.fieldsOf 54).toList=[f0,f1,f2,f3,f4,f5,f6,f7,f8]∧(f0.name≠"_"∧f1.name≠"_"∧f2.name≠"_"∧f3.name≠"_"∧f4.name≠"_"∧f5.name≠"_"∧f6.name≠"_"∧f7.name≠"_"∧f8.name≠"_")∧(f0.type=3∧f1.type=3∧f2.type=3∧f3.type=3∧f4.type=3∧f5.type=3∧f6.type=3∧f7.type=3∧f8.type=45)∧f0.offset=0∧f1.offset=1∧f2.offset=2∧f3.offset=3∧f4.offset=4∧f5.offset=5∧f6.offset=6∧f7.offset=7∧f8.offset=8:=by
 unfold Program.fieldsOf;rw [Tryz.underlying54];exact ⟨_,_,_,_,_,_,_,_,_,rfl,⟨by decide,by decide,by decide,by decide,by decide,by decide,by decide,by decide,by decide⟩,⟨rfl,rfl,rfl,rfl,rfl,rfl,rfl,rfl,rfl⟩,rfl,rfl,rfl,rfl,rfl,rfl,rfl,rfl,rfl⟩
theorem WU (w:World) (a0 a1 a2 a3 a4 a5 a6 a7 y0 y1 y2 y4:Int) (y3:Bool):(part 45 #[.int .i64 a0,.int .i64 a1,.int .i64 a2,.int .i64 a3,.int .i64 a4,.int .i64 a5,.int .i64 a6,.int .i64 a7,.int .i64 y0,.int .i64 y1,.int .i64 y2,.bool y3,.int .i64 y4] 8).run Tryz.prog w=.ok (.agg #[.int .i64 y0,.int .i64 y1,.int .i64 y2,.bool y3,.int .i64 y4]) w:=by
 have hu:=Tryz.underlying45;have h5:iQ Tryz.prog 45=some 5:=by kernel_rfl
 simp [go_sem,part,hu]
theorem WV (w:World) (x0 x1 x2 x3 x4 x5 x6 x7 y0 y1 y2 y4:Int) (y3:Bool):(binOp .neq 54 (.agg #[.int .i64 x0,.int .i64 x1,.int .i64 x2,.int .i64 x3,.int .i64 x4,.int .i64 x5,.int .i64 x6,.int .i64 x7,.int .i64 y0,.int .i64 y1,.int .i64 y2,.bool y3,.int .i64 y4]) (.agg #[.int .i64 x0,.int .i64 x1,.int .i64 x2,.int .i64 x3,.int .i64 x4,.int .i64 x5,.int .i64 x6,.int .i64 x7,.int .i64 y0,.int .i64 y1,.int .i64 y2,.bool y3,.int .i64 y4])).run Tryz.prog w=.ok (.bool false) w:=by
 obtain ⟨f0,f1,f2,f3,f4,f5,f6,f7,f8,hf,⟨n0,n1,n2,n3,n4,n5,n6,n7,n8⟩,⟨t0,t1,t2,t3,t4,t5,t6,t7,t8⟩,o0,o1,o2,o3,o4,o5,o6,o7,o8⟩:=WT;obtain ⟨g0,g1,g2,g3,g4,hg,⟨m0,m1,m2,m3,m4⟩,⟨s0,s1,s2,s3,s4⟩,q0,q1,q2,q3,q4⟩:=Cw;rw [run_neq_struct,run_equalIn_struct _ _ _ _ _ WN WO,hf];have hi:=Tryz.underlying3;have dM:=Tryz.underlying2;have hb:=Tryz.underlying4;simp [Op.eqFields,n0,t0,o0,n1,t1,o1,n2,t2,o2,n3,t3,o3,n4,t4,o4,n5,t5,o5,n6,t6,o6,n7,t7,o7,n8,t8,o8,WU,run_equalIn_struct _ _ _ _ _ Cu Cv,hg,m0,m1,m2,m3,m4,s0,s1,s2,s3,s4,q0,q1,q2,q3,q4,go_sem,hi,dM,hb]
end Fl
open Go.RowKit
namespace Fl
open Sx
set_option maxRecDepth 100000
theorem jy {α:Type} {l:List α} {enc:α→List A} {k:Nat} {x:α} (h:l[k]?=some x):(l.map enc)[((k:Int)).toNat]?=some (enc x):=by rw [Int.toNat_natCast,List.getElem?_map,h];rfl
theorem tu (l:List Int) (hl:l.length≤100000):Pure Tryz.prog 65 [.c (ints l),.c (ints l)] (.c (bI true)):=by
 refine an.intro Tryz.func65 rfl rfl rfl (fun ok e=>?_)
 repeat (first | (refine K.binOp ?_;refine jq rfl rfl rfl (Qt.tr rfl rfl) ?_) | refine gn ?_)
 refine J.loop (ι:={ k:Nat // k≤(l).length }) (fun p=>[(13,.c (nI p.1)),(12,.c (nI (l).length)),(0,.c (ints l)),(1,.c (ints l))]) (fun _=>[]) (fun p=>(l).length - p.1) ⟨0,Nat.zero_le _⟩ (fun X h=>h.aW ⟨rfl,rfl,rfl,rfl,trivial⟩) (fun p ih=>?_);obtain ⟨k,hk⟩:=p;simp only at hk ih ⊢
 by_cases bF:k < (l).length
 ·have t1:(decide ((k:Int) < ((l).length:Int)))=true:=by simpa using bF
  obtain ⟨x,hx⟩:∃ x,(l)[k]?=some x:=⟨_,List.getElem?_eq_getElem bF⟩
  have hm:=List.mem_of_getElem? hx
  repeat (refine gn ?_)
  refine J.draw (by kernel_rfl) rfl ?_;refine JW.base none ?_;refine tk 0 ?_;refine tk 1 ?_;refine JD.take 2 rfl rfl (by kernel_rfl) rfl (qb rfl) (Qt.cI rfl rfl (by omega) (jy hx)) rfl ?_;refine tk 3 ?_;refine tk 4 ?_;refine tk 5 ?_;refine JD.take 6 rfl rfl (by kernel_rfl) rfl (qb rfl) (Qt.cI rfl rfl (by omega) (jy hx)) rfl ?_;refine tk 7 ?_;refine JD.take 8 rfl rfl (by kernel_rfl) rfl (qb rfl) (Qt.tr rfl rfl) rfl ?_;refine bE ?_
  repeat (refine gn ?_)
  exact (ih ⟨k + 1,by omega⟩ (by simp only;omega)).aW ⟨rfl,rfl,rfl,rfl,trivial⟩
 ·have t1:(decide ((k:Int) < ((l).length:Int)))=false:=by simpa using bF
  obtain rfl:k=(l).length:=by omega
  repeat (refine gn ?_)
  exact aD Tryz.func65
theorem WW (o:Pn.Op) (hl:o.cases.length≤100000):Pure Tryz.prog 185 [.agg (dH o),.agg (dH o)] (.c (bI true)):=by
 refine an.intro Tryz.func185 rfl rfl rfl (fun ok e=>?_)
 repeat (first | (refine K.binOp ?_;first | refine jq rfl rfl rfl (Qt.tr rfl rfl) ?_ | refine jq rfl rfl rfl (Qt.Mb rfl rfl) ?_) | refine ay ?_ | intro _)
 rename_i b3 b2;refine J.loop (ι:={ k:Nat // k≤(o.cases).length }) (fun p=>[(51,.c (nI p.1)),(50,.c (nI (o.cases).length)),(2,.c (.v (.pointer (some ⟨b3,0,none⟩)))),(3,.c (.v (.pointer (some ⟨b2,0,none⟩))))]) (fun _=>[.box b2 50 (dH o),.box b3 50 (dH o)]) (fun p=>(o.cases).length - p.1) ⟨0,Nat.zero_le _⟩ (fun X h=>h.aW ⟨rfl,rfl,rfl,rfl,trivial⟩) (fun p ih=>?_);obtain ⟨k,hk⟩:=p;simp only at hk ih ⊢
 by_cases bF:k < (o.cases).length
 ·have t1:(decide ((k:Int) < ((o.cases).length:Int)))=true:=by simpa using bF
  obtain ⟨x,hx⟩:∃ x,(o.cases)[k]?=some x:=⟨_,List.getElem?_eq_getElem bF⟩
  have hm:=List.mem_of_getElem? hx
  repeat (refine gn ?_)
  refine J.draw (by kernel_rfl) rfl ?_;refine JW.base none ?_;refine tk 0 ?_;refine tk 1 ?_;refine tk 2 ?_;refine JD.take 3 rfl rfl (by kernel_rfl) rfl (qb rfl) (Qt.cI rfl rfl (by omega) (jy hx)) rfl ?_;refine tk 4 ?_;refine tk 5 ?_;refine tk 6 ?_;refine tk 7 ?_;refine JD.take 8 rfl rfl (by kernel_rfl) rfl (qb rfl) (Qt.cI rfl rfl (by omega) (jy hx)) rfl ?_;refine tk 9 ?_;refine JD.take 10 rfl rfl (by kernel_rfl) rfl (qb rfl) (Qt.wS [.bool x.send,.int .i64 x.ch,.int .i64 x.v] rfl rfl (fun w=>WL w _ _ _) WJ) rfl ?_;refine bE ?_
  repeat (refine gn ?_)
  exact (ih ⟨k + 1,by omega⟩ (by simp only;omega)).aW ⟨rfl,rfl,rfl,rfl,trivial⟩
 ·have t1:(decide ((k:Int) < ((o.cases).length:Int)))=false:=by simpa using bF
  obtain rfl:k=(o.cases).length:=by omega
  repeat (refine gn ?_)
  exact aD Tryz.func185
theorem WX (l:List Pn.Op) (hl:l.length≤100000) (hc:∀ o∈l,o.cases.length≤100000):Pure Tryz.prog 113 [.c (.r 6 (l.map dH)),.c (.r 6 (l.map dH))] (.c (bI true)):=by
 refine an.intro Tryz.func113 rfl rfl rfl (fun ok e=>?_)
 repeat (first | (refine K.binOp ?_;refine jq rfl rfl rfl (Qt.tr rfl rfl) ?_) | refine gn ?_)
 refine J.loop (ι:={ k:Nat // k≤(l).length }) (fun p=>[(13,.c (nI p.1)),(12,.c (nI (l).length)),(0,.c (.r 6 (l.map dH))),(1,.c (.r 6 (l.map dH)))]) (fun _=>[]) (fun p=>(l).length - p.1) ⟨0,Nat.zero_le _⟩ (fun X h=>h.aW ⟨rfl,rfl,rfl,rfl,trivial⟩) (fun p ih=>?_);obtain ⟨k,hk⟩:=p;simp only at hk ih ⊢
 by_cases bF:k < (l).length
 ·have t1:(decide ((k:Int) < ((l).length:Int)))=true:=by simpa using bF
  obtain ⟨x,hx⟩:∃ x,(l)[k]?=some x:=⟨_,List.getElem?_eq_getElem bF⟩
  have hm:=List.mem_of_getElem? hx
  repeat (refine gn ?_)
  refine J.draw (by kernel_rfl) rfl ?_;refine JW.base none ?_;refine tk 0 ?_;refine tk 1 ?_;refine JD.take 2 rfl rfl (by kernel_rfl) rfl (qb rfl) (Qt.cI rfl rfl (by omega) (jy hx)) rfl ?_;refine tk 3 ?_;refine tk 4 ?_;refine tk 5 ?_;refine JD.take 6 rfl rfl (by kernel_rfl) rfl (qb rfl) (Qt.cI rfl rfl (by omega) (jy hx)) rfl ?_;refine tk 7 ?_;refine jl 8 rfl rfl rfl rfl (Ld.pure (WW x (hc x hm)) (qb rfl) rfl (by repeat (first | exact aJ.nil | refine aJ.cons (dU.agg (by repeat (first | exact .nil | refine .cons .refl ?_))) ?_))) .none (fun _=>?_);refine jk 9 rfl rfl rfl rfl (Qt.not rfl) ?_;refine bE ?_
  repeat (refine gn ?_)
  exact (ih ⟨k + 1,by omega⟩ (by simp only;omega)).aW ⟨rfl,rfl,rfl,rfl,trivial⟩
 ·have t1:(decide ((k:Int) < ((l).length:Int)))=false:=by simpa using bF
  obtain rfl:k=(l).length:=by omega
  repeat (refine gn ?_)
  exact aD Tryz.func113
theorem WY (g:Gr) (h1:g.ops.length≤100000) (h2:∀ o∈g.ops,o.cases.length≤100000) (h3:g.order.length≤100000) (h4:g.aB.length≤100000) (h5:g.aq.length≤100000) (h6:g.au.length≤100000):Pure Tryz.prog 66 [.agg (eG g),.agg (eG g)] (.c (bI true)):=by
 have C1:=WX g.ops h1 h2;have C3:=tu g.order h3;have C4:=tu g.aB h4;have C5:=tu g.aq h5;have C6:=tu g.au h6;refine an.intro Tryz.func66 rfl rfl rfl (fun ok e=>?_)
 repeat (first | (refine K.binOp ?_;first | refine jq rfl rfl rfl (Qt.Wq rfl rfl) ?_ | refine jq rfl rfl rfl (Qt.Wr rfl rfl) ?_ | refine jq rfl rfl rfl (Qt.Ws [.int .i64 g.res.code,.int .i64 g.res.cs,.int .i64 g.res.v,.bool g.res.ok,.int .i64 g.res.n] rfl rfl (fun w=>WM w _ _ _ _ _) Gi) ?_) | refine aX (C1) ?_ | refine aX (C3) ?_ | refine aX (C4) ?_ | refine aX (C5) ?_ | refine aX (C6) ?_ | refine ay ?_ | intro _)
 exact aD Tryz.func66
theorem WZ (c:Cn) (h1:c.buf.length≤100000) (h2:c.recv.length≤100000) (h3:c.send.length≤100000):Pure Tryz.prog 67 [.agg (eC c),.agg (eC c)] (.c (bI true)):=by
 have C2:=tu c.recv h2;have C3:=tu c.send h3;refine an.intro Tryz.func67 rfl rfl rfl (fun ok e=>?_)
 repeat (first | (refine K.binOp ?_;first | refine jq rfl rfl rfl (Qt.tr rfl rfl) ?_ | refine jq rfl rfl rfl (Qt.Mb rfl rfl) ?_) | refine aX (C2) ?_ | refine aX (C3) ?_ | refine ay ?_ | intro _)
 rename_i b3 b2;refine J.loop (ι:={ k:Nat // k≤(c.buf).length }) (fun p=>[(53,.c (nI p.1)),(52,.c (nI (c.buf).length)),(2,.c (.v (.pointer (some ⟨b3,0,none⟩)))),(3,.c (.v (.pointer (some ⟨b2,0,none⟩))))]) (fun _=>[.box b2 59 (eC c),.box b3 59 (eC c)]) (fun p=>(c.buf).length - p.1) ⟨0,Nat.zero_le _⟩ (fun X h=>h.aW ⟨rfl,rfl,rfl,rfl,trivial⟩) (fun p ih=>?_);obtain ⟨k,hk⟩:=p;simp only at hk ih ⊢
 by_cases bF:k < (c.buf).length
 ·have t1:(decide ((k:Int) < ((c.buf).length:Int)))=true:=by simpa using bF
  obtain ⟨x,hx⟩:∃ x,(c.buf)[k]?=some x:=⟨_,List.getElem?_eq_getElem bF⟩
  have hm:=List.mem_of_getElem? hx
  repeat (first | refine aQ t1 ?_ | refine gn ?_)
  refine J.draw (by kernel_rfl) rfl ?_;refine JW.base none ?_;refine tk 0 ?_;refine tk 1 ?_;refine tk 2 ?_;refine JD.take 3 rfl rfl (by kernel_rfl) rfl (qb rfl) (Qt.cI rfl rfl (by omega) (jy hx)) rfl ?_;refine tk 4 ?_;refine tk 5 ?_;refine tk 6 ?_;refine tk 7 ?_;refine JD.take 8 rfl rfl (by kernel_rfl) rfl (qb rfl) (Qt.cI rfl rfl (by omega) (jy hx)) rfl ?_;refine tk 9 ?_;refine JD.take 10 rfl rfl (by kernel_rfl) rfl (qb rfl) (Qt.tr rfl rfl) rfl ?_;refine bE ?_
  repeat (first | (refine K.binOp ?_;refine jq rfl rfl rfl (Qt.cJ rfl rfl rfl (dJ (by omega) (by omega))) ?_) | refine gn ?_)
  exact (ih ⟨k + 1,by omega⟩ (by simp only;omega)).aW ⟨rfl,rfl,rfl,rfl,trivial⟩
 ·have t1:(decide ((k:Int) < ((c.buf).length:Int)))=false:=by simpa using bF
  obtain rfl:k=(c.buf).length:=by omega
  repeat (first | refine aQ t1 ?_ | refine gn ?_)
  exact aD Tryz.func67
theorem W0 (s:ah) (h:Fe s):Pure Tryz.prog 16 [.agg (aC s),.agg (aC s)] (.c (bI true)):=by
 have EL:=h.gs;have nJ:=h.ch;have zO:=h.su;have kO:=h.dr;have Un:=h.dn;have CM:=tu s.middle h.mb;refine an.intro Tryz.func16 rfl rfl rfl (fun ok e=>?_)
 repeat (first | (refine K.binOp ?_;first | refine jq rfl rfl rfl (Qt.tr rfl rfl) ?_ | refine jq rfl rfl rfl (Qt.wS [.int .i64 s.dx,.int .i64 s.bX] rfl rfl (fun w=>Wy w _ _) Ww) ?_) | refine ay ?_ | intro _)
 rename_i b3 b2;refine J.loop (ι:={ k:Nat // k≤(s.gs).length }) (fun p=>[(101,.c (nI p.1)),(100,.c (nI (s.gs).length)),(2,.c (.v (.pointer (some ⟨b3,0,none⟩)))),(3,.c (.v (.pointer (some ⟨b2,0,none⟩))))]) (fun _=>[.box b2 36 (aC s),.box b3 36 (aC s)]) (fun p=>(s.gs).length - p.1) ⟨0,Nat.zero_le _⟩ (fun X h=>h.aW ⟨rfl,rfl,rfl,rfl,trivial⟩) (fun p ih=>?_);obtain ⟨k,hk⟩:=p;simp only at hk ih ⊢
 by_cases bF:k < (s.gs).length
 ·have t1:(decide ((k:Int) < ((s.gs).length:Int)))=true:=by simpa using bF
  obtain ⟨x,hx⟩:∃ x,(s.gs)[k]?=some x:=⟨_,List.getElem?_eq_getElem bF⟩
  have hm:=List.mem_of_getElem? hx;obtain ⟨g1,g2,g3,g4,g5,g6⟩:=h.gb x hm;obtain ⟨y,hy⟩:∃ y,s.cache[k]?=some y:=⟨_,List.getElem?_eq_getElem (by rw [h.cl];exact bF)⟩
  repeat (refine gn ?_)
  refine J.draw (by kernel_rfl) rfl ?_;refine JW.base none ?_;refine tk 0 ?_;refine tk 1 ?_;refine tk 2 ?_;refine JD.take 3 rfl rfl (by kernel_rfl) rfl (qb rfl) (Qt.cI rfl rfl (by omega) (jy hx)) rfl ?_;refine tk 4 ?_;refine tk 5 ?_;refine tk 6 ?_;refine tk 7 ?_;refine JD.take 8 rfl rfl (by kernel_rfl) rfl (qb rfl) (Qt.cI rfl rfl (by omega) (jy hx)) rfl ?_;refine tk 9 ?_;refine jl 10 rfl rfl rfl rfl (Ld.pure (WY x g1 g2 g3 g4 g5 g6) (qb rfl) rfl (by repeat (first | exact aJ.nil | refine aJ.cons (dU.agg (by repeat (first | exact .nil | refine .cons .refl ?_))) ?_))) .none (fun _=>?_);refine jk 11 rfl rfl rfl rfl (Qt.not rfl) ?_;refine jk 12 rfl rfl rfl rfl (Qt.move rfl) ?_;refine JD.lB ?_;refine tk 13 ?_;refine tk 14 ?_;refine tk 15 ?_
  (refine JD.take 16 rfl rfl (by kernel_rfl) rfl (qb rfl) (Qt.cI rfl rfl (by omega) (jy hy)) rfl ?_)
  refine tk 17 ?_;refine tk 18 ?_;refine tk 19 ?_;refine tk 20 ?_
  (refine JD.take 21 rfl rfl (by kernel_rfl) rfl (qb rfl) (Qt.cI rfl rfl (by omega) (jy hy)) rfl ?_)
  refine tk 22 ?_;refine jl 23 rfl rfl rfl rfl (Ld.pure (tu y (h.cb y (List.mem_of_getElem? hy))) (qb rfl) rfl lq) .none (fun _=>?_);refine tk 24 ?_;refine jk 25 rfl rfl rfl rfl (Qt.pick rfl rfl) ?_;refine bE ?_
  repeat (refine gn ?_)
  exact (ih ⟨k + 1,by omega⟩ (by simp only;omega)).aW ⟨rfl,rfl,rfl,rfl,trivial⟩
 ·have t1:(decide ((k:Int) < ((s.gs).length:Int)))=false:=by simpa using bF
  obtain rfl:k=(s.gs).length:=by omega
  repeat (refine gn ?_)
  refine J.loop (ι:={ k:Nat // k≤(s.av).length }) (fun p=>[(134,.c (nI p.1)),(133,.c (nI (s.av).length)),(2,.c (.v (.pointer (some ⟨b3,0,none⟩)))),(3,.c (.v (.pointer (some ⟨b2,0,none⟩))))]) (fun _=>[.box b2 36 (aC s),.box b3 36 (aC s)]) (fun p=>(s.av).length - p.1) ⟨0,Nat.zero_le _⟩ (fun X h=>h.aW ⟨rfl,rfl,rfl,rfl,trivial⟩) (fun p ih=>?_);obtain ⟨k,hk⟩:=p;simp only at hk ih ⊢
  by_cases bF:k < (s.av).length
  ·have t1:(decide ((k:Int) < ((s.av).length:Int)))=true:=by simpa using bF
   obtain ⟨x,hx⟩:∃ x,(s.av)[k]?=some x:=⟨_,List.getElem?_eq_getElem bF⟩
   have hm:=List.mem_of_getElem? hx;obtain ⟨g1,g2,g3⟩:=h.hb x hm
   repeat (refine gn ?_)
   refine J.draw (by kernel_rfl) rfl ?_;refine JW.base none ?_;refine tk 0 ?_;refine tk 1 ?_;refine tk 2 ?_;refine JD.take 3 rfl rfl (by kernel_rfl) rfl (qb rfl) (Qt.cI rfl rfl (by omega) (jy hx)) rfl ?_;refine tk 4 ?_;refine tk 5 ?_;refine tk 6 ?_;refine tk 7 ?_;refine JD.take 8 rfl rfl (by kernel_rfl) rfl (qb rfl) (Qt.cI rfl rfl (by omega) (jy hx)) rfl ?_;refine tk 9 ?_;refine jl 10 rfl rfl rfl rfl (Ld.pure (WZ x g1 g2 g3) (qb rfl) rfl (by repeat (first | exact aJ.nil | refine aJ.cons (dU.agg (by repeat (first | exact .nil | refine .cons .refl ?_))) ?_))) .none (fun _=>?_);refine jk 11 rfl rfl rfl rfl (Qt.not rfl) ?_;refine bE ?_
   repeat (refine gn ?_)
   exact (ih ⟨k + 1,by omega⟩ (by simp only;omega)).aW ⟨rfl,rfl,rfl,rfl,trivial⟩
  ·have t1:(decide ((k:Int) < ((s.av).length:Int)))=false:=by simpa using bF
   obtain rfl:k=(s.av).length:=by omega
   repeat (refine gn ?_)
   refine J.loop (ι:={ k:Nat // k≤(s.aA).length }) (fun p=>[(153,.c (nI p.1)),(152,.c (nI (s.aA).length)),(2,.c (.v (.pointer (some ⟨b3,0,none⟩)))),(3,.c (.v (.pointer (some ⟨b2,0,none⟩))))]) (fun _=>[.box b2 36 (aC s),.box b3 36 (aC s)]) (fun p=>(s.aA).length - p.1) ⟨0,Nat.zero_le _⟩ (fun X h=>h.aW ⟨rfl,rfl,rfl,rfl,trivial⟩) (fun p ih=>?_);obtain ⟨k,hk⟩:=p;simp only at hk ih ⊢
   by_cases bF:k < (s.aA).length
   ·have t1:(decide ((k:Int) < ((s.aA).length:Int)))=true:=by simpa using bF
    obtain ⟨x,hx⟩:∃ x,(s.aA)[k]?=some x:=⟨_,List.getElem?_eq_getElem bF⟩
    have hm:=List.mem_of_getElem? hx
    repeat (refine gn ?_)
    refine J.draw (by kernel_rfl) rfl ?_;refine JW.base none ?_;refine tk 0 ?_;refine tk 1 ?_;refine tk 2 ?_;refine JD.take 3 rfl rfl (by kernel_rfl) rfl (qb rfl) (Qt.cI rfl rfl (by omega) (jy hx)) rfl ?_;refine tk 4 ?_;refine tk 5 ?_;refine tk 6 ?_;refine tk 7 ?_;refine JD.take 8 rfl rfl (by kernel_rfl) rfl (qb rfl) (Qt.cI rfl rfl (by omega) (jy hx)) rfl ?_;refine tk 9 ?_;refine JD.take 10 rfl rfl (by kernel_rfl) rfl (qb rfl) (Qt.wS [.bool x.live,.int .i64 x.g,.int .i64 x.ch,.int .i64 x.cs,.bool x.send,.int .i64 x.v,.bool x.done] rfl rfl (fun w=>WE w _ _ _ _ _ _ _) WB) rfl ?_;refine bE ?_
    repeat (refine gn ?_)
    exact (ih ⟨k + 1,by omega⟩ (by simp only;omega)).aW ⟨rfl,rfl,rfl,rfl,trivial⟩
   ·have t1:(decide ((k:Int) < ((s.aA).length:Int)))=false:=by simpa using bF
    obtain rfl:k=(s.aA).length:=by omega
    repeat (refine gn ?_)
    refine J.loop (ι:={ k:Nat // k≤(s.di).length }) (fun p=>[(171,.c (nI p.1)),(170,.c (nI (s.di).length)),(2,.c (.v (.pointer (some ⟨b3,0,none⟩)))),(3,.c (.v (.pointer (some ⟨b2,0,none⟩))))]) (fun _=>[.box b2 36 (aC s),.box b3 36 (aC s)]) (fun p=>(s.di).length - p.1) ⟨0,Nat.zero_le _⟩ (fun X h=>h.aW ⟨rfl,rfl,rfl,rfl,trivial⟩) (fun p ih=>?_);obtain ⟨k,hk⟩:=p;simp only at hk ih ⊢
    by_cases bF:k < (s.di).length
    ·have t1:(decide ((k:Int) < ((s.di).length:Int)))=true:=by simpa using bF
     obtain ⟨x,hx⟩:∃ x,(s.di)[k]?=some x:=⟨_,List.getElem?_eq_getElem bF⟩
     have hm:=List.mem_of_getElem? hx
     repeat (refine gn ?_)
     refine J.draw (by kernel_rfl) rfl ?_;refine JW.base none ?_;refine tk 0 ?_;refine tk 1 ?_;refine tk 2 ?_;refine JD.take 3 rfl rfl (by kernel_rfl) rfl (qb rfl) (Qt.cI rfl rfl (by omega) (jy hx)) rfl ?_;refine tk 4 ?_;refine tk 5 ?_;refine tk 6 ?_;refine tk 7 ?_;refine JD.take 8 rfl rfl (by kernel_rfl) rfl (qb rfl) (Qt.cI rfl rfl (by omega) (jy hx)) rfl ?_;refine tk 9 ?_;refine JD.take 10 rfl rfl (by kernel_rfl) rfl (qb rfl) (Qt.tr rfl rfl) rfl ?_;refine bE ?_
     repeat (refine gn ?_)
     exact (ih ⟨k + 1,by omega⟩ (by simp only;omega)).aW ⟨rfl,rfl,rfl,rfl,trivial⟩
    ·have t1:(decide ((k:Int) < ((s.di).length:Int)))=false:=by simpa using bF
     obtain rfl:k=(s.di).length:=by omega
     repeat (refine gn ?_)
     refine J.loop (ι:={ k:Nat // k≤(s.done).length }) (fun p=>[(189,.c (nI p.1)),(188,.c (nI (s.done).length)),(2,.c (.v (.pointer (some ⟨b3,0,none⟩)))),(3,.c (.v (.pointer (some ⟨b2,0,none⟩))))]) (fun _=>[.box b2 36 (aC s),.box b3 36 (aC s)]) (fun p=>(s.done).length - p.1) ⟨0,Nat.zero_le _⟩ (fun X h=>h.aW ⟨rfl,rfl,rfl,rfl,trivial⟩) (fun p ih=>?_);obtain ⟨k,hk⟩:=p;simp only at hk ih ⊢
     by_cases bF:k < (s.done).length
     ·have t1:(decide ((k:Int) < ((s.done).length:Int)))=true:=by simpa using bF
      obtain ⟨x,hx⟩:∃ x,(s.done)[k]?=some x:=⟨_,List.getElem?_eq_getElem bF⟩
      have hm:=List.mem_of_getElem? hx
      repeat (refine gn ?_)
      refine J.draw (by kernel_rfl) rfl ?_;refine JW.base none ?_;refine tk 0 ?_;refine tk 1 ?_;refine tk 2 ?_;refine JD.take 3 rfl rfl (by kernel_rfl) rfl (qb rfl) (Qt.cI rfl rfl (by omega) (jy hx)) rfl ?_;refine tk 4 ?_;refine tk 5 ?_;refine tk 6 ?_;refine tk 7 ?_;refine JD.take 8 rfl rfl (by kernel_rfl) rfl (qb rfl) (Qt.cI rfl rfl (by omega) (jy hx)) rfl ?_;refine tk 9 ?_;refine JD.take 10 rfl rfl (by kernel_rfl) rfl (qb rfl) (Qt.wS [.int .i64 x.g,.int .i64 x.op,.int .i64 x.call,.int .i64 x.iy,.int .i64 x.bT,.int .i64 x.wi,.int .i64 x.dm,.int .i64 x.re,.int .i64 x.res.code,.int .i64 x.res.cs,.int .i64 x.res.v,.bool x.res.ok,.int .i64 x.res.n] rfl rfl (fun w=>WV w _ _ _ _ _ _ _ _ _ _ _ _ _) WQ) rfl ?_;refine bE ?_
      repeat (refine gn ?_)
      exact (ih ⟨k + 1,by omega⟩ (by simp only;omega)).aW ⟨rfl,rfl,rfl,rfl,trivial⟩
     ·have t1:(decide ((k:Int) < ((s.done).length:Int)))=false:=by simpa using bF
      obtain rfl:k=(s.done).length:=by omega
      repeat (refine gn ?_)
      exact aD Tryz.func16
end Fl
open Go.RowKit
namespace Fl
open Sx
set_option maxRecDepth 100000
theorem Bd.fe {n:Nat} {s:ah} (h:Sx.Bd n s) (hn:n≤1000):Fe s :=
 ⟨by have:=h.g8;omega,by have:=h.c8;omega,by have:=h.mA;omega,by have:=h.dr;omega,by have:=h.dn;omega,h.cl,fun l hl=>by have:=h.cb l hl;omega,by have:=h.mb;omega,
  fun x hx=>⟨by have:=(h.gs x hx).op;omega,fun o ho=>by have:=(h.gs x hx).oc o ho;omega,by have:=(h.gs x hx).od;omega,by have:=(h.gs x hx).lk;omega,by have:=(h.gs x hx).sg;omega,by have:=(h.gs x hx).wk;omega⟩,
  fun c hc=>by have:=(h.cs c hc);have:=this.bf;have:=(h.cs c hc).rv;have:=(h.cs c hc).sd;omega⟩
section
variable {s:ah} {g:Nat}
end
end Fl
end Go.Proofs.YtdjhhbpedllnhaaGreat
