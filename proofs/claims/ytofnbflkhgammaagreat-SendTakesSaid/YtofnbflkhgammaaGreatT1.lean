/-
  What the laws need, part T1.
  Conditions: none.
-/
import Derived.Test.YtofnbflkhgammaaGreatD50
import Derived.Laws.StructEq
set_option linter.unusedVariables false
set_option linter.unusedSimpArgs false
set_option linter.unnecessarySimpa false
set_option maxHeartbeats 2000000
namespace Go.Proofs.YtofnbflkhgammaaGreat
open Go.RowKit
namespace Fl
open Sx
section
variable {P:Program} {ops:Array Oper} {Q:Exit→Act→World→Prop} {md:Region.Mode} {S:World→Prop} {m:Option Nat}
end
section
variable (P:Program) (c:Cx)
end
section
variable {P:Program} {c:Cx} {k:List Item} {f f0:Fm} {L L0:List ak} {ops:Array Oper} {l:List Oper} {o:Oper} {m:Option Nat} {T:List Nat} {n:Nat} {aM:Array Bool}
theorem JD.skip (i:Nat) {t:Nat} (hi:ops[i]?=some o) (hd:o.dst=some t) (hk:uF .any ops m aM i=true) (hw:rD ops o f0=true) (ht:t < c.N) (h:JD P c ops m T n (aM.setIfInBounds i true) k ((t,.aZ []) :: f) L ((t,.aZ []) :: f0) L0):JD P c ops m T (n + 1) aM k f L f0 L0:=⟨fun a w w0 s s0 kp ho=>by
 unfold uF at hk;simp only [Bool.and_eq_true] at hk;obtain ⟨⟨⟨k1,k2⟩,k3⟩,k4⟩:=hk;refine Gx.first hi (Region.noSelect_spec k1) (fun c a w h=>by cases h.1) k4 n aM a w (Region.free_spec hi k2) (by simpa using k3) (v:=undef) (.inr ⟨rD.run hw s0,rfl⟩) kp ?_
 have:=h.go (a.put o.dst undef) w w0 (by rw [hd];exact s.undef ht) (by rw [hd];exact s0.undef ht) kp ho;exact this⟩
end
end Fl
namespace Fl
open Sx
instance:aJ Tryz.prog 18:={}
instance:aJ Tryz.prog 21:={}
instance:aJ Tryz.prog 40:={}
instance:aJ Tryz.prog 42:={}
instance:aJ Tryz.prog 72:={}
instance:aJ Tryz.prog 73:={}
instance:aJ Tryz.prog 74:={}
instance:aJ Tryz.prog 134:={}
end Fl
open Go.RowKit
namespace Fl
open Sx
section
variable {α:Type} {E:World→List Value→α→List Nat→Prop} {enc:α→List A}
end
end Fl
open Go.RowKit
namespace Fl
open Sx
set_option maxRecDepth 100000
section
variable {P:Program} {c:Cx} {k:List Item} {f:Fm} {L L2:List ak} {T:TypeId} {ps:String} {af:Array Edge} {gd:Option (Nat × Bool)} {t:Nat}
end
end Fl
open Go.RowKit
namespace Fl
open Sx
set_option maxRecDepth 100000
section
variable {P:Program} {c:Cx} {f:Fm} {L:List ak} {T:TypeId} {ps:String} {af:Array Edge} {gd:Option (Nat × Bool)} {t:Nat}
theorem Qt.Hy {x y:Operand} {X Y:Nat} {kd:IntKind} {m:Int} (h:aU f x=some (.c (.v (.int kd m)))) (hy:aU f y=some (.c (.v (.int kd m)))):Qt P c [] ⟨t,.binOp .eql X x y Y,T,ps,af,gd⟩ f L (.c (.v (.bool true))) :=
 Qt.cmp h hy (by simp [uz])
theorem Qt.Hz {x y:Operand} {X Y:Nat} {m:Bool} [i:vY P X] (h:aU f x=some (.c (.v (.bool m)))) (hy:aU f y=some (.c (.v (.bool m)))):Qt P c [] ⟨t,.binOp .eql X x y Y,T,ps,af,gd⟩ f L (.c (.v (.bool true))) :=
 (Qt.wj h hy).eq (by simp)
theorem Qt.sV {x y:Operand} {X Y:Nat} (zs:List Value) (h:aU f x=some (.agg (vs zs))) (hy:aU f y=some (.agg (vs zs))) (hr:∀ w,(binOp .neq X (.agg zs.toArray) (.agg zs.toArray)).run P w=.ok (.bool false) w) (hg:P.eqGuardType P.depth X=false):Qt P c [] ⟨t,.binOp .neq X x y Y,T,ps,af,gd⟩ f L (.c (.v (.bool false))):=⟨fun a w s=>by
 have rx:=s.ev h;have ry:=s.ev hy;unfold RD at rx ry;obtain ⟨v1,e1,r1⟩:=rx;obtain ⟨v2,e2,r2⟩:=ry;rw [vq r1] at e1;rw [vq r2] at e2;refine ⟨.bool false,by unfold RD RA;exact ⟨rfl,rfl⟩,fun w' k=>?_⟩;simp [execOp,e1,e2,hr,Sem.run_bind,run_eqGuard_agg _ _ _ _ _ _ _ hg]⟩
end
theorem HY:Tryz.prog.underlying 24=some (.struct (Tryz.prog.fieldsOf 24)):=by kernel_rfl
theorem H6:Tryz.prog.stoodInHeld 24=false:=by kernel_rfl
theorem H7:Tryz.prog.eqGuardType Tryz.prog.depth 24=false:=by kernel_rfl
theorem H8:∃ f0 f1:Field,(Tryz.prog.fieldsOf 24).toList=[f0,f1]∧(f0.name≠"_"∧f1.name≠"_")∧(f0.type=3∧f1.type=3)∧f0.offset=0∧f1.offset=1:=by
 unfold Program.fieldsOf;rw [Tryz.underlying24];exact ⟨_,_,rfl,⟨by decide,by decide⟩,⟨rfl,rfl⟩,rfl,rfl⟩
theorem H9 (w:World) (x0:Int) (x1:Int):(binOp .neq 24 (.agg #[.int .i64 x0,.int .i64 x1]) (.agg #[.int .i64 x0,.int .i64 x1])).run Tryz.prog w=.ok (.bool false) w:=by
 obtain ⟨f0,f1,hf,⟨n0,n1⟩,⟨t0,t1⟩,o0,o1⟩:=H8;rw [run_neq_struct,run_equalIn_struct _ _ _ _ _ HY H6,hf];have hi:=Tryz.underlying3;have dx:=Tryz.underlying2;have hb:=Tryz.underlying4;simp [Op.eqFields,n0,t0,o0,n1,t1,o1,go_sem,hi,dx,hb]
theorem Ia:Tryz.prog.underlying 52=some (.struct (Tryz.prog.fieldsOf 52)):=by kernel_rfl
theorem Ib:Tryz.prog.stoodInHeld 52=false:=by kernel_rfl
theorem Ic:Tryz.prog.eqGuardType Tryz.prog.depth 52=false:=by kernel_rfl
theorem Ie:∃ f0 f1 f2 f3 f4 f5 f6:Field,(Tryz.prog.fieldsOf 52).toList=[f0,f1,f2,f3,f4,f5,f6]∧(f0.name≠"_"∧f1.name≠"_"∧f2.name≠"_"∧f3.name≠"_"∧f4.name≠"_"∧f5.name≠"_"∧f6.name≠"_")∧(f0.type=4∧f1.type=3∧f2.type=3∧f3.type=3∧f4.type=4∧f5.type=2∧f6.type=4)∧f0.offset=0∧f1.offset=1∧f2.offset=2∧f3.offset=3∧f4.offset=4∧f5.offset=5∧f6.offset=6:=by
 unfold Program.fieldsOf;rw [Tryz.underlying52];exact ⟨_,_,_,_,_,_,_,rfl,⟨by decide,by decide,by decide,by decide,by decide,by decide,by decide⟩,⟨rfl,rfl,rfl,rfl,rfl,rfl,rfl⟩,rfl,rfl,rfl,rfl,rfl,rfl,rfl⟩
theorem Ig (w:World) (x0:Bool) (x1:Int) (x2:Int) (x3:Int) (x4:Bool) (x5:Int) (x6:Bool):(binOp .neq 52 (.agg #[.bool x0,.int .i64 x1,.int .i64 x2,.int .i64 x3,.bool x4,.int .i64 x5,.bool x6]) (.agg #[.bool x0,.int .i64 x1,.int .i64 x2,.int .i64 x3,.bool x4,.int .i64 x5,.bool x6])).run Tryz.prog w=.ok (.bool false) w:=by
 obtain ⟨f0,f1,f2,f3,f4,f5,f6,hf,⟨n0,n1,n2,n3,n4,n5,n6⟩,⟨t0,t1,t2,t3,t4,t5,t6⟩,o0,o1,o2,o3,o4,o5,o6⟩:=Ie;rw [run_neq_struct,run_equalIn_struct _ _ _ _ _ Ia Ib,hf];have hi:=Tryz.underlying3;have dx:=Tryz.underlying2;have hb:=Tryz.underlying4;simp [Op.eqFields,n0,t0,o0,n1,t1,o1,n2,t2,o2,n3,t3,o3,n4,t4,o4,n5,t5,o5,n6,t6,o6,go_sem,hi,dx,hb]
theorem Ih:Tryz.prog.underlying 83=some (.struct (Tryz.prog.fieldsOf 83)):=by kernel_rfl
theorem Ii:Tryz.prog.stoodInHeld 83=false:=by kernel_rfl
theorem Ij:Tryz.prog.eqGuardType Tryz.prog.depth 83=false:=by kernel_rfl
theorem Ik:∃ f0 f1 f2:Field,(Tryz.prog.fieldsOf 83).toList=[f0,f1,f2]∧(f0.name≠"_"∧f1.name≠"_"∧f2.name≠"_")∧(f0.type=4∧f1.type=3∧f2.type=2)∧f0.offset=0∧f1.offset=1∧f2.offset=2:=by
 unfold Program.fieldsOf;rw [Tryz.underlying83];exact ⟨_,_,_,rfl,⟨by decide,by decide,by decide⟩,⟨rfl,rfl,rfl⟩,rfl,rfl,rfl⟩
theorem Il (w:World) (x0:Bool) (x1:Int) (x2:Int):(binOp .neq 83 (.agg #[.bool x0,.int .i64 x1,.int .i64 x2]) (.agg #[.bool x0,.int .i64 x1,.int .i64 x2])).run Tryz.prog w=.ok (.bool false) w:=by
 obtain ⟨f0,f1,f2,hf,⟨n0,n1,n2⟩,⟨t0,t1,t2⟩,o0,o1,o2⟩:=Ik;rw [run_neq_struct,run_equalIn_struct _ _ _ _ _ Ih Ii,hf];have hi:=Tryz.underlying3;have dx:=Tryz.underlying2;have hb:=Tryz.underlying4;simp [Op.eqFields,n0,t0,o0,n1,t1,o1,n2,t2,o2,go_sem,hi,dx,hb]
theorem Im:Tryz.prog.underlying 54=some (.struct (Tryz.prog.fieldsOf 54)):=by kernel_rfl
theorem Io:Tryz.prog.stoodInHeld 54=false:=by kernel_rfl
theorem Ip:Tryz.prog.eqGuardType Tryz.prog.depth 54=false:=by kernel_rfl
theorem Iq:∃ f0 f1 f2 f3 f4 f5 f6 f7 f8:Field,(Tryz.prog.fieldsOf 54).toList=[f0,f1,f2,f3,f4,f5,f6,f7,f8]∧(f0.name≠"_"∧f1.name≠"_"∧f2.name≠"_"∧f3.name≠"_"∧f4.name≠"_"∧f5.name≠"_"∧f6.name≠"_"∧f7.name≠"_"∧f8.name≠"_")∧(f0.type=3∧f1.type=3∧f2.type=3∧f3.type=3∧f4.type=3∧f5.type=3∧f6.type=3∧f7.type=3∧f8.type=45)∧f0.offset=0∧f1.offset=1∧f2.offset=2∧f3.offset=3∧f4.offset=4∧f5.offset=5∧f6.offset=6∧f7.offset=7∧f8.offset=8:=by
 unfold Program.fieldsOf;rw [Tryz.underlying54];exact ⟨_,_,_,_,_,_,_,_,_,rfl,⟨by decide,by decide,by decide,by decide,by decide,by decide,by decide,by decide,by decide⟩,⟨rfl,rfl,rfl,rfl,rfl,rfl,rfl,rfl,rfl⟩,rfl,rfl,rfl,rfl,rfl,rfl,rfl,rfl,rfl⟩
theorem Ir (w:World) (a0 a1 a2 a3 a4 a5 a6 a7 y0 y1 y2 y4:Int) (y3:Bool):(part 45 #[.int .i64 a0,.int .i64 a1,.int .i64 a2,.int .i64 a3,.int .i64 a4,.int .i64 a5,.int .i64 a6,.int .i64 a7,.int .i64 y0,.int .i64 y1,.int .i64 y2,.bool y3,.int .i64 y4] 8).run Tryz.prog w=.ok (.agg #[.int .i64 y0,.int .i64 y1,.int .i64 y2,.bool y3,.int .i64 y4]) w:=by
 have hu:=Tryz.underlying45;have h5:iR Tryz.prog 45=some 5:=by kernel_rfl
 simp [go_sem,part,hu]
theorem It (w:World) (x0 x1 x2 x3 x4 x5 x6 x7 y0 y1 y2 y4:Int) (y3:Bool):(binOp .neq 54 (.agg #[.int .i64 x0,.int .i64 x1,.int .i64 x2,.int .i64 x3,.int .i64 x4,.int .i64 x5,.int .i64 x6,.int .i64 x7,.int .i64 y0,.int .i64 y1,.int .i64 y2,.bool y3,.int .i64 y4]) (.agg #[.int .i64 x0,.int .i64 x1,.int .i64 x2,.int .i64 x3,.int .i64 x4,.int .i64 x5,.int .i64 x6,.int .i64 x7,.int .i64 y0,.int .i64 y1,.int .i64 y2,.bool y3,.int .i64 y4])).run Tryz.prog w=.ok (.bool false) w:=by
 obtain ⟨f0,f1,f2,f3,f4,f5,f6,f7,f8,hf,⟨n0,n1,n2,n3,n4,n5,n6,n7,n8⟩,⟨t0,t1,t2,t3,t4,t5,t6,t7,t8⟩,o0,o1,o2,o3,o4,o5,o6,o7,o8⟩:=Iq;obtain ⟨g0,g1,g2,g3,g4,hg,⟨m0,m1,m2,m3,m4⟩,⟨s0,s1,s2,s3,s4⟩,q0,q1,q2,q3,q4⟩:=FE;rw [run_neq_struct,run_equalIn_struct _ _ _ _ _ Im Io,hf];have hi:=Tryz.underlying3;have dx:=Tryz.underlying2;have hb:=Tryz.underlying4;simp [Op.eqFields,n0,t0,o0,n1,t1,o1,n2,t2,o2,n3,t3,o3,n4,t4,o4,n5,t5,o5,n6,t6,o6,n7,t7,o7,n8,t8,o8,Ir,run_equalIn_struct _ _ _ _ _ FB FC,hg,m0,m1,m2,m3,m4,s0,s1,s2,s3,s4,q0,q1,q2,q3,q4,go_sem,hi,dx,hb]
end Fl
open Go.RowKit
namespace Fl
open Sx
set_option maxRecDepth 100000
theorem eE {α:Type} {l:List α} {enc:α→List A} {k:Nat} {x:α} (h:l[k]?=some x):(l.map enc)[((k:Int)).toNat]?=some (enc x):=by rw [Int.toNat_natCast,List.getElem?_map,h];rfl
theorem kO (l:List Int) (hl:l.length≤100000):Pure Tryz.prog 72 [.c (ints l),.c (ints l)] (.c (bI true)):=by
 refine ax.intro Tryz.func72 rfl rfl rfl (fun ok e=>?_)
 repeat (first | (refine K.binOp ?_;refine jq rfl rfl rfl (Qt.iP rfl rfl) ?_) | refine gn ?_)
 refine J.loop (ι:={ k:Nat // k≤(l).length }) (fun p=>[(13,.c (nI p.1)),(12,.c (nI (l).length)),(0,.c (ints l)),(1,.c (ints l))]) (fun _=>[]) (fun p=>(l).length - p.1) ⟨0,Nat.zero_le _⟩ (fun X h=>h.aW ⟨rfl,rfl,rfl,rfl,trivial⟩) (fun p ih=>?_);obtain ⟨k,hk⟩:=p;simp only at hk ih ⊢
 by_cases aQ:k < (l).length
 ·have t1:(decide ((k:Int) < ((l).length:Int)))=true:=by simpa using aQ
  obtain ⟨x,hx⟩:∃ x,(l)[k]?=some x:=⟨_,List.getElem?_eq_getElem aQ⟩
  have hm:=List.mem_of_getElem? hx
  repeat (refine gn ?_)
  refine J.draw (by kernel_rfl) rfl ?_;refine JW.base none ?_;refine tk 0 ?_;refine tk 1 ?_;refine JD.take 2 rfl rfl (by kernel_rfl) rfl (qb rfl) (Qt.bw rfl rfl (by omega) (eE hx)) rfl ?_;refine tk 3 ?_;refine tk 4 ?_;refine tk 5 ?_;refine JD.take 6 rfl rfl (by kernel_rfl) rfl (qb rfl) (Qt.bw rfl rfl (by omega) (eE hx)) rfl ?_;refine tk 7 ?_;refine JD.take 8 rfl rfl (by kernel_rfl) rfl (qb rfl) (Qt.iP rfl rfl) rfl ?_;refine bt ?_
  repeat (refine gn ?_)
  exact (ih ⟨k + 1,by omega⟩ (by simp only;omega)).aW ⟨rfl,rfl,rfl,rfl,trivial⟩
 ·have t1:(decide ((k:Int) < ((l).length:Int)))=false:=by simpa using aQ
  obtain rfl:k=(l).length:=by omega
  repeat (refine gn ?_)
  exact aA Tryz.func72
theorem Iu (o:Pn.Op) (hl:o.cases.length≤100000):Pure Tryz.prog 21 [.agg (dH o),.agg (dH o)] (.c (bI true)):=by
 refine ax.intro Tryz.func21 rfl rfl rfl (fun ok e=>?_)
 repeat (first | (refine K.binOp ?_;first | refine jq rfl rfl rfl (Qt.iP rfl rfl) ?_ | refine jq rfl rfl rfl (Qt.wZ rfl rfl) ?_) | refine av ?_ | intro _)
 rename_i b3 b2;refine J.loop (ι:={ k:Nat // k≤(o.cases).length }) (fun p=>[(51,.c (nI p.1)),(50,.c (nI (o.cases).length)),(2,.c (.v (.pointer (some ⟨b3,0,none⟩)))),(3,.c (.v (.pointer (some ⟨b2,0,none⟩))))]) (fun _=>[.box b2 50 (dH o),.box b3 50 (dH o)]) (fun p=>(o.cases).length - p.1) ⟨0,Nat.zero_le _⟩ (fun X h=>h.aW ⟨rfl,rfl,rfl,rfl,trivial⟩) (fun p ih=>?_);obtain ⟨k,hk⟩:=p;simp only at hk ih ⊢
 by_cases aQ:k < (o.cases).length
 ·have t1:(decide ((k:Int) < ((o.cases).length:Int)))=true:=by simpa using aQ
  obtain ⟨x,hx⟩:∃ x,(o.cases)[k]?=some x:=⟨_,List.getElem?_eq_getElem aQ⟩
  have hm:=List.mem_of_getElem? hx
  repeat (refine gn ?_)
  refine J.draw (by kernel_rfl) rfl ?_;refine JW.base none ?_;refine tk 0 ?_;refine tk 1 ?_;refine tk 2 ?_;refine JD.take 3 rfl rfl (by kernel_rfl) rfl (qb rfl) (Qt.bw rfl rfl (by omega) (eE hx)) rfl ?_;refine tk 4 ?_;refine tk 5 ?_;refine tk 6 ?_;refine tk 7 ?_;refine JD.take 8 rfl rfl (by kernel_rfl) rfl (qb rfl) (Qt.bw rfl rfl (by omega) (eE hx)) rfl ?_;refine tk 9 ?_;refine JD.take 10 rfl rfl (by kernel_rfl) rfl (qb rfl) (Qt.sV [.bool x.send,.int .i64 x.ch,.int .i64 x.v] rfl rfl (fun w=>Il w _ _ _) Ij) rfl ?_;refine bt ?_
  repeat (refine gn ?_)
  exact (ih ⟨k + 1,by omega⟩ (by simp only;omega)).aW ⟨rfl,rfl,rfl,rfl,trivial⟩
 ·have t1:(decide ((k:Int) < ((o.cases).length:Int)))=false:=by simpa using aQ
  obtain rfl:k=(o.cases).length:=by omega
  repeat (refine gn ?_)
  exact aA Tryz.func21
theorem Iv (l:List Pn.Op) (hl:l.length≤100000) (hc:∀ o∈l,o.cases.length≤100000):Pure Tryz.prog 134 [.c (.r 6 (l.map dH)),.c (.r 6 (l.map dH))] (.c (bI true)):=by
 refine ax.intro Tryz.func134 rfl rfl rfl (fun ok e=>?_)
 repeat (first | (refine K.binOp ?_;refine jq rfl rfl rfl (Qt.iP rfl rfl) ?_) | refine gn ?_)
 refine J.loop (ι:={ k:Nat // k≤(l).length }) (fun p=>[(13,.c (nI p.1)),(12,.c (nI (l).length)),(0,.c (.r 6 (l.map dH))),(1,.c (.r 6 (l.map dH)))]) (fun _=>[]) (fun p=>(l).length - p.1) ⟨0,Nat.zero_le _⟩ (fun X h=>h.aW ⟨rfl,rfl,rfl,rfl,trivial⟩) (fun p ih=>?_);obtain ⟨k,hk⟩:=p;simp only at hk ih ⊢
 by_cases aQ:k < (l).length
 ·have t1:(decide ((k:Int) < ((l).length:Int)))=true:=by simpa using aQ
  obtain ⟨x,hx⟩:∃ x,(l)[k]?=some x:=⟨_,List.getElem?_eq_getElem aQ⟩
  have hm:=List.mem_of_getElem? hx
  repeat (refine gn ?_)
  refine J.draw (by kernel_rfl) rfl ?_;refine JW.base none ?_;refine tk 0 ?_;refine tk 1 ?_;refine JD.take 2 rfl rfl (by kernel_rfl) rfl (qb rfl) (Qt.bw rfl rfl (by omega) (eE hx)) rfl ?_;refine tk 3 ?_;refine tk 4 ?_;refine tk 5 ?_;refine JD.take 6 rfl rfl (by kernel_rfl) rfl (qb rfl) (Qt.bw rfl rfl (by omega) (eE hx)) rfl ?_;refine tk 7 ?_;refine jl 8 rfl rfl rfl rfl (Ld.pure (Iu x (hc x hm)) (qb rfl) rfl (by repeat (first | exact aK.nil | refine aK.cons (dB.agg (by repeat (first | exact .nil | refine .cons .refl ?_))) ?_))) .none (fun _=>?_);refine jk 9 rfl rfl rfl rfl (Qt.not rfl) ?_;refine bt ?_
  repeat (refine gn ?_)
  exact (ih ⟨k + 1,by omega⟩ (by simp only;omega)).aW ⟨rfl,rfl,rfl,rfl,trivial⟩
 ·have t1:(decide ((k:Int) < ((l).length:Int)))=false:=by simpa using aQ
  obtain rfl:k=(l).length:=by omega
  repeat (refine gn ?_)
  exact aA Tryz.func134
theorem Iw (g:Gr) (h1:g.ops.length≤100000) (h2:∀ o∈g.ops,o.cases.length≤100000) (h3:g.order.length≤100000) (h4:g.aF.length≤100000) (h5:g.ay.length≤100000) (h6:g.an.length≤100000):Pure Tryz.prog 73 [.agg (eG g),.agg (eG g)] (.c (bI true)):=by
 have C1:=Iv g.ops h1 h2;have C3:=kO g.order h3;have C4:=kO g.aF h4;have C5:=kO g.ay h5;have C6:=kO g.an h6;refine ax.intro Tryz.func73 rfl rfl rfl (fun ok e=>?_)
 repeat (first | (refine K.binOp ?_;first | refine jq rfl rfl rfl (Qt.Hy rfl rfl) ?_ | refine jq rfl rfl rfl (Qt.Hz rfl rfl) ?_ | refine jq rfl rfl rfl (Qt.FA [.int .i64 g.res.code,.int .i64 g.res.cs,.int .i64 g.res.v,.bool g.res.ok,.int .i64 g.res.n] rfl rfl (fun w=>FF w _ _ _ _ _) FD) ?_) | refine aO (C1) ?_ | refine aO (C3) ?_ | refine aO (C4) ?_ | refine aO (C5) ?_ | refine aO (C6) ?_ | refine av ?_ | intro _)
 exact aA Tryz.func73
theorem Ix (c:Cn) (h1:c.buf.length≤100000) (h2:c.recv.length≤100000) (h3:c.send.length≤100000):Pure Tryz.prog 74 [.agg (eC c),.agg (eC c)] (.c (bI true)):=by
 have C2:=kO c.recv h2;have C3:=kO c.send h3;refine ax.intro Tryz.func74 rfl rfl rfl (fun ok e=>?_)
 repeat (first | (refine K.binOp ?_;first | refine jq rfl rfl rfl (Qt.iP rfl rfl) ?_ | refine jq rfl rfl rfl (Qt.wZ rfl rfl) ?_) | refine aO (C2) ?_ | refine aO (C3) ?_ | refine av ?_ | intro _)
 rename_i b3 b2;refine J.loop (ι:={ k:Nat // k≤(c.buf).length }) (fun p=>[(53,.c (nI p.1)),(52,.c (nI (c.buf).length)),(2,.c (.v (.pointer (some ⟨b3,0,none⟩)))),(3,.c (.v (.pointer (some ⟨b2,0,none⟩))))]) (fun _=>[.box b2 72 (eC c),.box b3 72 (eC c)]) (fun p=>(c.buf).length - p.1) ⟨0,Nat.zero_le _⟩ (fun X h=>h.aW ⟨rfl,rfl,rfl,rfl,trivial⟩) (fun p ih=>?_);obtain ⟨k,hk⟩:=p;simp only at hk ih ⊢
 by_cases aQ:k < (c.buf).length
 ·have t1:(decide ((k:Int) < ((c.buf).length:Int)))=true:=by simpa using aQ
  obtain ⟨x,hx⟩:∃ x,(c.buf)[k]?=some x:=⟨_,List.getElem?_eq_getElem aQ⟩
  have hm:=List.mem_of_getElem? hx
  repeat (first | refine aL t1 ?_ | refine gn ?_)
  refine J.draw (by kernel_rfl) rfl ?_;refine JW.base none ?_;refine tk 0 ?_;refine tk 1 ?_;refine tk 2 ?_;refine JD.take 3 rfl rfl (by kernel_rfl) rfl (qb rfl) (Qt.bw rfl rfl (by omega) (eE hx)) rfl ?_;refine tk 4 ?_;refine tk 5 ?_;refine tk 6 ?_;refine tk 7 ?_;refine JD.take 8 rfl rfl (by kernel_rfl) rfl (qb rfl) (Qt.bw rfl rfl (by omega) (eE hx)) rfl ?_;refine tk 9 ?_;refine JD.take 10 rfl rfl (by kernel_rfl) rfl (qb rfl) (Qt.iP rfl rfl) rfl ?_;refine bt ?_
  repeat (first | (refine K.binOp ?_;refine jq rfl rfl rfl (Qt.dj rfl rfl rfl (eL (by omega) (by omega))) ?_) | refine gn ?_)
  exact (ih ⟨k + 1,by omega⟩ (by simp only;omega)).aW ⟨rfl,rfl,rfl,rfl,trivial⟩
 ·have t1:(decide ((k:Int) < ((c.buf).length:Int)))=false:=by simpa using aQ
  obtain rfl:k=(c.buf).length:=by omega
  repeat (first | refine aL t1 ?_ | refine gn ?_)
  exact aA Tryz.func74
theorem Iy (s:ah) (h:Fe s):Pure Tryz.prog 18 [.agg (az s),.agg (az s)] (.c (bI true)):=by
 have Cj:=h.gs;have mh:=h.ch;have xY:=h.su;have jK:=h.dr;have Oq:=h.dn;have CM:=kO s.middle h.mb;refine ax.intro Tryz.func18 rfl rfl rfl (fun ok e=>?_)
 repeat (first | (refine K.binOp ?_;first | refine jq rfl rfl rfl (Qt.iP rfl rfl) ?_ | refine jq rfl rfl rfl (Qt.sV [.int .i64 s.cV,.int .i64 s.bN] rfl rfl (fun w=>H9 w _ _) H7) ?_) | refine av ?_ | intro _)
 rename_i b3 b2;refine J.loop (ι:={ k:Nat // k≤(s.gs).length }) (fun p=>[(101,.c (nI p.1)),(100,.c (nI (s.gs).length)),(2,.c (.v (.pointer (some ⟨b3,0,none⟩)))),(3,.c (.v (.pointer (some ⟨b2,0,none⟩))))]) (fun _=>[.box b2 36 (az s),.box b3 36 (az s)]) (fun p=>(s.gs).length - p.1) ⟨0,Nat.zero_le _⟩ (fun X h=>h.aW ⟨rfl,rfl,rfl,rfl,trivial⟩) (fun p ih=>?_);obtain ⟨k,hk⟩:=p;simp only at hk ih ⊢
 by_cases aQ:k < (s.gs).length
 ·have t1:(decide ((k:Int) < ((s.gs).length:Int)))=true:=by simpa using aQ
  obtain ⟨x,hx⟩:∃ x,(s.gs)[k]?=some x:=⟨_,List.getElem?_eq_getElem aQ⟩
  have hm:=List.mem_of_getElem? hx;obtain ⟨g1,g2,g3,g4,g5,g6⟩:=h.gb x hm;obtain ⟨y,hy⟩:∃ y,s.cache[k]?=some y:=⟨_,List.getElem?_eq_getElem (by rw [h.cl];exact aQ)⟩
  repeat (refine gn ?_)
  refine J.draw (by kernel_rfl) rfl ?_;refine JW.base none ?_;refine tk 0 ?_;refine tk 1 ?_;refine tk 2 ?_;refine JD.take 3 rfl rfl (by kernel_rfl) rfl (qb rfl) (Qt.bw rfl rfl (by omega) (eE hx)) rfl ?_;refine tk 4 ?_;refine tk 5 ?_;refine tk 6 ?_;refine tk 7 ?_;refine JD.take 8 rfl rfl (by kernel_rfl) rfl (qb rfl) (Qt.bw rfl rfl (by omega) (eE hx)) rfl ?_;refine tk 9 ?_;refine jl 10 rfl rfl rfl rfl (Ld.pure (Iw x g1 g2 g3 g4 g5 g6) (qb rfl) rfl (by repeat (first | exact aK.nil | refine aK.cons (dB.agg (by repeat (first | exact .nil | refine .cons .refl ?_))) ?_))) .none (fun _=>?_);refine jk 11 rfl rfl rfl rfl (Qt.not rfl) ?_;refine jk 12 rfl rfl rfl rfl (Qt.move rfl) ?_;refine JD.lV ?_;refine tk 13 ?_;refine tk 14 ?_;refine tk 15 ?_
  (refine JD.take 16 rfl rfl (by kernel_rfl) rfl (qb rfl) (Qt.bw rfl rfl (by omega) (eE hy)) rfl ?_)
  refine tk 17 ?_;refine tk 18 ?_;refine tk 19 ?_;refine tk 20 ?_
  (refine JD.take 21 rfl rfl (by kernel_rfl) rfl (qb rfl) (Qt.bw rfl rfl (by omega) (eE hy)) rfl ?_)
  refine tk 22 ?_;refine jl 23 rfl rfl rfl rfl (Ld.pure (kO y (h.cb y (List.mem_of_getElem? hy))) (qb rfl) rfl lq) .none (fun _=>?_);refine tk 24 ?_;refine jk 25 rfl rfl rfl rfl (Qt.pick rfl rfl) ?_;refine bt ?_
  repeat (refine gn ?_)
  exact (ih ⟨k + 1,by omega⟩ (by simp only;omega)).aW ⟨rfl,rfl,rfl,rfl,trivial⟩
 ·have t1:(decide ((k:Int) < ((s.gs).length:Int)))=false:=by simpa using aQ
  obtain rfl:k=(s.gs).length:=by omega
  repeat (refine gn ?_)
  refine J.loop (ι:={ k:Nat // k≤(s.au).length }) (fun p=>[(134,.c (nI p.1)),(133,.c (nI (s.au).length)),(2,.c (.v (.pointer (some ⟨b3,0,none⟩)))),(3,.c (.v (.pointer (some ⟨b2,0,none⟩))))]) (fun _=>[.box b2 36 (az s),.box b3 36 (az s)]) (fun p=>(s.au).length - p.1) ⟨0,Nat.zero_le _⟩ (fun X h=>h.aW ⟨rfl,rfl,rfl,rfl,trivial⟩) (fun p ih=>?_);obtain ⟨k,hk⟩:=p;simp only at hk ih ⊢
  by_cases aQ:k < (s.au).length
  ·have t1:(decide ((k:Int) < ((s.au).length:Int)))=true:=by simpa using aQ
   obtain ⟨x,hx⟩:∃ x,(s.au)[k]?=some x:=⟨_,List.getElem?_eq_getElem aQ⟩
   have hm:=List.mem_of_getElem? hx;obtain ⟨g1,g2,g3⟩:=h.hb x hm
   repeat (refine gn ?_)
   refine J.draw (by kernel_rfl) rfl ?_;refine JW.base none ?_;refine tk 0 ?_;refine tk 1 ?_;refine tk 2 ?_;refine JD.take 3 rfl rfl (by kernel_rfl) rfl (qb rfl) (Qt.bw rfl rfl (by omega) (eE hx)) rfl ?_;refine tk 4 ?_;refine tk 5 ?_;refine tk 6 ?_;refine tk 7 ?_;refine JD.take 8 rfl rfl (by kernel_rfl) rfl (qb rfl) (Qt.bw rfl rfl (by omega) (eE hx)) rfl ?_;refine tk 9 ?_;refine jl 10 rfl rfl rfl rfl (Ld.pure (Ix x g1 g2 g3) (qb rfl) rfl (by repeat (first | exact aK.nil | refine aK.cons (dB.agg (by repeat (first | exact .nil | refine .cons .refl ?_))) ?_))) .none (fun _=>?_);refine jk 11 rfl rfl rfl rfl (Qt.not rfl) ?_;refine bt ?_
   repeat (refine gn ?_)
   exact (ih ⟨k + 1,by omega⟩ (by simp only;omega)).aW ⟨rfl,rfl,rfl,rfl,trivial⟩
  ·have t1:(decide ((k:Int) < ((s.au).length:Int)))=false:=by simpa using aQ
   obtain rfl:k=(s.au).length:=by omega
   repeat (refine gn ?_)
   refine J.loop (ι:={ k:Nat // k≤(s.aC).length }) (fun p=>[(153,.c (nI p.1)),(152,.c (nI (s.aC).length)),(2,.c (.v (.pointer (some ⟨b3,0,none⟩)))),(3,.c (.v (.pointer (some ⟨b2,0,none⟩))))]) (fun _=>[.box b2 36 (az s),.box b3 36 (az s)]) (fun p=>(s.aC).length - p.1) ⟨0,Nat.zero_le _⟩ (fun X h=>h.aW ⟨rfl,rfl,rfl,rfl,trivial⟩) (fun p ih=>?_);obtain ⟨k,hk⟩:=p;simp only at hk ih ⊢
   by_cases aQ:k < (s.aC).length
   ·have t1:(decide ((k:Int) < ((s.aC).length:Int)))=true:=by simpa using aQ
    obtain ⟨x,hx⟩:∃ x,(s.aC)[k]?=some x:=⟨_,List.getElem?_eq_getElem aQ⟩
    have hm:=List.mem_of_getElem? hx
    repeat (refine gn ?_)
    refine J.draw (by kernel_rfl) rfl ?_;refine JW.base none ?_;refine tk 0 ?_;refine tk 1 ?_;refine tk 2 ?_;refine JD.take 3 rfl rfl (by kernel_rfl) rfl (qb rfl) (Qt.bw rfl rfl (by omega) (eE hx)) rfl ?_;refine tk 4 ?_;refine tk 5 ?_;refine tk 6 ?_;refine tk 7 ?_;refine JD.take 8 rfl rfl (by kernel_rfl) rfl (qb rfl) (Qt.bw rfl rfl (by omega) (eE hx)) rfl ?_;refine tk 9 ?_;refine JD.take 10 rfl rfl (by kernel_rfl) rfl (qb rfl) (Qt.sV [.bool x.live,.int .i64 x.g,.int .i64 x.ch,.int .i64 x.cs,.bool x.send,.int .i64 x.v,.bool x.done] rfl rfl (fun w=>Ig w _ _ _ _ _ _ _) Ic) rfl ?_;refine bt ?_
    repeat (refine gn ?_)
    exact (ih ⟨k + 1,by omega⟩ (by simp only;omega)).aW ⟨rfl,rfl,rfl,rfl,trivial⟩
   ·have t1:(decide ((k:Int) < ((s.aC).length:Int)))=false:=by simpa using aQ
    obtain rfl:k=(s.aC).length:=by omega
    repeat (refine gn ?_)
    refine J.loop (ι:={ k:Nat // k≤(s.cG).length }) (fun p=>[(171,.c (nI p.1)),(170,.c (nI (s.cG).length)),(2,.c (.v (.pointer (some ⟨b3,0,none⟩)))),(3,.c (.v (.pointer (some ⟨b2,0,none⟩))))]) (fun _=>[.box b2 36 (az s),.box b3 36 (az s)]) (fun p=>(s.cG).length - p.1) ⟨0,Nat.zero_le _⟩ (fun X h=>h.aW ⟨rfl,rfl,rfl,rfl,trivial⟩) (fun p ih=>?_);obtain ⟨k,hk⟩:=p;simp only at hk ih ⊢
    by_cases aQ:k < (s.cG).length
    ·have t1:(decide ((k:Int) < ((s.cG).length:Int)))=true:=by simpa using aQ
     obtain ⟨x,hx⟩:∃ x,(s.cG)[k]?=some x:=⟨_,List.getElem?_eq_getElem aQ⟩
     have hm:=List.mem_of_getElem? hx
     repeat (refine gn ?_)
     refine J.draw (by kernel_rfl) rfl ?_;refine JW.base none ?_;refine tk 0 ?_;refine tk 1 ?_;refine tk 2 ?_;refine JD.take 3 rfl rfl (by kernel_rfl) rfl (qb rfl) (Qt.bw rfl rfl (by omega) (eE hx)) rfl ?_;refine tk 4 ?_;refine tk 5 ?_;refine tk 6 ?_;refine tk 7 ?_;refine JD.take 8 rfl rfl (by kernel_rfl) rfl (qb rfl) (Qt.bw rfl rfl (by omega) (eE hx)) rfl ?_;refine tk 9 ?_;refine JD.take 10 rfl rfl (by kernel_rfl) rfl (qb rfl) (Qt.iP rfl rfl) rfl ?_;refine bt ?_
     repeat (refine gn ?_)
     exact (ih ⟨k + 1,by omega⟩ (by simp only;omega)).aW ⟨rfl,rfl,rfl,rfl,trivial⟩
    ·have t1:(decide ((k:Int) < ((s.cG).length:Int)))=false:=by simpa using aQ
     obtain rfl:k=(s.cG).length:=by omega
     repeat (refine gn ?_)
     refine J.loop (ι:={ k:Nat // k≤(s.done).length }) (fun p=>[(189,.c (nI p.1)),(188,.c (nI (s.done).length)),(2,.c (.v (.pointer (some ⟨b3,0,none⟩)))),(3,.c (.v (.pointer (some ⟨b2,0,none⟩))))]) (fun _=>[.box b2 36 (az s),.box b3 36 (az s)]) (fun p=>(s.done).length - p.1) ⟨0,Nat.zero_le _⟩ (fun X h=>h.aW ⟨rfl,rfl,rfl,rfl,trivial⟩) (fun p ih=>?_);obtain ⟨k,hk⟩:=p;simp only at hk ih ⊢
     by_cases aQ:k < (s.done).length
     ·have t1:(decide ((k:Int) < ((s.done).length:Int)))=true:=by simpa using aQ
      obtain ⟨x,hx⟩:∃ x,(s.done)[k]?=some x:=⟨_,List.getElem?_eq_getElem aQ⟩
      have hm:=List.mem_of_getElem? hx
      repeat (refine gn ?_)
      refine J.draw (by kernel_rfl) rfl ?_;refine JW.base none ?_;refine tk 0 ?_;refine tk 1 ?_;refine tk 2 ?_;refine JD.take 3 rfl rfl (by kernel_rfl) rfl (qb rfl) (Qt.bw rfl rfl (by omega) (eE hx)) rfl ?_;refine tk 4 ?_;refine tk 5 ?_;refine tk 6 ?_;refine tk 7 ?_;refine JD.take 8 rfl rfl (by kernel_rfl) rfl (qb rfl) (Qt.bw rfl rfl (by omega) (eE hx)) rfl ?_;refine tk 9 ?_;refine JD.take 10 rfl rfl (by kernel_rfl) rfl (qb rfl) (Qt.sV [.int .i64 x.g,.int .i64 x.op,.int .i64 x.call,.int .i64 x.ic,.int .i64 x.bQ,.int .i64 x.wi,.int .i64 x.dL,.int .i64 x.re,.int .i64 x.res.code,.int .i64 x.res.cs,.int .i64 x.res.v,.bool x.res.ok,.int .i64 x.res.n] rfl rfl (fun w=>It w _ _ _ _ _ _ _ _ _ _ _ _ _) Ip) rfl ?_;refine bt ?_
      repeat (refine gn ?_)
      exact (ih ⟨k + 1,by omega⟩ (by simp only;omega)).aW ⟨rfl,rfl,rfl,rfl,trivial⟩
     ·have t1:(decide ((k:Int) < ((s.done).length:Int)))=false:=by simpa using aQ
      obtain rfl:k=(s.done).length:=by omega
      repeat (refine gn ?_)
      exact aA Tryz.func18
end Fl
namespace Po
end Po
namespace Sx
variable {s:ah}
end Sx
namespace Sx
section
variable {n m:Nat} {s:ah} {g:Nat}
theorem Bd.cn (h:Bd n s) (c:Int):Bh n (cn s c):=by
 unfold Sx.cn;rw [List.getD_eq_getElem?_getD]
 cases e:s.au[(c - 1).toNat]? with
 | none=>exact ⟨by simp [lW],by simp [lW],by simp [lW],by simp [lW]⟩
 | some x=>exact h.cs x (List.mem_of_getElem? e)
theorem Bd.dy (h:Bd n s) {x:Gr} (hx:Bg n x):Bd n (ai s g x) :=
 ⟨by simpa [Sx.ai] using h.g8,h.c8,h.kJ,h.dn,h.dr,by simpa [Sx.ai] using h.cl,h.cb,h.mb,h.fr,fun y hy=>by
  rcases List.mem_or_eq_of_mem_set hy with hy | rfl
  ·exact h.gs y hy
  ·exact hx,h.cs⟩
theorem Bd.dJ (h:Bd n s) {c:Int} {x:Cn} (hx:Bh n x):Bd n (aE s c x) :=
 ⟨h.g8,by simpa [Sx.aE] using h.c8,h.kJ,h.dn,h.dr,h.cl,h.cb,h.mb,h.fr,h.gs,fun y hy=>by
  rcases List.mem_or_eq_of_mem_set hy with hy | rfl
  ·exact h.cs y hy
  ·exact hx⟩
theorem Bg.as {x y:Gr} (h:Bg n x) (e:y.ops=x.ops∧y.order=x.order∧y.aF=x.aF∧y.ay=x.ay∧y.an=x.an:=by exact ⟨rfl,rfl,rfl,rfl,rfl⟩):Bg n y:=by
 obtain ⟨e1,e2,e3,e4,e5⟩:=e;exact ⟨e1 ▸ h.op,e1 ▸ h.oc,e2 ▸ h.od,e3 ▸ h.lk,e4 ▸ h.sg,e5 ▸ h.wk⟩
theorem Bd.Cy (h:Bd n s) {y:Gr} (e:y.ops=(Sx.aa s g).ops∧y.order=(Sx.aa s g).order∧y.aF=(Sx.aa s g).aF∧y.ay=(Sx.aa s g).ay∧y.an=(Sx.aa s g).an:=by exact ⟨rfl,rfl,rfl,rfl,rfl⟩):Bd n (Sx.ai s g y):=h.dy ((h.gr g).as e)
theorem Bd.aI (h:Bd n s) {p:Int}:Bd n (aI s g p):=h.Cy
theorem Bd.drop (h:Bd n s) {i:Int}:Bd n (bq s i):=by
 unfold Sx.bq
 split
 ·exact h.dJ ⟨(h.cn _).cp,(h.cn _).bf,Nat.le_trans (List.length_filter_le _ _) (h.cn _).rv,Nat.le_trans (List.length_filter_le _ _) (h.cn _).sd⟩
 ·exact h
theorem Bd.pair (h:Bd n s) {i:Int}:Bd n (pair s g i):=by
 unfold Sx.pair;exact (h.Cy).dy ((h.gr g).as)
theorem Bd.an (h:Bd n s):Bd n (an s g):=by
 unfold Sx.an
 split <;> exact h.aI
end
end Sx
open Go.RowKit
namespace Sx
section
variable {s:ah} {g k:Nat} {x y:Gr} {f:Gr→Gr} {i j:Int} {d e:Su} {c:Int} {n:Cn}
end
end Sx
namespace Fl
open Sx
section
variable {P:Program} {F:FuncId} {ds:List D} {L Ll Lr:List ak}
end
section
variable {P:Program} {c:Cx} {k:List Item} {f:Fm} {L L2:List ak} {T X:TypeId} {ps:String} {af:Array Edge} {gd:Option (Nat × Bool)} {t:Nat}
end
theorem eW.nil {L:List ak}:eW [] L:=fun x hx=>by cases hx
section
variable {P:Program} {c:Cx} {k:List Item} {f f0:Fm} {L L0:List ak} {ops:Array Oper} {o:Oper} {m:Option Nat} {n:Nat} {aM:Array Bool}
theorem JS.sW {S:List Nat} {i t:Nat} {ι:Type} {g:ι→D} {L':ι→List ak} (hi:ops[i]?=some o) (hd:o.dst=some t) (hw:dM ops o f=true) (ht:t < c.N) (q:Ld P c o f L S (fun x=>(t,g x) :: f) L') (hS:eW S L)
  (h:∀ x,JD P c ops m (p6 L0) n (aM.setIfInBounds i true) k ((t,g x) :: f) (L' x) ((t,stays (g x)) :: f0) L0):JS P c ops m (p6 L0) n aM k f L f0 L0 i:=⟨fun a w w0 s s0 kp ho=>by
 refine wpOp_step hi (fun K hK=>?_);rw [dM.run hw s,if_pos rfl];refine q.go a w s K _ fun x v w' nX sx hf=>?_
 have mA:aq (jh L0 (p6 L0)) w0 w':=kp.trans nX fun x hx=>by
  rcases ho x (hS x hx) with h | h
  ·exact .inl (GF h)
  ·exact .inr h
 refine hK _ _ (.inr ⟨mA,(h x).go _ w' w0 sx ?_ mA ?_⟩)
 ·rw [hd];exact s0.kQ ht (stays.rep (by
   have h1:=sx.fr t (g x) (oV _ _ _);have h2:=s.size;rw [hd] at h1;simpa [Act.put,Array.getD_eq_getD_getElem?,Array.getElem?_setIfInBounds,h2,ht] using h1))
 ·intro y hy;rcases hf y hy with h1 | h1
  ·exact ho y h1
  ·exact .inr (Nat.le_trans kp.size h1)⟩
end
section
variable {P:Program} {c:Cx} {k:List Item} {fm:Fm} {L B:List ak} {mk:List ak→List ak} {ops:Array Oper} {l:List Oper} {u:U} {s:ah} {g:Nat}
end
section
variable (b:Nat) (u:U) (s:ah)
variable {s}
end
end Fl
open Go.RowKit
namespace Fl
open Sx
set_option maxRecDepth 100000
theorem Bd.fe {n:Nat} {s:ah} (h:Sx.Bd n s) (hn:n≤1000):Fe s :=
 ⟨by have:=h.g8;omega,by have:=h.c8;omega,by have:=h.kJ;omega,by have:=h.dr;omega,by have:=h.dn;omega,h.cl,fun l hl=>by have:=h.cb l hl;omega,by have:=h.mb;omega,
  fun x hx=>⟨by have:=(h.gs x hx).op;omega,fun o ho=>by have:=(h.gs x hx).oc o ho;omega,by have:=(h.gs x hx).od;omega,by have:=(h.gs x hx).lk;omega,by have:=(h.gs x hx).sg;omega,by have:=(h.gs x hx).wk;omega⟩,
  fun c hc=>by have:=(h.cs c hc);have:=this.bf;have:=(h.cs c hc).rv;have:=(h.cs c hc).sd;omega⟩
section
variable {s:ah} {g:Nat}
end
theorem ZZ {F:FuncId} {a:sy} {l:List Int} {n:Int} (h:Pure Tryz.prog F [.agg (mO a.p a.sn a.cn a.d),.c (ints l),.c (nI n)] (.c (bI true))) {w:World} {cs:Array Value} {U:List Nat} {v:Value} {S:List Nat} (he:qP w cs.toList a U) (hl:GV (kf .i64) 1 w v l S):Calls Tryz.prog F #[.agg cs,v,.int .i64 n] w fun e w'=>e=.returned (.bool true)∧aq [] w w' :=
 FM h (xs:=[.agg cs,v,.int .i64 n]) (bU.cons (by unfold RD;exact ⟨cs.toList,by simp,FJ he fun _ _=>trivial⟩) (bU.cons (by unfold RD;exact FI.ra hl fun _ _=>trivial) (bU.cons (RD.v rfl) bU.nil)))
end Fl
open Go.RowKit
namespace Fl
open Sx
set_option maxRecDepth 100000
def gY (s:ah) (q:Int):List Int:=if 0≤q∧q / 2 < s.au.length then (if q % 2=1 then (Sx.cn s (q / 2 + 1)).send else (Sx.cn s (q / 2 + 1)).recv) else []
theorem O4 {s:ah} {k:Nat} (h:s.au.length≤k):Sx.cn s ((k:Int) + 1)=lW:=by
 unfold Sx.cn;rw [show ((k:Int) + 1 - 1).toNat=k by omega,List.getD_eq_getElem?_getD,List.getElem?_eq_none h];rfl
theorem Z0 {s:ah} {q:Int} (wX:q < 16):Qu.row (qW s) q=gY s q:=by
 by_cases h0:0≤q
 ·obtain ⟨k,hk⟩:∃ k:Nat,q / 2=k:=⟨(q / 2).toNat,by omega⟩
  have k8:k < 8:=by omega
  unfold gY;rw [hk]
  by_cases h1:q % 2=1
  ·rw [if_pos h1,show q=2 * ((k:Int) + 1) - 1 by omega,Fs k8]
   by_cases hl:k < s.au.length
   ·rw [if_pos ⟨by omega,by omega⟩]
   ·rw [aB,O4 (by omega)];rfl
  ·rw [if_neg h1,show q=2 * ((k:Int) + 1) - 2 by omega,BO k8]
   by_cases hl:k < s.au.length
   ·rw [if_pos ⟨by omega,by omega⟩]
   ·rw [aB,O4 (by omega)];rfl
 ·have e1:gY s q=[]:=by unfold gY;exact if_neg (fun h=>h0 h.1)
  have e2:Qu.line (qW s) q=false:=by unfold Qu.line;rw [decide_eq_false h0];rfl
  rw [e1];unfold Qu.row;rw [e2];rfl
theorem Z1 {s:ah} {q i:Int} (hi:i∈gY s q):∃ c:Int,1≤c∧c≤s.au.length∧(i∈(Sx.cn s c).recv∨i∈(Sx.cn s c).send):=by
 unfold gY at hi
 split at hi
 ·rename_i h
  split at hi
  ·exact ⟨q / 2 + 1,by omega,by omega,.inr hi⟩
  ·exact ⟨q / 2 + 1,by omega,by omega,.inl hi⟩
 ·cases hi
def AW (s:ah) (g:Nat) (q:Int):Bool:=match gY s q with
 | []=>false
 | i :: _=>(su s i).g == (g:Int)
theorem Z2 (s:ah) (g:Nat) (q:Int) (h0:0≤q) (h1:q / 2 < s.au.length) (c8:s.au.length≤8) (hb:∀ c,(Sx.cn s c).recv.length≤1000∧(Sx.cn s c).send.length≤1000) (hs:∀ i,i∈gY s q→0≤i∧i < s.aC.length) :
  Pure Tryz.prog 40 [.agg (az s),.c (nI g),.c (nI q)] (.c (bI (AW s g q))):=by
 have Q:IntKind.i64.wrap (q.tdiv 2)=q / 2:=by rw [Int.tdiv_eq_ediv_of_nonneg h0];exact eL (by omega) (by omega)
 have M:q.tmod 2=q % 2:=Int.tmod_eq_emod_of_nonneg h0;have AC:=BW (s:=s) (ch:=q / 2 + 1) (oG.2 ⟨by omega,by omega⟩);rw [show q / 2 + 1 - 1=q / 2 by omega] at AC;have b1:=(hb (q / 2 + 1)).1;have b2:=(hb (q / 2 + 1)).2;have hr:gY s q=if q % 2=1 then (Sx.cn s (q / 2 + 1)).send else (Sx.cn s (q / 2 + 1)).recv:=by unfold gY;rw [if_pos ⟨h0,h1⟩]
 refine ax.intro Tryz.func40 rfl rfl rfl (fun ok e=>?_);unfold AW
 cases t2:(q % 2 == 1) with
 | true =>
  rw [if_pos (by simpa using t2)] at hr;rw [hr] at hs ⊢
  repeat (first | (refine K.binOp ?_;first | refine jq rfl rfl rfl ((Qt.quo rfl rfl (by decide) Q)) ?_ | refine jq rfl rfl rfl ((Qt.rem rfl rfl (by decide) M)) ?_) | (refine K.bi ?_;refine JO.ld (Ld.fz (qb rfl) rfl rfl .read (by (simp;omega))) rfl (fun _=>?_)) | refine av ?_ | intro _)
  cases hl:(Sx.cn s (q / 2 + 1)).send with
  | nil =>
   refine J.draw (by kernel_rfl) rfl ?_;refine JW.base none ?_;refine tk 0 ?_;refine tk 1 ?_;refine tk 2 ?_;refine tk 3 ?_
   (refine JD.skip 4 rfl rfl (by kernel_rfl) rfl (qb rfl) ?_)
   (refine JD.skip 5 rfl rfl (by kernel_rfl) rfl (qb rfl) ?_)
   (refine JD.skip 6 rfl rfl (by kernel_rfl) rfl (qb rfl) ?_)
   refine JD.skip 7 rfl rfl (by kernel_rfl) rfl (qb rfl) ?_
   (refine JD.skip 8 rfl rfl (by kernel_rfl) rfl (qb rfl) ?_)
   refine JD.skip 9 rfl rfl (by kernel_rfl) rfl (qb rfl) ?_
   (refine JD.skip 10 rfl rfl (by kernel_rfl) rfl (qb rfl) ?_)
   (refine JD.skip 11 rfl rfl (by kernel_rfl) rfl (qb rfl) ?_)
   (refine JD.skip 12 rfl rfl (by kernel_rfl) rfl (qb rfl) ?_)
   (refine JD.skip 13 rfl rfl (by kernel_rfl) rfl (qb rfl) ?_)
   refine tk 14 ?_;refine tk 15 ?_;refine bt ?_
   repeat (fail)
   exact aA Tryz.func40
  | cons i r =>
   obtain ⟨i0,i1⟩:=hs i (by rw [hl];simp);refine J.draw (by kernel_rfl) rfl ?_;refine JW.base none ?_;refine tk 0 ?_;refine tk 1 ?_;refine JD.take 2 rfl rfl (by kernel_rfl) rfl (qb rfl) (Qt.cmp rfl rfl (congrArg some (show (decide (((i :: r).length:Int) > 0))=true by simp))) rfl ?_;refine tk 3 ?_;refine tk 4 ?_;refine tk 5 ?_;refine tk 6 ?_
   (refine JD.take 7 rfl rfl (by kernel_rfl) rfl (qb rfl) (Qt.bw rfl rfl (by omega) (show (((i :: r):List Int).map fun n=>[nI n])[((0:Int)).toNat]?=some [nI i] from rfl)) rfl ?_)
   refine tk 8 ?_
   (refine JD.take 9 rfl rfl (by kernel_rfl) rfl (qb rfl) (Qt.bw rfl rfl i0 (iu i0 i1)) rfl ?_)
   refine tk 10 ?_;refine tk 11 ?_;refine tk 12 ?_;refine tk 13 ?_;refine tk 14 ?_;refine tk 15 ?_;refine bt ?_
   repeat (fail)
   exact aA Tryz.func40
 | false =>
  rw [if_neg (by simpa using t2)] at hr;rw [hr] at hs ⊢
  repeat (first | (refine K.binOp ?_;first | refine jq rfl rfl rfl ((Qt.quo rfl rfl (by decide) Q)) ?_ | refine jq rfl rfl rfl ((Qt.rem rfl rfl (by decide) M)) ?_) | (refine K.bi ?_;refine JO.ld (Ld.fz (qb rfl) rfl rfl .read (by (simp;omega))) rfl (fun _=>?_)) | refine av ?_ | intro _)
  cases hl:(Sx.cn s (q / 2 + 1)).recv with
  | nil =>
   refine J.draw (by kernel_rfl) rfl ?_;refine JW.base none ?_;refine tk 0 ?_;refine tk 1 ?_;refine tk 2 ?_;refine tk 3 ?_
   (refine JD.skip 4 rfl rfl (by kernel_rfl) rfl (qb rfl) ?_)
   (refine JD.skip 5 rfl rfl (by kernel_rfl) rfl (qb rfl) ?_)
   (refine JD.skip 6 rfl rfl (by kernel_rfl) rfl (qb rfl) ?_)
   refine JD.skip 7 rfl rfl (by kernel_rfl) rfl (qb rfl) ?_
   (refine JD.skip 8 rfl rfl (by kernel_rfl) rfl (qb rfl) ?_)
   refine JD.skip 9 rfl rfl (by kernel_rfl) rfl (qb rfl) ?_
   (refine JD.skip 10 rfl rfl (by kernel_rfl) rfl (qb rfl) ?_)
   (refine JD.skip 11 rfl rfl (by kernel_rfl) rfl (qb rfl) ?_)
   (refine JD.skip 12 rfl rfl (by kernel_rfl) rfl (qb rfl) ?_)
   (refine JD.skip 13 rfl rfl (by kernel_rfl) rfl (qb rfl) ?_)
   refine tk 14 ?_;refine tk 15 ?_;refine bt ?_
   repeat (fail)
   exact aA Tryz.func40
  | cons i r =>
   obtain ⟨i0,i1⟩:=hs i (by rw [hl];simp);refine J.draw (by kernel_rfl) rfl ?_;refine JW.base none ?_;refine tk 0 ?_;refine tk 1 ?_;refine JD.take 2 rfl rfl (by kernel_rfl) rfl (qb rfl) (Qt.cmp rfl rfl (congrArg some (show (decide (((i :: r).length:Int) > 0))=true by simp))) rfl ?_;refine tk 3 ?_;refine tk 4 ?_;refine tk 5 ?_;refine tk 6 ?_
   (refine JD.take 7 rfl rfl (by kernel_rfl) rfl (qb rfl) (Qt.bw rfl rfl (by omega) (show (((i :: r):List Int).map fun n=>[nI n])[((0:Int)).toNat]?=some [nI i] from rfl)) rfl ?_)
   refine tk 8 ?_
   (refine JD.take 9 rfl rfl (by kernel_rfl) rfl (qb rfl) (Qt.bw rfl rfl i0 (iu i0 i1)) rfl ?_)
   refine tk 10 ?_;refine tk 11 ?_;refine tk 12 ?_;refine tk 13 ?_;refine tk 14 ?_;refine tk 15 ?_;refine bt ?_
   repeat (fail)
   exact aA Tryz.func40
theorem Z3 (s:ah) (g:Nat) (q wn hn:Int) (hg:g < s.gs.length) (fit:Fit s) (c8:s.au.length≤8) (hs:∀ i,i∈gY s q→dz s i) (hq:q < 16) (q9:-9223372036854775808≤q) :
  Pure Tryz.prog 42 [.agg (az s),.c (nI g),.c (nI q),.c (nI wn),.c (nI hn)] (.aZ [.agg (az (rj s g (gY s q) wn hn).1),.c (bI (rj s g (gY s q) wn hn).2)]):=by
 refine ax.intro Tryz.func42 rfl rfl rfl (fun ok e=>?_)
 by_cases h0:0≤q
 case neg =>
  have e1:gY s q=[]:=by unfold gY;exact if_neg (fun h=>h0 h.1)
  have t1:decide (q < 0)=true:=decide_eq_true (by omega);rw [e1]
  repeat (first | refine av ?_ | intro _)
  exact aA Tryz.func42
 have t1:decide (q < 0)=false:=decide_eq_false (by omega);have Q:IntKind.i64.wrap (q.tdiv 2)=q / 2:=by rw [Int.tdiv_eq_ediv_of_nonneg h0];exact eL (by omega) (by omega)
 have M:q.tmod 2=q % 2:=Int.tmod_eq_emod_of_nonneg h0
 by_cases h1:q / 2 < s.au.length
 case neg =>
  have e1:gY s q=[]:=by unfold gY;exact if_neg (fun h=>h1 h.2)
  have t3:decide (q / 2 ≥ (s.au.length:Int))=true:=decide_eq_true (by omega);rw [e1]
  repeat (first | (refine K.binOp ?_;refine jq rfl rfl rfl ((Qt.quo rfl rfl (by decide) Q)) ?_) | refine av ?_ | intro _)
  exact aA Tryz.func42
 have t3:decide (q / 2 ≥ (s.au.length:Int))=false:=decide_eq_false (by omega);have AC:=BW (s:=s) (ch:=q / 2 + 1) (oG.2 ⟨by omega,by omega⟩);rw [show q / 2 + 1 - 1=q / 2 by omega] at AC;have hr:gY s q=if q % 2=1 then (Sx.cn s (q / 2 + 1)).send else (Sx.cn s (q / 2 + 1)).recv:=by unfold gY;rw [if_pos ⟨h0,h1⟩]
 cases t2:(q % 2 == 1) with
 | true =>
  rw [if_pos (by simpa using t2)] at hr;rw [hr] at hs ⊢
  cases hl:(Sx.cn s (q / 2 + 1)).send with
  | nil =>
   repeat (first | (refine K.binOp ?_;first | refine jq rfl rfl rfl ((Qt.quo rfl rfl (by decide) Q)) ?_ | refine jq rfl rfl rfl ((Qt.rem rfl rfl (by decide) M)) ?_) | refine av ?_ | intro _)
   rw [hl]
   repeat (refine gn ?_)
   exact aA Tryz.func42
  | cons i r =>
   have CT:=xK s g i wn hn hg (hs i (by rw [hl];simp)) fit
   repeat (first | (refine K.binOp ?_;first | refine jq rfl rfl rfl ((Qt.quo rfl rfl (by decide) Q)) ?_ | refine jq rfl rfl rfl ((Qt.rem rfl rfl (by decide) M)) ?_) | refine av ?_ | intro _)
   rw [hl]
   repeat (refine gn ?_)
   refine J.draw (by kernel_rfl) rfl ?_;refine JW.base (some 8) ?_;refine tk 0 ?_;refine tk 1 ?_;refine tk 2 ?_;refine JD.take 3 rfl rfl (by kernel_rfl) rfl (qb rfl) (Qt.bw rfl rfl (by omega) (show (((i :: r):List Int).map fun n=>[nI n])[((0:Int)).toNat]?=some [nI i] from rfl)) rfl ?_;refine tk 4 ?_;refine tk 5 ?_;refine tk 6 ?_;refine cW 7 (CT) ?_;refine jt 8 rfl rfl (Ld.aX rfl rfl rfl (by exact rfl) (by exact rfl)) (fun _=>?_);refine JW.base none ?_;refine jk 9 rfl rfl rfl rfl (Qt.assign rfl) ?_;refine bt ?_
   repeat (fail)
   exact aA Tryz.func42
 | false =>
  rw [if_neg (by simpa using t2)] at hr;rw [hr] at hs ⊢
  cases hl:(Sx.cn s (q / 2 + 1)).recv with
  | nil =>
   repeat (first | (refine K.binOp ?_;first | refine jq rfl rfl rfl ((Qt.quo rfl rfl (by decide) Q)) ?_ | refine jq rfl rfl rfl ((Qt.rem rfl rfl (by decide) M)) ?_) | refine av ?_ | intro _)
   rw [hl]
   repeat (refine gn ?_)
   exact aA Tryz.func42
  | cons i r =>
   have CT:=xK s g i wn hn hg (hs i (by rw [hl];simp)) fit
   repeat (first | (refine K.binOp ?_;first | refine jq rfl rfl rfl ((Qt.quo rfl rfl (by decide) Q)) ?_ | refine jq rfl rfl rfl ((Qt.rem rfl rfl (by decide) M)) ?_) | refine av ?_ | intro _)
   rw [hl]
   repeat (refine gn ?_)
   refine J.draw (by kernel_rfl) rfl ?_;refine JW.base (some 8) ?_;refine tk 0 ?_;refine tk 1 ?_;refine tk 2 ?_;refine JD.take 3 rfl rfl (by kernel_rfl) rfl (qb rfl) (Qt.bw rfl rfl (by omega) (show (((i :: r):List Int).map fun n=>[nI n])[((0:Int)).toNat]?=some [nI i] from rfl)) rfl ?_;refine tk 4 ?_;refine tk 5 ?_;refine tk 6 ?_;refine cW 7 (CT) ?_;refine jt 8 rfl rfl (Ld.aX rfl rfl rfl (by exact rfl) (by exact rfl)) (fun _=>?_);refine JW.base none ?_;refine jk 9 rfl rfl rfl rfl (Qt.assign rfl) ?_;refine bt ?_
   repeat (fail)
   exact aA Tryz.func42
theorem Z4 {s:ah} {g:Nat} {l:List Int} {wn hn:Int} (B:Sx.Bd 200 s):Sx.Bd 200 (rj s g l wn hn).1:=by
 unfold rj taken
 split
 ·exact B
 ·dsimp only
  split
  ·exact Sx.Bd.aI B.Cy
  ·exact Sx.Bd.aI (Sx.Bd.pair (Sx.Bd.drop B.Cy))
theorem Z5 (p:List (List Pn.Op)) (sn cn:Int) (d l:List Int) (n:Int) (hn:-9223372036854775808≤n) (hd:∀ x∈d,0≤x∧x < 65536) :
  Pure Tryz.prog 10 [.agg (mO p sn cn d),.c (ints l),.c (nI n)] (.c (bI true)):=by
 have CR:=Hr p sn cn d l hd;have HG:=Hq (p:=p) (sn:=sn) (cn:=cn) (l:=l) hd;generalize j8 p sn cn d l=r at CR HG;obtain ⟨s,o⟩:=r;refine ax.intro Tryz.func10 rfl rfl rfl (fun ok e=>?_)
 cases o with
 | false =>
  repeat (first | (refine K.store ?_;refine JO.ld (Ld.aX rfl rfl rfl (by exact rfl) (by exact rfl)) rfl (fun _=>?_)) | refine kU (xX) ?_ | refine av ?_ | intro _)
  exact aA Tryz.func10
 | true =>
 have G:Sx.Good s:=HG rfl;have G':=G.toMInv;have g8:=G.n8;have c8:=G.c8;have BG:=xV G;clear HG
 repeat (first | (refine K.store ?_;refine JO.ld (Ld.aX rfl rfl rfl (by exact rfl) (by exact rfl)) rfl (fun _=>?_)) | refine kU (xX) ?_ | refine av ?_ | intro _)
 rename_i b3 b7 _;refine J.loop (ι:={ k:Nat // k≤s.gs.length }) (fun q=>[(29,.c (nI q.1)),(28,.c (nI s.gs.length)),(7,.c (.v (pt b7))),(2,.c (nI n))]) (fun _=>[.box b7 36 (az s),.box b3 27 (mO p sn cn d)]) (fun q=>s.gs.length - q.1) ⟨0,Nat.zero_le _⟩ (fun X h=>h.aW ⟨rfl,rfl,rfl,rfl,trivial⟩) (fun q ih=>?_);obtain ⟨g,hk⟩:=q;simp only at hk ih ⊢
 by_cases hg:g < s.gs.length
 case neg =>
  have t1:(decide ((g:Int) < (s.gs.length:Int)))=false:=by simpa using hg
  repeat (refine gn ?_)
  exact aA Tryz.func10
 have t1:(decide ((g:Int) < (s.gs.length:Int)))=true:=by simpa using hg
 repeat (first | (refine K.lit ?_;refine JO.ld (Ld.w9 (mm:=([0,1,2,3,4,5,n]:List Int).map fun n=>[nI n]) (qb rfl) rfl rfl rfl rfl rfl rfl (.of (by exact rfl))) rfl (fun _=>?_)) | refine gn ?_)
 refine J.loop (ι:={ j:Nat // j≤7 }) (fun q=>[(35,.c (nI q.1)),(34,.c (nI 7)),(33,.c (ints [0,1,2,3,4,5,n])),(29,.c (nI g)),(28,.c (nI s.gs.length)),(9,.c (nI g)),(7,.c (.v (pt b7))),(2,.c (nI n))]) (fun _=>[.box b7 36 (az s),.box b3 27 (mO p sn cn d)]) (fun q=>7 - q.1) ⟨0,Nat.zero_le _⟩ (fun X h=>h.aW ⟨rfl,rfl,rfl,rfl,rfl,rfl,rfl,rfl,trivial⟩) (fun q iX=>?_);obtain ⟨j,hj⟩:=q;simp only at hj iX ⊢
 by_cases Z6:j < 7
 case neg =>
  have t2:(decide ((j:Int) < 7))=false:=decide_eq_false (by omega)
  repeat (refine gn ?_)
  exact (ih ⟨g + 1,by omega⟩ (by simp only;omega)).aW ⟨rfl,rfl,rfl,rfl,trivial⟩
 have t2:(decide ((j:Int) < 7))=true:=decide_eq_true (by omega);have yf:j < ([0,1,2,3,4,5,n]:List Int).length:=Z6;obtain ⟨k,wH⟩:∃ k,([0,1,2,3,4,5,n]:List Int)[j]?=some k:=⟨_,List.getElem?_eq_getElem yf⟩
 have k9:-9223372036854775808≤k:=by
  have hm:=List.mem_of_getElem? wH;simp only [List.mem_cons,List.not_mem_nil,or_false] at hm;omega
 have A1:=ints_at wH
 by_cases wX:16≤k
 ·have t16:decide (k ≥ 16)=true:=decide_eq_true wX
  repeat (refine gn ?_)
  exact (iX ⟨j + 1,by omega⟩ (by simp only;omega)).aW ⟨rfl,rfl,rfl,rfl,rfl,rfl,rfl,rfl,trivial⟩
 have t16:decide (k ≥ 16)=false:=decide_eq_false wX;have xY:∀ i,i∈gY s k→dz s i:=fun i hi=>by
  obtain ⟨c,_,_,hc⟩:=Z1 hi;exact vN G' hc
 have Z7:∀ c,(Sx.cn s c).recv.length≤1000∧(Sx.cn s c).send.length≤1000:=fun c=>by
  have:=Di G' c;omega
 have Q:0≤k→IntKind.i64.wrap (k.tdiv 2)=k / 2:=fun h0=>by rw [Int.tdiv_eq_ediv_of_nonneg h0];exact eL (by omega) (by omega)
 have CW:=fun h0 h1=>Z2 s g k h0 h1 c8 Z7 (fun i hi=>⟨(xY i hi).1,(xY i hi).2.1⟩)
 cases uv:AW s g k with
 | true =>
  have hJ:0≤k∧k / 2 < s.au.length:=by
   false_or_by_contra
   rename_i hc;unfold AW gY at uv;rw [if_neg hc] at uv
   cases uv
  have t0:decide (k ≥ 0)=true:=decide_eq_true hJ.1;have t3:decide (k / 2 < (s.au.length:Int))=true:=decide_eq_true hJ.2;have CW:=CW hJ.1 hJ.2;rw [uv] at CW
  repeat (first | (refine K.binOp ?_;refine jq rfl rfl rfl ((Qt.quo rfl rfl (by decide) (Q hJ.1))) ?_) | refine gn ?_)
  exact (iX ⟨j + 1,by omega⟩ (by simp only;omega)).aW ⟨rfl,rfl,rfl,rfl,rfl,rfl,rfl,rfl,trivial⟩
 | false =>
 rw [uv] at CW;have hq:∀ i r,gY s k=i :: r→0≤i∧i < s.aC.length∧(0≤(su s i).cs∨∃ o,oP s g o i):=fun i r hr=>by
  have si:=xY i (by rw [hr];simp);unfold AW at uv;rw [hr] at uv;have ne:(su s i).g≠(g:Int):=by simpa using uv
  obtain ⟨s0,s1,s2,s3⟩:=si;exact ⟨s0,s1,.inr ⟨(su s i).g.toNat,s0,s1,by omega,by omega,fun e=>by omega⟩⟩
 have CO:=Dm s (Hp G);have C0:=fun b u=>OP b u s g k 7 8 (gY s k) hg G.qs (Z0 (by omega)) hq
 have C2:=Z3 s g k 7 8 hg (sS G) c8 xY (by omega) k9;have BT:=Z4 (g:=g) (l:=gY s k) (wn:=7) (hn:=8) BG;have CS:=Iy (rj s g (gY s k) 7 8).1 (Bd.fe BT (by omega));have FW:=Bd.fw BT (by omega);generalize rj s g (gY s k) 7 8=r at C0 C2 CS FW BT;obtain ⟨s2,o2⟩:=r;simp only at C0 C2 CS FW;have h3:decide (k ≥ 0)=false∨(decide (k ≥ 0)=true∧IntKind.i64.wrap (k.tdiv 2)=k / 2∧decide (k / 2 < (s.au.length:Int))=false)∨(decide (k ≥ 0)=true∧IntKind.i64.wrap (k.tdiv 2)=k / 2∧decide (k / 2 < (s.au.length:Int))=true∧Pure Tryz.prog 40 [.agg (az s),.c (nI g),.c (nI k)] (.c (bI false))):=by
  by_cases a:0≤k
  ·by_cases b:k / 2 < s.au.length
   ·exact .inr (.inr ⟨decide_eq_true a,Q a,decide_eq_true b,CW a b⟩)
   ·exact .inr (.inl ⟨decide_eq_true a,Q a,decide_eq_false b⟩)
  ·exact .inl (decide_eq_false a)
 clear CW Q;rcases h3 with t0 | ⟨t0,Q,t3⟩ | ⟨t0,Q,t3,CW⟩
 all_goals
  repeat (first | (refine K.binOp ?_;first | refine jq rfl rfl rfl ((Qt.quo rfl rfl (by decide) Q)) ?_ | refine jq rfl rfl rfl (Qt.BX BY rfl rfl) ?_) | (refine K.call ?_;(refine JO.ld (Ld.aV CO (qb rfl) rfl (.cons .refl .nil)) rfl ?_;intro x)) | refine gn ?_)
  obtain ⟨⟨b8,u⟩,hu⟩:=x;simp only at hu ⊢;have C1:=C0 b8 u
  repeat (first | (refine K.store ?_;refine JO.ld (Ld.aX rfl rfl rfl (by exact rfl) (by exact rfl)) rfl (fun _=>?_)) | (refine K.call ?_;(refine JO.ld (Ld.aV C1 (qb rfl) rfl (.cons .refl (.cons .refl (.cons .refl (.cons .refl (.cons .refl .nil)))))) rfl ?_;intro _)) | refine av ?_ | intro _)
  have CT:=BP b8 u s2 FW
  cases o2
  all_goals
   refine J.draw (by kernel_rfl) rfl ?_;refine JW.p7 none ?_;refine tk 0 ?_;refine tk 1 ?_;refine tk 2 ?_;refine tk 3 ?_;refine tk 4 ?_;refine JD.cU (i:=5) (j:=6) (by kernel_rfl) ?_ ?_;refine JS.sW rfl rfl rfl (qb rfl) (Ld.aV CT (qb rfl) rfl (.cons .refl .nil)) (eW.aT) (fun _=>?_);refine jk 6 rfl rfl rfl rfl (Qt.sZ rfl (by exact rfl)) ?_;refine JD.bJ (i:=7) (by kernel_rfl) ?_;refine JS.sW rfl rfl rfl (qb rfl) (Ld.pure (CS) (qb rfl) rfl (by repeat (first | exact aK.nil | refine aK.cons (dB.agg (by repeat (first | exact .nil | refine .cons .refl ?_))) ?_))) (eW.nil) (fun _=>?_);refine tk 8 ?_;refine jk 9 rfl rfl rfl rfl (Qt.pick rfl rfl) ?_;refine bt ?_
   rotate_left
   (refine JS.q rfl rfl rfl (qb rfl) (Qt.sZ rfl (by exact rfl)) ?_)
   refine JD.bJ (i:=5) (by kernel_rfl) ?_;refine JS.sW rfl rfl rfl (qb rfl) (Ld.aV CT (qb rfl) rfl (.cons .refl .nil)) (eW.aT) (fun _=>?_);refine JD.bJ (i:=7) (by kernel_rfl) ?_;refine JS.sW rfl rfl rfl (qb rfl) (Ld.pure (CS) (qb rfl) rfl (by repeat (first | exact aK.nil | refine aK.cons (dB.agg (by repeat (first | exact .nil | refine .cons .refl ?_))) ?_))) (eW.nil) (fun _=>?_);refine tk 8 ?_;refine jk 9 rfl rfl rfl rfl (Qt.pick rfl rfl) ?_;refine bt ?_
   rotate_left
   all_goals
    repeat (refine gn ?_)
    refine J.CH b8 ?_;refine J.eP 0 ?_;exact (iX ⟨j + 1,by omega⟩ (by simp only;omega)).aW ⟨rfl,rfl,rfl,rfl,rfl,rfl,rfl,rfl,trivial⟩
theorem Z8 (w:World) (cs:Array Value) (a:sy) (U:List Nat) (sz:cs.size=4) (he:qP w cs.toList a U) (oc:∀ y∈cs.toList,y.oneCell'=true) (v:Value) (l:List Int) (S:List Nat) (hl:GV (kf .i64) 1 w v l S) (n:Int) (wn:(Lit.int .i64 n).wf=true) :
  Calls Tryz.prog 10 #[.agg cs,v,.int .i64 n] w fun e w'=>e=.returned (.bool true)∧aq [] w w' :=
 ZZ (Z5 a.p a.sn a.cn a.d l n (by have:=wn;simp [Lit.wf] at this;have e1:IntKind.i64.min=-9223372036854775808:=rfl;omega) (Hs he)) he hl
end Fl
end Go.Proofs.YtofnbflkhgammaaGreat
