/-
  What the laws need, part RA1.
  Conditions: none.
-/
import Derived.Test.YtofnbflkhgammaaGreatD44
import Derived.Laws.StructEq
set_option linter.unusedVariables false
set_option linter.unusedSimpArgs false
set_option linter.unnecessarySimpa false
set_option maxHeartbeats 2000000
namespace Go.Proofs.YtofnbflkhgammaaGreat
open Go.RowKit
namespace Fl
open Sx
section
variable {P:Program}
end
section
variable (P:Program) (c:Cx)
end
section
variable {P:Program} {c:Cx} {k:List Item} {f:Fm} {L:List ak} {ops:Array Oper} {l:List Oper} {o:Oper}
end
section
variable {P:Program} {c:Cx} {f:Fm} {L:List ak} {t:Option Tmp} {T:TypeId} {ps:String} {af:Array Edge} {gd:Option (Nat × Bool)}
theorem Qt.aaS {x:Operand} {X sz q o e j n:Nat} {v:Value} {l:List (List A)} {cs es:List A} [i:jW P X n] [bx:gJ L v e sz l j] (h:aU f x=some (.ow v sz q o)) (hq:l[q]?=some cs) (he:(cs.drop o).take n=es) (hn:es.length=n):Qt P c [j] ⟨t,.load X x,T,ps,af,gd⟩ f L (.agg es):=Qt.we h (.ow j bx.h hq) he hn
end
end Fl
namespace Fl
open Sx
instance:bP Tryz.prog 45 3 3:={}
instance:aJ Tryz.prog 18:={}
instance:aJ Tryz.prog 21:={}
instance:aJ Tryz.prog 43:={}
instance:aJ Tryz.prog 44:={}
instance:aJ Tryz.prog 45:={}
instance:aJ Tryz.prog 46:={}
instance:aJ Tryz.prog 72:={}
instance:aJ Tryz.prog 73:={}
instance:aJ Tryz.prog 74:={}
instance:aJ Tryz.prog 113:={}
instance:aJ Tryz.prog 114:={}
instance:aJ Tryz.prog 115:={}
instance:aJ Tryz.prog 117:={}
instance:aJ Tryz.prog 134:={}
instance:aJ Tryz.prog 163:={}
instance:aJ Tryz.prog 164:={}
instance:aJ Tryz.prog 165:={}
instance:aJ Tryz.prog 166:={}
instance:aJ Tryz.prog 167:={}
instance:aJ Tryz.prog 168:={}
instance:aJ Tryz.prog 189:={}
instance:aJ Tryz.prog 192:={}
end Fl
open Go.RowKit
namespace Rn
theorem get (ps:List Int) (f c:Nat) (h:0 < c):jL ps ((f + 1) % ps.length) (c - 1)=(jL ps f c).tail:=by
 apply List.ext_getElem
 ·simp [jL]
 ·intro i h1 h2;simp only [jL,List.getElem_map,List.getElem_range,List.getElem_tail]
  congr 1
  rw [show f + (i + 1)=(f + 1) + i by omega,Nat.add_mod,Nat.mod_mod,← Nat.add_mod]
theorem aaT (ps qs:List Int) (f c:Nat) (hl:ps.length=qs.length) (h:∀ i,i < c→ps.getD ((f + i) % ps.length) 0=qs.getD ((f + i) % ps.length) 0):jL ps f c=jL qs f c:=by
 unfold jL;apply List.map_congr_left;intro i hi;rw [h i (by simpa using hi),hl]
theorem pass (ps:List Int) (f:Nat) (v:Int) (h:0 < ps.length) (hf:f < ps.length):jL (ps.set f v) ((f + 1) % ps.length) ps.length=(jL ps f ps.length).tail ++ [v]:=by
 have e1:jL (ps.set f v) ((f + 1) % ps.length) ps.length=jL ((ps.set f v).set (((f + 1) % ps.length + (ps.length - 1)) % ps.length) v) ((f + 1) % ps.length) (ps.length - 1 + 1):=by
  have hq:((f + 1) % ps.length + (ps.length - 1)) % ps.length=f:=by
   rw [Nat.add_mod,Nat.mod_mod,← Nat.add_mod,show f + 1 + (ps.length - 1)=f + ps.length by omega,Nat.add_mod_right,Nat.mod_eq_of_lt hf]
  rw [hq,List.set_set,show ps.length - 1 + 1=ps.length by omega]
 have hl:(ps.set f v).length=ps.length:=by simp
 have e2:=put (ps.set f v) ((f + 1) % ps.length) (ps.length - 1) v (by rw [hl];omega);rw [hl] at e2;rw [e1,e2]
 congr 1
 have e3:=get ps f ps.length h;rw [← e3];apply aaT
 ·simp
 ·intro i hi;rw [hl];apply getD_set_ne;intro e;have:(f + 1 + i) % ps.length=f % ps.length:=by
   rw [Nat.mod_eq_of_lt hf];rw [Nat.add_mod,Nat.mod_mod,← Nat.add_mod] at e;exact e.symm
  have h2:=SY ps.length f 0 (i + 1) (by omega) (by omega);apply h2;rw [Nat.add_zero,← this,show f + (i + 1)=f + 1 + i by omega]
theorem head (ps:List Int) (f c:Nat) (h:0 < c) (hf:f < ps.length):(jL ps f c).headD 0=ps.getD f 0:=by
 obtain ⟨k,rfl⟩:∃ k,c=k + 1:=⟨c - 1,by omega⟩
 unfold jL;rw [List.range_succ_eq_map];simp [Nat.mod_eq_of_lt hf]
def hd (l:List Int):Int:=l.headD 0
def aae (N:Nat) (l:List Int):Bool:=decide (l.length=N) && !l.isEmpty
def aaf (N:Nat) (l:List Int):Int:=if aae N l then hd l else 0
def aag (N:Nat) (l:List Int) (v:Int):List Int:=if aae N l then l.tail ++ [v] else l
end Rn
open Go.RowKit
section
variable {w w':World} {p:Value} {N:Nat} {l:List Int} {S T:List Nat}
end
theorem aaU (w:World) (p:Value) (N:Nat) (l:List Int) (S:List Nat) (h:Rg w p N l S) :
  Calls Tryz.prog 189 #[p] w fun e w'=>e=.returned (.int .i64 l.length)∧w=w':=by
 obtain ⟨b,v,U,ps,f,rfl,hb,hr,hd,rfl,rfl,oA,hl,hle,hf⟩:=h;have c2:w.cell? ⟨b,2,none⟩=some (.int .i64 l.length):=hb.cell 2;clear hb hr hd oA hl hle hf
 go_enter Tryz.func189,Tryz.ntmps189
 go_wp2
 go_ret
 exact ⟨rfl,rfl⟩
theorem Raw.first {w:World} {b g off cap:Nat} {ps:List Int} {f c:Int} (h:Raw w b g off cap ps f c) (f':Int):Raw (w.setCell ⟨b,1,none⟩ (.int .i64 f')) b g off cap ps f' c :=
 ⟨by simpa using h.1.set 1 (.int .i64 f'),h.2.1.aY ((aq.refl [b] w).setCell (p:=⟨b,1,none⟩) (by simp) _) (by simp [h.2.2.symm]),h.2.2⟩
def aay (p:Value) (N:Nat) (x:Int) (ok:Bool) (l':List Int) (S:List Nat) (w:World) (e:Ending) (w':World):Prop :=
 e=.returned (.tuple #[.int .i64 x,.bool ok])∧aq S w w'∧Rg w' p N l' S
set_option maxHeartbeats 800000 in
theorem aaV (w:World) (p:Value) (N:Nat) (l:List Int) (S:List Nat) (h:Rg w p N l S) :
  Calls Tryz.prog 192 #[p] w (aay p N (Rn.hd l) (!l.isEmpty) l.tail S w):=by
 obtain ⟨b,rfl⟩:=h.shape;have H0:=Lib.hid h;have hle:=h.le
 by_cases uR:l=[]
 ·subst uR;obtain ⟨b',sv,U,ps,f,mG,hb,hr,hd,rfl,rfl,aal⟩:=h;clear aal;obtain rfl:b=b':=by simpa using mG
  have c2:w.cell? ⟨b,2,none⟩=some (.int .i64 (0:Int)):=hb.cell 2;clear hb hr hd mG hle
  go_enter Tryz.func192,Tryz.ntmps192
  go_wp2
  go_ret2
  exact ⟨rfl,aq.refl _ _,H0.out⟩
 ·have hlp:0 < l.length:=List.length_pos_iff.2 uR;obtain ⟨g,off,cap,ps,f,rfl,rfl,cK,oA,hl,_,BI⟩:=h.raw (by omega);have HHd:Hid (Rn.hd l=ps.getD f 0):=Lib.hid (by unfold Rn.hd;rw [hl];exact Rn.head ps f _ hlp BI);have HTl:Hid (l.tail=Rn.jL ps ((f + 1) % ps.length) l.tail.length):=Lib.hid (by
   rw [List.length_tail];have:=Rn.get ps f l.length hlp;rw [this,← hl])
  have HE:Hid ((!l.isEmpty)=true):=Lib.hid (by simp [uR]);obtain ⟨j,hj⟩:∃ j,j=(f + 1) % ps.length:=⟨_,rfl⟩
  have BJ:j < ps.length:=by rw [hj];exact Nat.mod_lt _ (by omega)
  have HJ:=Lib.hid hj;have hq:((l.length:Int) == 0)=false:=by simp [uR]
  obtain ⟨c0,c1,c2,f1,f2⟩:=cK.cells;obtain ⟨cg,fg⟩:=cK.place f BI;have HR:=Lib.hid cK;have h1l:1≤(l.length:Int):=by omega
  have hfI:(f:Int) < ps.length:=by omega
  clear cK hj hl uR h H0;obtain ⟨x,HX⟩:∃ x,Hid (ps.getD f 0=x):=⟨_,rfl⟩
  rw [HX.out] at cg
  go_enter Tryz.func192,Tryz.ntmps192
  go_wp2_with fail
  go_quiet (fail)
  go_wp2_with fail
  refine (KZ _ b _ _ cap f 1 (by exact c0) (by exact c1) BI oA (by omega)).mono ?_
  rintro e w2 ⟨rfl,m2,rfl⟩
  rw [← HJ.out]
  go_wp2_with fail
  go_ret2
  refine ⟨?_,?_,?_⟩
  ·rw [HE.out,HHd.out,HX.out];rfl
  ·exact (((aq.refl [b,g] w).drewN _).setCell (by simp) _).setCell (by simp) _
  ·refine ((((HR.out.draw _).first j).count ((l.length:Int) - 1)).rg rfl l.tail (by simp;omega) oA ?_ (by simp;omega) BJ);rw [HJ.out];exact HTl.out
set_option maxHeartbeats 1600000 in
theorem aa0 (w:World) (p:Value) (N:Nat) (l:List Int) (S:List Nat) (v:Int) (h:Rg w p N l S) :
  Calls Tryz.prog 117 #[p,.int .i64 v] w (aay p N (Rn.aaf N l) (Rn.aae N l) (Rn.aag N l v) S w):=by
 obtain ⟨b,rfl⟩:=h.shape;have H0:=Lib.hid h;have hle:=h.le
 by_cases nU:l.length=N∧l≠[]
 ·obtain ⟨hN,uR⟩:=nU;have hlp:0 < l.length:=List.length_pos_iff.2 uR;obtain ⟨g,off,cap,ps,f,rfl,rfl,cK,oA,hl,_,BI⟩:=h.raw (by omega);have Fc:Hid (Rn.aae ps.length l=true):=Lib.hid (by simp [Rn.aae,hN,uR]);have HHd:Hid (Rn.hd l=ps.getD f 0):=Lib.hid (by unfold Rn.hd;rw [hl];exact Rn.head ps f _ hlp BI);have HTl:Hid (l.tail ++ [v]=Rn.jL (ps.set f v) ((f + 1) % ps.length) (l.tail ++ [v]).length):=Lib.hid (by
   have e1:(l.tail ++ [v]).length=ps.length:=by simp;omega
   rw [e1,Rn.pass ps f v (by omega) BI,← hN,← hl])
  obtain ⟨j,hj⟩:∃ j,j=(f + 1) % ps.length:=⟨_,rfl⟩
  have BJ:j < ps.length:=by rw [hj];exact Nat.mod_lt _ (by omega)
  have HJ:=Lib.hid hj;have hq:((l.length:Int) == 0)=false:=by simp [uR]
  have uJ:decide (l.length=ps.length)=true:=by simp [hN]
  obtain ⟨c0,c1,c2,f1,f2⟩:=cK.cells;obtain ⟨cg,fg⟩:=cK.place f BI;have HR:=Lib.hid cK;have HN:=Lib.hid hN;have hfI:(f:Int) < ps.length:=by omega
  have rR:=cK.2.2;clear cK hj hl uR hN h;obtain ⟨x,HX⟩:∃ x,Hid (ps.getD f 0=x):=⟨_,rfl⟩
  rw [HX.out] at cg
  go_enter Tryz.func117,Tryz.ntmps117
  go_wp2_with fail
  refine (Fa _ _ _ _ _ H0.out).mono ?_
  rintro e w1 ⟨rfl,m1,rfl⟩
  rw [uJ];have nv:=Lib.hid (HR.out.draw m1);have HW:=Lib.hid ((aq.refl [b,g] w).drewN m1);clear HR H0 c0 c1 c2 f1 f2 cg fg uJ;generalize w.drewN m1=w1 at *;obtain ⟨c0,c1,c2,f1,f2⟩:=nv.out.cells;obtain ⟨cg,fg⟩:=nv.out.place f BI;rw [HX.out] at cg
  go_wp2_with fail
  go_quiet (fail)
  go_wp2_with fail
  go_region
  go_wp2_with fail
  have uS:=Lib.hid ((nv.out.draw (nq + 1)).put f BI v);obtain ⟨e0,e1,e2,e3,e4⟩:=uS.out.cells;rw [List.length_set] at e0;refine (KZ _ b _ _ cap f 1 (by exact e0) (by exact e1) BI oA (by omega)).mono ?_
  rintro e w2 ⟨rfl,m2,rfl⟩
  rw [← HJ.out]
  go_wp2_with fail
  go_ret2
  refine ⟨?_,?_,?_⟩
  ·rw [Fc.out];have:Rn.aaf ps.length l=x:=by simp only [Rn.aaf,Fc.out,if_true];rw [HHd.out,HX.out]
   rw [this];rfl
  ·exact HW.out.trans (((((aq.refl [b,g] w1).drewN _).setCell (by simp) _).drewN _).setCell (by simp) _) (fun x hx=>.inl hx)
  ·have:Rn.aag ps.length l v=l.tail ++ [v]:=by simp only [Rn.aag,Fc.out,if_true]
   rw [this];refine ((uS.out.draw _).first j).rg (by simp) (l.tail ++ [v]) (by simp;omega) oA ?_ (by simp;omega) BJ;rw [HJ.out];exact HTl.out
 ·have HF:Hid (Rn.aae N l=false):=Lib.hid (by simp only [Rn.aae];rw [← Bool.not_eq_true];simpa using nU);have wR:Hid (Rn.aaf N l=0):=Lib.hid (by simp [Rn.aaf,HF.out]);have HF3:Hid (Rn.aag N l v=l):=Lib.hid (by simp [Rn.aag,HF.out]);obtain ⟨b',sv,U,ps,f,mG,hb,hr,hd,rfl,aal⟩:=h;clear aal;obtain rfl:b=b':=by simpa using mG
  have c2:w.cell? ⟨b,2,none⟩=some (.int .i64 l.length):=hb.cell 2
  cases hq:((l.length:Int) == 0) with
  | true =>
   clear hb hr hd mG hle nU
   go_enter Tryz.func117,Tryz.ntmps117
   go_wp2_with fail
   go_ret2
   exact ⟨by rw [HF.out,wR.out];rfl,aq.refl _ _,by rw [HF3.out];exact H0.out⟩
  | false =>
   have uJ:decide (l.length=N)=false:=by
    simp at hq;simp;intro e;exact nU ⟨e,hq⟩
   clear hb hr hd mG hle nU
   go_enter Tryz.func117,Tryz.ntmps117
   go_wp2_with fail
   refine (Fa _ _ _ _ _ H0.out).mono ?_
   rintro e w1 ⟨rfl,m1,rfl⟩
   rw [uJ]
   go_wp2_with fail
   go_ret2
   exact ⟨by rw [HF.out,wR.out];rfl,(aq.refl _ _).drewN _,by rw [HF3.out];exact H0.out.drewN _⟩
open Go.RowKit
namespace Rn
end Rn
open Go.RowKit
namespace Fl
open Sx
section
variable {P:Program} {c:Cx} {k:List Item} {f:Fm} {L:List ak} {ops:Array Oper} {l:List Oper} {o:Oper} {T:TypeId} {ps:String} {af:Array Edge} {gd:Option (Nat × Bool)} {t:Nat}
end
section
variable {P:Program} {c:Cx} {k:List Item} {f:Fm} {L:List ak} {ops:Array Oper} {l:List Oper} {o:Oper} {T:TypeId} {ps:String} {af:Array Edge} {gd:Option (Nat × Bool)} {t:Nat}
end
section
variable {P:Program} {F:FuncId} {ok:Nat→Prop} {e:World} {L0 L:List ak} {ι:Type} {post:ι→D × List ak} {fn:Func} {N:Nat} {f:Fm} {k:List Item}
end
section
variable {P:Program} {F:FuncId} {ds:List D}
end
end Fl
open Go.RowKit
namespace Fl
open Sx
end Fl
open Go.RowKit
namespace Fl
open Sx
theorem aa1 (l:List (Value × Nat × List Int)) (S:List Nat) {i:Nat} {p:Value} {N:Nat} {b:List Int} (hi:l[i]?=some (p,N,b)):ax Tryz.prog 192 [.c (.v p)] [aP (tR l) S] (fun _:Unit=>(.aZ [.c (nI (Rn.hd b)),.c (bI (!b.isEmpty))],[aP (tR (l.set i (p,N,b.tail))) S])) :=
 ax.ju tR.ok tR.ok fun ok e xs hd h=>by
  obtain rfl:=hd.v1;obtain ⟨Si,h1,h2,h3⟩:=h.at_ hi;refine (aaV e p N b Si h1).mono ?_
  rintro en w' ⟨rfl,k1,k2⟩
  exact ⟨_,rfl,k1.mono (fun x hx=>.inl (h2 x hx)),h3 _ _ k1 k2,RD.zu rfl rfl⟩
theorem aa2 (l:List (Value × Nat × List Int)) (S:List Nat) {i:Nat} {p:Value} {N:Nat} {b:List Int} (hi:l[i]?=some (p,N,b)) (v:Int):ax Tryz.prog 117 [.c (.v p),.c (nI v)] [aP (tR l) S] (fun _:Unit=>(.aZ [.c (nI (Rn.aaf N b)),.c (bI (Rn.aae N b))],[aP (tR (l.set i (p,N,Rn.aag N b v))) S])) :=
 ax.ju tR.ok tR.ok fun ok e xs hd h=>by
  obtain rfl:=hd.v2;obtain ⟨Si,h1,h2,h3⟩:=h.at_ hi;refine (aa0 e p N b Si v h1).mono ?_
  rintro en w' ⟨rfl,k1,k2⟩
  exact ⟨_,rfl,k1.mono (fun x hx=>.inl (h2 x hx)),h3 _ _ k1 k2,RD.zu rfl rfl⟩
theorem aa3 (l:List (Value × Nat × List Int)) (S:List Nat) {i:Nat} {p:Value} {N:Nat} {b:List Int} (hi:l[i]?=some (p,N,b)):ax Tryz.prog 189 [.c (.v p)] [aP (tR l) S] (fun _:Unit=>(.c (nI b.length),[aP (tR l) S])) :=
 ax.ju tR.ok tR.ok fun ok e xs hd h=>by
  obtain rfl:=hd.v1;obtain ⟨Si,h1,h2,h3⟩:=h.at_ hi;refine (aaU e p N b Si h1).mono ?_
  rintro en w' ⟨rfl,rfl⟩
  exact ⟨_,rfl,aq.refl _ _,h,RD.v rfl⟩
end Fl
open Go.RowKit
namespace Fl
open Sx
section
variable {P:Program} {c:Cx} {k:List Item} {f:Fm} {L L2:List ak}
end
section
variable {P:Program} {c:Cx} {k:List Item} {f:Fm} {L L2:List ak}
end
end Fl
open Go.RowKit
namespace Fl
open Sx
set_option maxRecDepth 100000
section
variable {P:Program} {c:Cx} {f:Fm} {L:List ak} {T:TypeId} {ps:String} {af:Array Edge} {gd:Option (Nat × Bool)} {t:Nat}
end
end Fl
open Go.RowKit
namespace Fl
open Sx
set_option maxRecDepth 100000
end Fl
open Go.RowKit
namespace Fl
open Sx
set_option maxRecDepth 100000
end Fl
open Go.RowKit
namespace Fl
open Sx
set_option maxRecDepth 100000
end Fl
open Go.RowKit
namespace Fl
open Sx
set_option maxRecDepth 100000
end Fl
open Go.RowKit
namespace Fl
open Sx
section
variable {α:Type} {E:World→List Value→α→List Nat→Prop} {enc:α→List A}
end
end Fl
open Go.RowKit
namespace Fl
open Sx
set_option maxRecDepth 100000
section
variable {P:Program} {c:Cx} {k:List Item} {f:Fm} {L L2:List ak} {T:TypeId} {ps:String} {af:Array Edge} {gd:Option (Nat × Bool)} {t:Nat}
end
end Fl
open Go.RowKit
namespace Fl
open Sx
set_option maxRecDepth 100000
section
variable {P:Program} {c:Cx} {f:Fm} {L:List ak} {T:TypeId} {ps:String} {af:Array Edge} {gd:Option (Nat × Bool)} {t:Nat}
theorem Qt.Hy {x y:Operand} {X Y:Nat} {kd:IntKind} {m:Int} (h:aU f x=some (.c (.v (.int kd m)))) (hy:aU f y=some (.c (.v (.int kd m)))):Qt P c [] ⟨t,.binOp .eql X x y Y,T,ps,af,gd⟩ f L (.c (.v (.bool true))) :=
 Qt.cmp h hy (by simp [uz])
theorem Qt.Hz {x y:Operand} {X Y:Nat} {m:Bool} [i:vY P X] (h:aU f x=some (.c (.v (.bool m)))) (hy:aU f y=some (.c (.v (.bool m)))):Qt P c [] ⟨t,.binOp .eql X x y Y,T,ps,af,gd⟩ f L (.c (.v (.bool true))) :=
 (Qt.wj h hy).eq (by simp)
theorem Qt.sV {x y:Operand} {X Y:Nat} (zs:List Value) (h:aU f x=some (.agg (vs zs))) (hy:aU f y=some (.agg (vs zs))) (hr:∀ w,(binOp .neq X (.agg zs.toArray) (.agg zs.toArray)).run P w=.ok (.bool false) w) (hg:P.eqGuardType P.depth X=false):Qt P c [] ⟨t,.binOp .neq X x y Y,T,ps,af,gd⟩ f L (.c (.v (.bool false))):=⟨fun a w s=>by
 have rx:=s.ev h;have ry:=s.ev hy;unfold RD at rx ry;obtain ⟨v1,e1,r1⟩:=rx;obtain ⟨v2,e2,r2⟩:=ry;rw [vq r1] at e1;rw [vq r2] at e2;refine ⟨.bool false,by unfold RD RA;exact ⟨rfl,rfl⟩,fun w' k=>?_⟩;simp [execOp,e1,e2,hr,Sem.run_bind,run_eqGuard_agg _ _ _ _ _ _ _ hg]⟩
end
theorem HY:Tryz.prog.underlying 24=some (.struct (Tryz.prog.fieldsOf 24)):=by kernel_rfl
theorem H6:Tryz.prog.stoodInHeld 24=false:=by kernel_rfl
theorem H7:Tryz.prog.eqGuardType Tryz.prog.depth 24=false:=by kernel_rfl
theorem H8:∃ f0 f1:Field,(Tryz.prog.fieldsOf 24).toList=[f0,f1]∧(f0.name≠"_"∧f1.name≠"_")∧(f0.type=3∧f1.type=3)∧f0.offset=0∧f1.offset=1:=by
 unfold Program.fieldsOf;rw [Tryz.underlying24];exact ⟨_,_,rfl,⟨by decide,by decide⟩,⟨rfl,rfl⟩,rfl,rfl⟩
theorem H9 (w:World) (x0:Int) (x1:Int):(binOp .neq 24 (.agg #[.int .i64 x0,.int .i64 x1]) (.agg #[.int .i64 x0,.int .i64 x1])).run Tryz.prog w=.ok (.bool false) w:=by
 obtain ⟨f0,f1,hf,⟨n0,n1⟩,⟨t0,t1⟩,o0,o1⟩:=H8;rw [run_neq_struct,run_equalIn_struct _ _ _ _ _ HY H6,hf];have hi:=Tryz.underlying3;have dx:=Tryz.underlying2;have hb:=Tryz.underlying4;simp [Op.eqFields,n0,t0,o0,n1,t1,o1,go_sem,hi,dx,hb]
theorem Ia:Tryz.prog.underlying 52=some (.struct (Tryz.prog.fieldsOf 52)):=by kernel_rfl
theorem Ib:Tryz.prog.stoodInHeld 52=false:=by kernel_rfl
theorem Ic:Tryz.prog.eqGuardType Tryz.prog.depth 52=false:=by kernel_rfl
theorem Ie:∃ f0 f1 f2 f3 f4 f5 f6:Field,(Tryz.prog.fieldsOf 52).toList=[f0,f1,f2,f3,f4,f5,f6]∧(f0.name≠"_"∧f1.name≠"_"∧f2.name≠"_"∧f3.name≠"_"∧f4.name≠"_"∧f5.name≠"_"∧f6.name≠"_")∧(f0.type=4∧f1.type=3∧f2.type=3∧f3.type=3∧f4.type=4∧f5.type=2∧f6.type=4)∧f0.offset=0∧f1.offset=1∧f2.offset=2∧f3.offset=3∧f4.offset=4∧f5.offset=5∧f6.offset=6:=by
 unfold Program.fieldsOf;rw [Tryz.underlying52];exact ⟨_,_,_,_,_,_,_,rfl,⟨by decide,by decide,by decide,by decide,by decide,by decide,by decide⟩,⟨rfl,rfl,rfl,rfl,rfl,rfl,rfl⟩,rfl,rfl,rfl,rfl,rfl,rfl,rfl⟩
theorem Ig (w:World) (x0:Bool) (x1:Int) (x2:Int) (x3:Int) (x4:Bool) (x5:Int) (x6:Bool):(binOp .neq 52 (.agg #[.bool x0,.int .i64 x1,.int .i64 x2,.int .i64 x3,.bool x4,.int .i64 x5,.bool x6]) (.agg #[.bool x0,.int .i64 x1,.int .i64 x2,.int .i64 x3,.bool x4,.int .i64 x5,.bool x6])).run Tryz.prog w=.ok (.bool false) w:=by
 obtain ⟨f0,f1,f2,f3,f4,f5,f6,hf,⟨n0,n1,n2,n3,n4,n5,n6⟩,⟨t0,t1,t2,t3,t4,t5,t6⟩,o0,o1,o2,o3,o4,o5,o6⟩:=Ie;rw [run_neq_struct,run_equalIn_struct _ _ _ _ _ Ia Ib,hf];have hi:=Tryz.underlying3;have dx:=Tryz.underlying2;have hb:=Tryz.underlying4;simp [Op.eqFields,n0,t0,o0,n1,t1,o1,n2,t2,o2,n3,t3,o3,n4,t4,o4,n5,t5,o5,n6,t6,o6,go_sem,hi,dx,hb]
theorem Ih:Tryz.prog.underlying 83=some (.struct (Tryz.prog.fieldsOf 83)):=by kernel_rfl
theorem Ii:Tryz.prog.stoodInHeld 83=false:=by kernel_rfl
theorem Ij:Tryz.prog.eqGuardType Tryz.prog.depth 83=false:=by kernel_rfl
theorem Ik:∃ f0 f1 f2:Field,(Tryz.prog.fieldsOf 83).toList=[f0,f1,f2]∧(f0.name≠"_"∧f1.name≠"_"∧f2.name≠"_")∧(f0.type=4∧f1.type=3∧f2.type=2)∧f0.offset=0∧f1.offset=1∧f2.offset=2:=by
 unfold Program.fieldsOf;rw [Tryz.underlying83];exact ⟨_,_,_,rfl,⟨by decide,by decide,by decide⟩,⟨rfl,rfl,rfl⟩,rfl,rfl,rfl⟩
theorem Il (w:World) (x0:Bool) (x1:Int) (x2:Int):(binOp .neq 83 (.agg #[.bool x0,.int .i64 x1,.int .i64 x2]) (.agg #[.bool x0,.int .i64 x1,.int .i64 x2])).run Tryz.prog w=.ok (.bool false) w:=by
 obtain ⟨f0,f1,f2,hf,⟨n0,n1,n2⟩,⟨t0,t1,t2⟩,o0,o1,o2⟩:=Ik;rw [run_neq_struct,run_equalIn_struct _ _ _ _ _ Ih Ii,hf];have hi:=Tryz.underlying3;have dx:=Tryz.underlying2;have hb:=Tryz.underlying4;simp [Op.eqFields,n0,t0,o0,n1,t1,o1,n2,t2,o2,go_sem,hi,dx,hb]
theorem Im:Tryz.prog.underlying 54=some (.struct (Tryz.prog.fieldsOf 54)):=by kernel_rfl
theorem Io:Tryz.prog.stoodInHeld 54=false:=by kernel_rfl
theorem Ip:Tryz.prog.eqGuardType Tryz.prog.depth 54=false:=by kernel_rfl
theorem Iq:∃ f0 f1 f2 f3 f4 f5 f6 f7 f8:Field,(Tryz.prog.fieldsOf 54).toList=[f0,f1,f2,f3,f4,f5,f6,f7,f8]∧(f0.name≠"_"∧f1.name≠"_"∧f2.name≠"_"∧f3.name≠"_"∧f4.name≠"_"∧f5.name≠"_"∧f6.name≠"_"∧f7.name≠"_"∧f8.name≠"_")∧(f0.type=3∧f1.type=3∧f2.type=3∧f3.type=3∧f4.type=3∧f5.type=3∧f6.type=3∧f7.type=3∧f8.type=45)∧f0.offset=0∧f1.offset=1∧f2.offset=2∧f3.offset=3∧f4.offset=4∧f5.offset=5∧f6.offset=6∧f7.offset=7∧f8.offset=8:=by
 unfold Program.fieldsOf;rw [Tryz.underlying54];exact ⟨_,_,_,_,_,_,_,_,_,rfl,⟨by decide,by decide,by decide,by decide,by decide,by decide,by decide,by decide,by decide⟩,⟨rfl,rfl,rfl,rfl,rfl,rfl,rfl,rfl,rfl⟩,rfl,rfl,rfl,rfl,rfl,rfl,rfl,rfl,rfl⟩
theorem Ir (w:World) (a0 a1 a2 a3 a4 a5 a6 a7 y0 y1 y2 y4:Int) (y3:Bool):(part 45 #[.int .i64 a0,.int .i64 a1,.int .i64 a2,.int .i64 a3,.int .i64 a4,.int .i64 a5,.int .i64 a6,.int .i64 a7,.int .i64 y0,.int .i64 y1,.int .i64 y2,.bool y3,.int .i64 y4] 8).run Tryz.prog w=.ok (.agg #[.int .i64 y0,.int .i64 y1,.int .i64 y2,.bool y3,.int .i64 y4]) w:=by
 have hu:=Tryz.underlying45;have h5:iR Tryz.prog 45=some 5:=by kernel_rfl
 simp [go_sem,part,hu]
theorem It (w:World) (x0 x1 x2 x3 x4 x5 x6 x7 y0 y1 y2 y4:Int) (y3:Bool):(binOp .neq 54 (.agg #[.int .i64 x0,.int .i64 x1,.int .i64 x2,.int .i64 x3,.int .i64 x4,.int .i64 x5,.int .i64 x6,.int .i64 x7,.int .i64 y0,.int .i64 y1,.int .i64 y2,.bool y3,.int .i64 y4]) (.agg #[.int .i64 x0,.int .i64 x1,.int .i64 x2,.int .i64 x3,.int .i64 x4,.int .i64 x5,.int .i64 x6,.int .i64 x7,.int .i64 y0,.int .i64 y1,.int .i64 y2,.bool y3,.int .i64 y4])).run Tryz.prog w=.ok (.bool false) w:=by
 obtain ⟨f0,f1,f2,f3,f4,f5,f6,f7,f8,hf,⟨n0,n1,n2,n3,n4,n5,n6,n7,n8⟩,⟨t0,t1,t2,t3,t4,t5,t6,t7,t8⟩,o0,o1,o2,o3,o4,o5,o6,o7,o8⟩:=Iq;obtain ⟨g0,g1,g2,g3,g4,hg,⟨m0,m1,m2,m3,m4⟩,⟨s0,s1,s2,s3,s4⟩,q0,q1,q2,q3,q4⟩:=FE;rw [run_neq_struct,run_equalIn_struct _ _ _ _ _ Im Io,hf];have hi:=Tryz.underlying3;have dx:=Tryz.underlying2;have hb:=Tryz.underlying4;simp [Op.eqFields,n0,t0,o0,n1,t1,o1,n2,t2,o2,n3,t3,o3,n4,t4,o4,n5,t5,o5,n6,t6,o6,n7,t7,o7,n8,t8,o8,Ir,run_equalIn_struct _ _ _ _ _ FB FC,hg,m0,m1,m2,m3,m4,s0,s1,s2,s3,s4,q0,q1,q2,q3,q4,go_sem,hi,dx,hb]
end Fl
open Go.RowKit
namespace Fl
open Sx
set_option maxRecDepth 100000
theorem eE {α:Type} {l:List α} {enc:α→List A} {k:Nat} {x:α} (h:l[k]?=some x):(l.map enc)[((k:Int)).toNat]?=some (enc x):=by rw [Int.toNat_natCast,List.getElem?_map,h];rfl
theorem kO (l:List Int) (hl:l.length≤100000):Pure Tryz.prog 72 [.c (ints l),.c (ints l)] (.c (bI true)):=by
 refine ax.intro Tryz.func72 rfl rfl rfl (fun ok e=>?_)
 repeat (first | (refine K.binOp ?_;refine jq rfl rfl rfl (Qt.iP rfl rfl) ?_) | refine gn ?_)
 refine J.loop (ι:={ k:Nat // k≤(l).length }) (fun p=>[(13,.c (nI p.1)),(12,.c (nI (l).length)),(0,.c (ints l)),(1,.c (ints l))]) (fun _=>[]) (fun p=>(l).length - p.1) ⟨0,Nat.zero_le _⟩ (fun X h=>h.aW ⟨rfl,rfl,rfl,rfl,trivial⟩) (fun p ih=>?_);obtain ⟨k,hk⟩:=p;simp only at hk ih ⊢
 by_cases aQ:k < (l).length
 ·have t1:(decide ((k:Int) < ((l).length:Int)))=true:=by simpa using aQ
  obtain ⟨x,hx⟩:∃ x,(l)[k]?=some x:=⟨_,List.getElem?_eq_getElem aQ⟩
  have hm:=List.mem_of_getElem? hx
  repeat (refine gn ?_)
  refine J.draw (by kernel_rfl) rfl ?_;refine JW.base none ?_;refine tk 0 ?_;refine tk 1 ?_;refine JD.take 2 rfl rfl (by kernel_rfl) rfl (qb rfl) (Qt.bw rfl rfl (by omega) (eE hx)) rfl ?_;refine tk 3 ?_;refine tk 4 ?_;refine tk 5 ?_;refine JD.take 6 rfl rfl (by kernel_rfl) rfl (qb rfl) (Qt.bw rfl rfl (by omega) (eE hx)) rfl ?_;refine tk 7 ?_;refine JD.take 8 rfl rfl (by kernel_rfl) rfl (qb rfl) (Qt.iP rfl rfl) rfl ?_;refine bt ?_
  repeat (refine gn ?_)
  exact (ih ⟨k + 1,by omega⟩ (by simp only;omega)).aW ⟨rfl,rfl,rfl,rfl,trivial⟩
 ·have t1:(decide ((k:Int) < ((l).length:Int)))=false:=by simpa using aQ
  obtain rfl:k=(l).length:=by omega
  repeat (refine gn ?_)
  exact aA Tryz.func72
theorem Iu (o:Pn.Op) (hl:o.cases.length≤100000):Pure Tryz.prog 21 [.agg (dH o),.agg (dH o)] (.c (bI true)):=by
 refine ax.intro Tryz.func21 rfl rfl rfl (fun ok e=>?_)
 repeat (first | (refine K.binOp ?_;first | refine jq rfl rfl rfl (Qt.iP rfl rfl) ?_ | refine jq rfl rfl rfl (Qt.wZ rfl rfl) ?_) | refine av ?_ | intro _)
 rename_i b3 b2;refine J.loop (ι:={ k:Nat // k≤(o.cases).length }) (fun p=>[(51,.c (nI p.1)),(50,.c (nI (o.cases).length)),(2,.c (.v (.pointer (some ⟨b3,0,none⟩)))),(3,.c (.v (.pointer (some ⟨b2,0,none⟩))))]) (fun _=>[.box b2 50 (dH o),.box b3 50 (dH o)]) (fun p=>(o.cases).length - p.1) ⟨0,Nat.zero_le _⟩ (fun X h=>h.aW ⟨rfl,rfl,rfl,rfl,trivial⟩) (fun p ih=>?_);obtain ⟨k,hk⟩:=p;simp only at hk ih ⊢
 by_cases aQ:k < (o.cases).length
 ·have t1:(decide ((k:Int) < ((o.cases).length:Int)))=true:=by simpa using aQ
  obtain ⟨x,hx⟩:∃ x,(o.cases)[k]?=some x:=⟨_,List.getElem?_eq_getElem aQ⟩
  have hm:=List.mem_of_getElem? hx
  repeat (refine gn ?_)
  refine J.draw (by kernel_rfl) rfl ?_;refine JW.base none ?_;refine tk 0 ?_;refine tk 1 ?_;refine tk 2 ?_;refine JD.take 3 rfl rfl (by kernel_rfl) rfl (qb rfl) (Qt.bw rfl rfl (by omega) (eE hx)) rfl ?_;refine tk 4 ?_;refine tk 5 ?_;refine tk 6 ?_;refine tk 7 ?_;refine JD.take 8 rfl rfl (by kernel_rfl) rfl (qb rfl) (Qt.bw rfl rfl (by omega) (eE hx)) rfl ?_;refine tk 9 ?_;refine JD.take 10 rfl rfl (by kernel_rfl) rfl (qb rfl) (Qt.sV [.bool x.send,.int .i64 x.ch,.int .i64 x.v] rfl rfl (fun w=>Il w _ _ _) Ij) rfl ?_;refine bt ?_
  repeat (refine gn ?_)
  exact (ih ⟨k + 1,by omega⟩ (by simp only;omega)).aW ⟨rfl,rfl,rfl,rfl,trivial⟩
 ·have t1:(decide ((k:Int) < ((o.cases).length:Int)))=false:=by simpa using aQ
  obtain rfl:k=(o.cases).length:=by omega
  repeat (refine gn ?_)
  exact aA Tryz.func21
theorem Iv (l:List Pn.Op) (hl:l.length≤100000) (hc:∀ o∈l,o.cases.length≤100000):Pure Tryz.prog 134 [.c (.r 6 (l.map dH)),.c (.r 6 (l.map dH))] (.c (bI true)):=by
 refine ax.intro Tryz.func134 rfl rfl rfl (fun ok e=>?_)
 repeat (first | (refine K.binOp ?_;refine jq rfl rfl rfl (Qt.iP rfl rfl) ?_) | refine gn ?_)
 refine J.loop (ι:={ k:Nat // k≤(l).length }) (fun p=>[(13,.c (nI p.1)),(12,.c (nI (l).length)),(0,.c (.r 6 (l.map dH))),(1,.c (.r 6 (l.map dH)))]) (fun _=>[]) (fun p=>(l).length - p.1) ⟨0,Nat.zero_le _⟩ (fun X h=>h.aW ⟨rfl,rfl,rfl,rfl,trivial⟩) (fun p ih=>?_);obtain ⟨k,hk⟩:=p;simp only at hk ih ⊢
 by_cases aQ:k < (l).length
 ·have t1:(decide ((k:Int) < ((l).length:Int)))=true:=by simpa using aQ
  obtain ⟨x,hx⟩:∃ x,(l)[k]?=some x:=⟨_,List.getElem?_eq_getElem aQ⟩
  have hm:=List.mem_of_getElem? hx
  repeat (refine gn ?_)
  refine J.draw (by kernel_rfl) rfl ?_;refine JW.base none ?_;refine tk 0 ?_;refine tk 1 ?_;refine JD.take 2 rfl rfl (by kernel_rfl) rfl (qb rfl) (Qt.bw rfl rfl (by omega) (eE hx)) rfl ?_;refine tk 3 ?_;refine tk 4 ?_;refine tk 5 ?_;refine JD.take 6 rfl rfl (by kernel_rfl) rfl (qb rfl) (Qt.bw rfl rfl (by omega) (eE hx)) rfl ?_;refine tk 7 ?_;refine jl 8 rfl rfl rfl rfl (Ld.pure (Iu x (hc x hm)) (qb rfl) rfl (by repeat (first | exact aK.nil | refine aK.cons (dB.agg (by repeat (first | exact .nil | refine .cons .refl ?_))) ?_))) .none (fun _=>?_);refine jk 9 rfl rfl rfl rfl (Qt.not rfl) ?_;refine bt ?_
  repeat (refine gn ?_)
  exact (ih ⟨k + 1,by omega⟩ (by simp only;omega)).aW ⟨rfl,rfl,rfl,rfl,trivial⟩
 ·have t1:(decide ((k:Int) < ((l).length:Int)))=false:=by simpa using aQ
  obtain rfl:k=(l).length:=by omega
  repeat (refine gn ?_)
  exact aA Tryz.func134
theorem Iw (g:Gr) (h1:g.ops.length≤100000) (h2:∀ o∈g.ops,o.cases.length≤100000) (h3:g.order.length≤100000) (h4:g.aF.length≤100000) (h5:g.ay.length≤100000) (h6:g.an.length≤100000):Pure Tryz.prog 73 [.agg (eG g),.agg (eG g)] (.c (bI true)):=by
 have C1:=Iv g.ops h1 h2;have C3:=kO g.order h3;have C4:=kO g.aF h4;have C5:=kO g.ay h5;have C6:=kO g.an h6;refine ax.intro Tryz.func73 rfl rfl rfl (fun ok e=>?_)
 repeat (first | (refine K.binOp ?_;first | refine jq rfl rfl rfl (Qt.Hy rfl rfl) ?_ | refine jq rfl rfl rfl (Qt.Hz rfl rfl) ?_ | refine jq rfl rfl rfl (Qt.FA [.int .i64 g.res.code,.int .i64 g.res.cs,.int .i64 g.res.v,.bool g.res.ok,.int .i64 g.res.n] rfl rfl (fun w=>FF w _ _ _ _ _) FD) ?_) | refine aO (C1) ?_ | refine aO (C3) ?_ | refine aO (C4) ?_ | refine aO (C5) ?_ | refine aO (C6) ?_ | refine av ?_ | intro _)
 exact aA Tryz.func73
theorem Ix (c:Cn) (h1:c.buf.length≤100000) (h2:c.recv.length≤100000) (h3:c.send.length≤100000):Pure Tryz.prog 74 [.agg (eC c),.agg (eC c)] (.c (bI true)):=by
 have C2:=kO c.recv h2;have C3:=kO c.send h3;refine ax.intro Tryz.func74 rfl rfl rfl (fun ok e=>?_)
 repeat (first | (refine K.binOp ?_;first | refine jq rfl rfl rfl (Qt.iP rfl rfl) ?_ | refine jq rfl rfl rfl (Qt.wZ rfl rfl) ?_) | refine aO (C2) ?_ | refine aO (C3) ?_ | refine av ?_ | intro _)
 rename_i b3 b2;refine J.loop (ι:={ k:Nat // k≤(c.buf).length }) (fun p=>[(53,.c (nI p.1)),(52,.c (nI (c.buf).length)),(2,.c (.v (.pointer (some ⟨b3,0,none⟩)))),(3,.c (.v (.pointer (some ⟨b2,0,none⟩))))]) (fun _=>[.box b2 72 (eC c),.box b3 72 (eC c)]) (fun p=>(c.buf).length - p.1) ⟨0,Nat.zero_le _⟩ (fun X h=>h.aW ⟨rfl,rfl,rfl,rfl,trivial⟩) (fun p ih=>?_);obtain ⟨k,hk⟩:=p;simp only at hk ih ⊢
 by_cases aQ:k < (c.buf).length
 ·have t1:(decide ((k:Int) < ((c.buf).length:Int)))=true:=by simpa using aQ
  obtain ⟨x,hx⟩:∃ x,(c.buf)[k]?=some x:=⟨_,List.getElem?_eq_getElem aQ⟩
  have hm:=List.mem_of_getElem? hx
  repeat (first | refine aL t1 ?_ | refine gn ?_)
  refine J.draw (by kernel_rfl) rfl ?_;refine JW.base none ?_;refine tk 0 ?_;refine tk 1 ?_;refine tk 2 ?_;refine JD.take 3 rfl rfl (by kernel_rfl) rfl (qb rfl) (Qt.bw rfl rfl (by omega) (eE hx)) rfl ?_;refine tk 4 ?_;refine tk 5 ?_;refine tk 6 ?_;refine tk 7 ?_;refine JD.take 8 rfl rfl (by kernel_rfl) rfl (qb rfl) (Qt.bw rfl rfl (by omega) (eE hx)) rfl ?_;refine tk 9 ?_;refine JD.take 10 rfl rfl (by kernel_rfl) rfl (qb rfl) (Qt.iP rfl rfl) rfl ?_;refine bt ?_
  repeat (first | (refine K.binOp ?_;refine jq rfl rfl rfl (Qt.dj rfl rfl rfl (eL (by omega) (by omega))) ?_) | refine gn ?_)
  exact (ih ⟨k + 1,by omega⟩ (by simp only;omega)).aW ⟨rfl,rfl,rfl,rfl,trivial⟩
 ·have t1:(decide ((k:Int) < ((c.buf).length:Int)))=false:=by simpa using aQ
  obtain rfl:k=(c.buf).length:=by omega
  repeat (first | refine aL t1 ?_ | refine gn ?_)
  exact aA Tryz.func74
theorem Iy (s:ah) (h:Fe s):Pure Tryz.prog 18 [.agg (az s),.agg (az s)] (.c (bI true)):=by
 have Cj:=h.gs;have mh:=h.ch;have xY:=h.su;have jK:=h.dr;have Oq:=h.dn;have CM:=kO s.middle h.mb;refine ax.intro Tryz.func18 rfl rfl rfl (fun ok e=>?_)
 repeat (first | (refine K.binOp ?_;first | refine jq rfl rfl rfl (Qt.iP rfl rfl) ?_ | refine jq rfl rfl rfl (Qt.sV [.int .i64 s.cV,.int .i64 s.bN] rfl rfl (fun w=>H9 w _ _) H7) ?_) | refine av ?_ | intro _)
 rename_i b3 b2;refine J.loop (ι:={ k:Nat // k≤(s.gs).length }) (fun p=>[(101,.c (nI p.1)),(100,.c (nI (s.gs).length)),(2,.c (.v (.pointer (some ⟨b3,0,none⟩)))),(3,.c (.v (.pointer (some ⟨b2,0,none⟩))))]) (fun _=>[.box b2 36 (az s),.box b3 36 (az s)]) (fun p=>(s.gs).length - p.1) ⟨0,Nat.zero_le _⟩ (fun X h=>h.aW ⟨rfl,rfl,rfl,rfl,trivial⟩) (fun p ih=>?_);obtain ⟨k,hk⟩:=p;simp only at hk ih ⊢
 by_cases aQ:k < (s.gs).length
 ·have t1:(decide ((k:Int) < ((s.gs).length:Int)))=true:=by simpa using aQ
  obtain ⟨x,hx⟩:∃ x,(s.gs)[k]?=some x:=⟨_,List.getElem?_eq_getElem aQ⟩
  have hm:=List.mem_of_getElem? hx;obtain ⟨g1,g2,g3,g4,g5,g6⟩:=h.gb x hm;obtain ⟨y,hy⟩:∃ y,s.cache[k]?=some y:=⟨_,List.getElem?_eq_getElem (by rw [h.cl];exact aQ)⟩
  repeat (refine gn ?_)
  refine J.draw (by kernel_rfl) rfl ?_;refine JW.base none ?_;refine tk 0 ?_;refine tk 1 ?_;refine tk 2 ?_;refine JD.take 3 rfl rfl (by kernel_rfl) rfl (qb rfl) (Qt.bw rfl rfl (by omega) (eE hx)) rfl ?_;refine tk 4 ?_;refine tk 5 ?_;refine tk 6 ?_;refine tk 7 ?_;refine JD.take 8 rfl rfl (by kernel_rfl) rfl (qb rfl) (Qt.bw rfl rfl (by omega) (eE hx)) rfl ?_;refine tk 9 ?_;refine jl 10 rfl rfl rfl rfl (Ld.pure (Iw x g1 g2 g3 g4 g5 g6) (qb rfl) rfl (by repeat (first | exact aK.nil | refine aK.cons (dB.agg (by repeat (first | exact .nil | refine .cons .refl ?_))) ?_))) .none (fun _=>?_);refine jk 11 rfl rfl rfl rfl (Qt.not rfl) ?_;refine jk 12 rfl rfl rfl rfl (Qt.move rfl) ?_;refine JD.lV ?_;refine tk 13 ?_;refine tk 14 ?_;refine tk 15 ?_
  (refine JD.take 16 rfl rfl (by kernel_rfl) rfl (qb rfl) (Qt.bw rfl rfl (by omega) (eE hy)) rfl ?_)
  refine tk 17 ?_;refine tk 18 ?_;refine tk 19 ?_;refine tk 20 ?_
  (refine JD.take 21 rfl rfl (by kernel_rfl) rfl (qb rfl) (Qt.bw rfl rfl (by omega) (eE hy)) rfl ?_)
  refine tk 22 ?_;refine jl 23 rfl rfl rfl rfl (Ld.pure (kO y (h.cb y (List.mem_of_getElem? hy))) (qb rfl) rfl lq) .none (fun _=>?_);refine tk 24 ?_;refine jk 25 rfl rfl rfl rfl (Qt.pick rfl rfl) ?_;refine bt ?_
  repeat (refine gn ?_)
  exact (ih ⟨k + 1,by omega⟩ (by simp only;omega)).aW ⟨rfl,rfl,rfl,rfl,trivial⟩
 ·have t1:(decide ((k:Int) < ((s.gs).length:Int)))=false:=by simpa using aQ
  obtain rfl:k=(s.gs).length:=by omega
  repeat (refine gn ?_)
  refine J.loop (ι:={ k:Nat // k≤(s.au).length }) (fun p=>[(134,.c (nI p.1)),(133,.c (nI (s.au).length)),(2,.c (.v (.pointer (some ⟨b3,0,none⟩)))),(3,.c (.v (.pointer (some ⟨b2,0,none⟩))))]) (fun _=>[.box b2 36 (az s),.box b3 36 (az s)]) (fun p=>(s.au).length - p.1) ⟨0,Nat.zero_le _⟩ (fun X h=>h.aW ⟨rfl,rfl,rfl,rfl,trivial⟩) (fun p ih=>?_);obtain ⟨k,hk⟩:=p;simp only at hk ih ⊢
  by_cases aQ:k < (s.au).length
  ·have t1:(decide ((k:Int) < ((s.au).length:Int)))=true:=by simpa using aQ
   obtain ⟨x,hx⟩:∃ x,(s.au)[k]?=some x:=⟨_,List.getElem?_eq_getElem aQ⟩
   have hm:=List.mem_of_getElem? hx;obtain ⟨g1,g2,g3⟩:=h.hb x hm
   repeat (refine gn ?_)
   refine J.draw (by kernel_rfl) rfl ?_;refine JW.base none ?_;refine tk 0 ?_;refine tk 1 ?_;refine tk 2 ?_;refine JD.take 3 rfl rfl (by kernel_rfl) rfl (qb rfl) (Qt.bw rfl rfl (by omega) (eE hx)) rfl ?_;refine tk 4 ?_;refine tk 5 ?_;refine tk 6 ?_;refine tk 7 ?_;refine JD.take 8 rfl rfl (by kernel_rfl) rfl (qb rfl) (Qt.bw rfl rfl (by omega) (eE hx)) rfl ?_;refine tk 9 ?_;refine jl 10 rfl rfl rfl rfl (Ld.pure (Ix x g1 g2 g3) (qb rfl) rfl (by repeat (first | exact aK.nil | refine aK.cons (dB.agg (by repeat (first | exact .nil | refine .cons .refl ?_))) ?_))) .none (fun _=>?_);refine jk 11 rfl rfl rfl rfl (Qt.not rfl) ?_;refine bt ?_
   repeat (refine gn ?_)
   exact (ih ⟨k + 1,by omega⟩ (by simp only;omega)).aW ⟨rfl,rfl,rfl,rfl,trivial⟩
  ·have t1:(decide ((k:Int) < ((s.au).length:Int)))=false:=by simpa using aQ
   obtain rfl:k=(s.au).length:=by omega
   repeat (refine gn ?_)
   refine J.loop (ι:={ k:Nat // k≤(s.aC).length }) (fun p=>[(153,.c (nI p.1)),(152,.c (nI (s.aC).length)),(2,.c (.v (.pointer (some ⟨b3,0,none⟩)))),(3,.c (.v (.pointer (some ⟨b2,0,none⟩))))]) (fun _=>[.box b2 36 (az s),.box b3 36 (az s)]) (fun p=>(s.aC).length - p.1) ⟨0,Nat.zero_le _⟩ (fun X h=>h.aW ⟨rfl,rfl,rfl,rfl,trivial⟩) (fun p ih=>?_);obtain ⟨k,hk⟩:=p;simp only at hk ih ⊢
   by_cases aQ:k < (s.aC).length
   ·have t1:(decide ((k:Int) < ((s.aC).length:Int)))=true:=by simpa using aQ
    obtain ⟨x,hx⟩:∃ x,(s.aC)[k]?=some x:=⟨_,List.getElem?_eq_getElem aQ⟩
    have hm:=List.mem_of_getElem? hx
    repeat (refine gn ?_)
    refine J.draw (by kernel_rfl) rfl ?_;refine JW.base none ?_;refine tk 0 ?_;refine tk 1 ?_;refine tk 2 ?_;refine JD.take 3 rfl rfl (by kernel_rfl) rfl (qb rfl) (Qt.bw rfl rfl (by omega) (eE hx)) rfl ?_;refine tk 4 ?_;refine tk 5 ?_;refine tk 6 ?_;refine tk 7 ?_;refine JD.take 8 rfl rfl (by kernel_rfl) rfl (qb rfl) (Qt.bw rfl rfl (by omega) (eE hx)) rfl ?_;refine tk 9 ?_;refine JD.take 10 rfl rfl (by kernel_rfl) rfl (qb rfl) (Qt.sV [.bool x.live,.int .i64 x.g,.int .i64 x.ch,.int .i64 x.cs,.bool x.send,.int .i64 x.v,.bool x.done] rfl rfl (fun w=>Ig w _ _ _ _ _ _ _) Ic) rfl ?_;refine bt ?_
    repeat (refine gn ?_)
    exact (ih ⟨k + 1,by omega⟩ (by simp only;omega)).aW ⟨rfl,rfl,rfl,rfl,trivial⟩
   ·have t1:(decide ((k:Int) < ((s.aC).length:Int)))=false:=by simpa using aQ
    obtain rfl:k=(s.aC).length:=by omega
    repeat (refine gn ?_)
    refine J.loop (ι:={ k:Nat // k≤(s.cG).length }) (fun p=>[(171,.c (nI p.1)),(170,.c (nI (s.cG).length)),(2,.c (.v (.pointer (some ⟨b3,0,none⟩)))),(3,.c (.v (.pointer (some ⟨b2,0,none⟩))))]) (fun _=>[.box b2 36 (az s),.box b3 36 (az s)]) (fun p=>(s.cG).length - p.1) ⟨0,Nat.zero_le _⟩ (fun X h=>h.aW ⟨rfl,rfl,rfl,rfl,trivial⟩) (fun p ih=>?_);obtain ⟨k,hk⟩:=p;simp only at hk ih ⊢
    by_cases aQ:k < (s.cG).length
    ·have t1:(decide ((k:Int) < ((s.cG).length:Int)))=true:=by simpa using aQ
     obtain ⟨x,hx⟩:∃ x,(s.cG)[k]?=some x:=⟨_,List.getElem?_eq_getElem aQ⟩
     have hm:=List.mem_of_getElem? hx
     repeat (refine gn ?_)
     refine J.draw (by kernel_rfl) rfl ?_;refine JW.base none ?_;refine tk 0 ?_;refine tk 1 ?_;refine tk 2 ?_;refine JD.take 3 rfl rfl (by kernel_rfl) rfl (qb rfl) (Qt.bw rfl rfl (by omega) (eE hx)) rfl ?_;refine tk 4 ?_;refine tk 5 ?_;refine tk 6 ?_;refine tk 7 ?_;refine JD.take 8 rfl rfl (by kernel_rfl) rfl (qb rfl) (Qt.bw rfl rfl (by omega) (eE hx)) rfl ?_;refine tk 9 ?_;refine JD.take 10 rfl rfl (by kernel_rfl) rfl (qb rfl) (Qt.iP rfl rfl) rfl ?_;refine bt ?_
     repeat (refine gn ?_)
     exact (ih ⟨k + 1,by omega⟩ (by simp only;omega)).aW ⟨rfl,rfl,rfl,rfl,trivial⟩
    ·have t1:(decide ((k:Int) < ((s.cG).length:Int)))=false:=by simpa using aQ
     obtain rfl:k=(s.cG).length:=by omega
     repeat (refine gn ?_)
     refine J.loop (ι:={ k:Nat // k≤(s.done).length }) (fun p=>[(189,.c (nI p.1)),(188,.c (nI (s.done).length)),(2,.c (.v (.pointer (some ⟨b3,0,none⟩)))),(3,.c (.v (.pointer (some ⟨b2,0,none⟩))))]) (fun _=>[.box b2 36 (az s),.box b3 36 (az s)]) (fun p=>(s.done).length - p.1) ⟨0,Nat.zero_le _⟩ (fun X h=>h.aW ⟨rfl,rfl,rfl,rfl,trivial⟩) (fun p ih=>?_);obtain ⟨k,hk⟩:=p;simp only at hk ih ⊢
     by_cases aQ:k < (s.done).length
     ·have t1:(decide ((k:Int) < ((s.done).length:Int)))=true:=by simpa using aQ
      obtain ⟨x,hx⟩:∃ x,(s.done)[k]?=some x:=⟨_,List.getElem?_eq_getElem aQ⟩
      have hm:=List.mem_of_getElem? hx
      repeat (refine gn ?_)
      refine J.draw (by kernel_rfl) rfl ?_;refine JW.base none ?_;refine tk 0 ?_;refine tk 1 ?_;refine tk 2 ?_;refine JD.take 3 rfl rfl (by kernel_rfl) rfl (qb rfl) (Qt.bw rfl rfl (by omega) (eE hx)) rfl ?_;refine tk 4 ?_;refine tk 5 ?_;refine tk 6 ?_;refine tk 7 ?_;refine JD.take 8 rfl rfl (by kernel_rfl) rfl (qb rfl) (Qt.bw rfl rfl (by omega) (eE hx)) rfl ?_;refine tk 9 ?_;refine JD.take 10 rfl rfl (by kernel_rfl) rfl (qb rfl) (Qt.sV [.int .i64 x.g,.int .i64 x.op,.int .i64 x.call,.int .i64 x.ic,.int .i64 x.bQ,.int .i64 x.wi,.int .i64 x.dL,.int .i64 x.re,.int .i64 x.res.code,.int .i64 x.res.cs,.int .i64 x.res.v,.bool x.res.ok,.int .i64 x.res.n] rfl rfl (fun w=>It w _ _ _ _ _ _ _ _ _ _ _ _ _) Ip) rfl ?_;refine bt ?_
      repeat (refine gn ?_)
      exact (ih ⟨k + 1,by omega⟩ (by simp only;omega)).aW ⟨rfl,rfl,rfl,rfl,trivial⟩
     ·have t1:(decide ((k:Int) < ((s.done).length:Int)))=false:=by simpa using aQ
      obtain rfl:k=(s.done).length:=by omega
      repeat (refine gn ?_)
      exact aA Tryz.func18
end Fl
open Go.RowKit
namespace Sx
section
variable {s:ah} {g k:Nat} {x y:Gr} {f:Gr→Gr} {i j:Int} {d e:Su} {c:Int} {n:Cn}
end
end Sx
namespace Fl
open Sx
section
variable {P:Program} {F:FuncId} {ds:List D} {L Ll Lr:List ak}
end
section
variable {P:Program} {c:Cx} {k:List Item} {f:Fm} {L L2:List ak} {T X:TypeId} {ps:String} {af:Array Edge} {gd:Option (Nat × Bool)} {t:Nat}
end
theorem eW.nil {L:List ak}:eW [] L:=fun x hx=>by cases hx
section
variable {P:Program} {c:Cx} {k:List Item} {f f0:Fm} {L L0:List ak} {ops:Array Oper} {o:Oper} {m:Option Nat} {n:Nat} {aM:Array Bool}
theorem JS.sW {S:List Nat} {i t:Nat} {ι:Type} {g:ι→D} {L':ι→List ak} (hi:ops[i]?=some o) (hd:o.dst=some t) (hw:dM ops o f=true) (ht:t < c.N) (q:Ld P c o f L S (fun x=>(t,g x) :: f) L') (hS:eW S L)
  (h:∀ x,JD P c ops m (p6 L0) n (aM.setIfInBounds i true) k ((t,g x) :: f) (L' x) ((t,stays (g x)) :: f0) L0):JS P c ops m (p6 L0) n aM k f L f0 L0 i:=⟨fun a w w0 s s0 kp ho=>by
 refine wpOp_step hi (fun K hK=>?_);rw [dM.run hw s,if_pos rfl];refine q.go a w s K _ fun x v w' nX sx hf=>?_
 have mA:aq (jh L0 (p6 L0)) w0 w':=kp.trans nX fun x hx=>by
  rcases ho x (hS x hx) with h | h
  ·exact .inl (GF h)
  ·exact .inr h
 refine hK _ _ (.inr ⟨mA,(h x).go _ w' w0 sx ?_ mA ?_⟩)
 ·rw [hd];exact s0.kQ ht (stays.rep (by
   have h1:=sx.fr t (g x) (oV _ _ _);have h2:=s.size;rw [hd] at h1;simpa [Act.put,Array.getD_eq_getD_getElem?,Array.getElem?_setIfInBounds,h2,ht] using h1))
 ·intro y hy;rcases hf y hy with h1 | h1
  ·exact ho y h1
  ·exact .inr (Nat.le_trans kp.size h1)⟩
end
section
variable {P:Program} {c:Cx} {k:List Item} {fm:Fm} {L B:List ak} {mk:List ak→List ak} {ops:Array Oper} {l:List Oper} {u:U} {s:ah} {g:Nat}
end
section
variable (b:Nat) (u:U) (s:ah)
variable {s}
theorem aa6 (Q:Qs s) {k:Nat} (hk:k < s.au.length) (x:Int) (h0:0≤x) (h1:x < s.aC.length) (hn:∀ c,x∉(cn s c).recv∧x∉(cn s c).send) :
  ax Tryz.prog 107 [.c (.v u.pQ),.c (nI (2 * ((k:Int) + 1) - 2)),.c (nI x)] (wd b u s) (fun _:Unit=>(.c (bI true),wd b u (aE s ((k:Int) + 1) { cn s ((k:Int) + 1) with recv:=(cn s ((k:Int) + 1)).recv ++ [x] }))):=by
 have c8:=Q.c8;have h:=Fj u.pQ s.aC.length (qW s) u.TQ (2 * ((k:Int) + 1) - 2) x;have e:Qu.push s.aC.length (qW s) (2 * ((k:Int) + 1) - 2) x=(((qW s).set (2 * k) ((cn s ((k:Int) + 1)).recv ++ [x])).set (2 * k + 1) (cn s ((k:Int) + 1)).send,true):=by
  have hl:Qu.loc (qW s) x=none:=by
   rw [Qu.qG];intro hm;obtain ⟨l,hl,hx⟩:=List.mem_flatten.1 hm;obtain ⟨j,hj⟩:=List.getElem?_of_mem hl;have CV:j < 16:=by have:=(List.getElem?_eq_some_iff.1 hj).1;rwa [Am] at this
   rw [Ny s CV] at hj
   cases hj
   split at hx
   ·exact (hn _).1 hx
   ·exact (hn _).2 hx
  have hr:=BO (s:=s) (k:=k) (by omega);have wP:Qu.line (qW s) (2 * ((k:Int) + 1) - 2)=true:=by unfold Qu.line;rw [Am];simp only [Bool.and_eq_true,decide_eq_true_eq];omega
  have hs:((qW s).set (2 * k) ((cn s ((k:Int) + 1)).recv ++ [x]))[2 * k + 1]?=some (cn s ((k:Int) + 1)).send:=by
   rw [List.getElem?_set_ne (by omega)];exact (Ak (by omega)).2
  unfold Qu.push;rw [wP,hl,if_pos (by simp;omega),hr,qV hs,show (2 * ((k:Int) + 1) - 2).toNat=2 * k by omega]
 rw [e] at h;exact ax.at_ 9 rfl h fun _=>Nu _ _ hk (by omega)
end
end Fl
open Go.RowKit
namespace Fl
open Sx
set_option maxRecDepth 100000
theorem Bd.fe {n:Nat} {s:ah} (h:Sx.Bd n s) (hn:n≤1000):Fe s :=
 ⟨by have:=h.g8;omega,by have:=h.c8;omega,by have:=h.kJ;omega,by have:=h.dr;omega,by have:=h.dn;omega,h.cl,fun l hl=>by have:=h.cb l hl;omega,by have:=h.mb;omega,
  fun x hx=>⟨by have:=(h.gs x hx).op;omega,fun o ho=>by have:=(h.gs x hx).oc o ho;omega,by have:=(h.gs x hx).od;omega,by have:=(h.gs x hx).lk;omega,by have:=(h.gs x hx).sg;omega,by have:=(h.gs x hx).wk;omega⟩,
  fun c hc=>by have:=(h.cs c hc);have:=this.bf;have:=(h.cs c hc).rv;have:=(h.cs c hc).sd;omega⟩
theorem Iz {o:Pn.Op} (h:Pn.eU o=true):0≤o.ch∧o.ch≤8∧o.cases.length≤6:=by
 unfold Pn.eU at h;rw [decide_eq_true_iff] at h;omega
section
variable {s:ah} {g:Nat}
theorem IA (h:Sx.MInv s) (hg:g < s.gs.length):0≤(ag s g).ch∧(ag s g).ch≤8∧(ag s g).cases.length≤6:=by
 have L:=h.loc hg;unfold ag;rw [List.getD_eq_getElem?_getD]
 cases e:(aa s g).ops[(aa s g).at_.toNat]? with
 | none=>simp [wC]
 | some o=>exact Iz (L.gj o (List.mem_of_getElem? e))
theorem IB (h:Sx.MInv s) (hg:g < s.gs.length) (e:(aa s g).place=12∨(aa s g).place=16):aN s (ag s g).ch=true∧(cn s (ag s g).ch).lock=g:=by
 have hm:=vO h hg (by omega);have pl:=sX h hg (by omega);obtain ⟨k,hk,aQ⟩:=vI hm;refine ⟨hm,?_⟩;refine (Sx.Inv.iY h.v (g:Int) (by omega) (by omega) (ag s g).ch (by omega) (by omega)).1 ?_;have k1:2≤(ag s g).kind∧(ag s g).kind≤6:=by unfold bF at pl;omega
 exact .inl ⟨k1.1,k1.2,rfl,by show 5≤(aa s g).place∧(aa s g).place≤12∨(aa s g).place=16∨21≤(aa s g).place∧(aa s g).place≤23;omega⟩
theorem IC (h:Sx.Good s) (hg:g < s.gs.length):xT s g:=by
 have h':=h.toMInv;have L:=h'.loc hg;have o:=IA h' hg;have co:=xR h hg;refine ⟨hg,L.a0,by omega,by omega,h.c8,h.f0,fun e=>vO h' hg (.inl e),fun e=>IB h' hg e,fun e=>?_,fun e=>?_⟩
 ·have:=co.At e;exact this.2
 ·obtain ⟨a,l,e1,a0,a1,a2⟩:=co.Au e;have wk:=Sx.Inv.wk h'.v (g:Int) (by omega) (by omega) a (by show a∈(aa s g).an;rw [e1];simp);refine ⟨a.toNat,l,by rw [e1,Int.toNat_of_nonneg a0],by omega,fun e2=>wk.1 (by omega),?_⟩;have:=xO (n:=s.gs.length) L.w4 (fun a ha=>L.w3 a ha);rw [e1] at this;have n8:=h.n8;simp at this;omega
end
theorem ID {F:FuncId} {a:sy} {l:List Int} (h:Pure Tryz.prog F [.agg (mO a.p a.sn a.cn a.d),.c (ints l)] (.c (bI true))) {w:World} {cs:Array Value} {U:List Nat} {v:Value} {S:List Nat} (he:qP w cs.toList a U) (hl:GV (kf .i64) 1 w v l S):Calls Tryz.prog F #[.agg cs,v] w fun e w'=>e=.returned (.bool true)∧aq [] w w' :=
 FM h (xs:=[.agg cs,v]) (bU.cons (by unfold RD;exact ⟨cs.toList,by simp,FJ he fun _ _=>trivial⟩) (bU.cons (by unfold RD;exact FI.ra hl fun _ _=>trivial) bU.nil))
end Fl
end Go.Proofs.YtofnbflkhgammaaGreat
