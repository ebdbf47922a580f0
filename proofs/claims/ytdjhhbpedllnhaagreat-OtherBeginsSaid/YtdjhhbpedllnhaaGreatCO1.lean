/-
  What the laws need, part CO1.
  Conditions: none.
-/
import Derived.Test.YtdjhhbpedllnhaaGreatB6
import Derived.BigQuiet
import Derived.ChangeOld
import Derived.Deep.CutBlock
import Derived.Deep.DeepCutAuto
import Derived.Deep.DeepFit
import Derived.Deep.DeepMust
import Derived.Deep.Fields
import Derived.Deep.LoopGhost
import Derived.Deep.MidRow
import Derived.Deep.QuietTactic
import Derived.Deep.RegionHeld3
import Derived.Deep.RegionLaw
import Derived.Deep.Slices
import Derived.Laws.AppendOwnNone
import Derived.Laws.CopyOwn
import Derived.Lib.Hide
import Derived.Maps.OwnSet
import Derived.Maps.RangeWalk
import Derived.OpenShut
import Derived.ProofKit
import Derived.WalkKit
set_option linter.unusedVariables false
set_option linter.unusedSimpArgs false
set_option linter.unnecessarySimpa false
set_option maxHeartbeats 2000000
namespace Go.Proofs.YtdjhhbpedllnhaaGreat
open Go.RowKit
theorem aP.drewN {S:List Nat} {a w:World} (h:aP S a w) (n:Nat):aP S a (w.drewN n):=⟨h.os,h.tape,h.output,h.size,h.block⟩
open Go.RowKit
section
variable {w w':World} {v:Value} {e:TypeId} {sz n:Nat} {xs:List Value} {S T:List Nat}
end
section
variable {P:Program} {t e:TypeId} {sz bytes:Nat} {z:Value}
end
open Go.RowKit Go.ChangeShapes Go.WideShapes Go.Deep
section
variable {H:Type} {enc:TypeId × Value→H} {P:Program} {w:World} {base:Nat} {spare:Nat→Bool} {held:Bool}
end
theorem YU {P:Program} {f:FuncId} {args:Array Value} {w:World} {n:Nat} {v:Value}
  (h:Calls P f args (w.drewN n) fun e w'=>e=.returned v∧w.drewN n=w'):Calls P f args (w.drewN n) fun e MW=>e=.returned v∧∃ m,MW=w.drewN m :=
 h.mono fun _ _ ⟨he,hm⟩=>⟨he,n,hm.symm⟩
open Go.RowKit
section
variable {w w':World} {v:Value} {l:List Int} {S T:List Nat} {e:TypeId}
end
section
variable {P:Program} {t e:TypeId} {bytes:Nat} {z:Value}
end
open Go.RowKit
section
variable {α:Type} {f:α→List Value} {sz:Nat}
end
section
variable {α:Type} {f:α→List Value} {sz:Nat}
end
section
variable {α:Type} {f:α→List Value} {sz:Nat} {w w':World} {v:Value} {l:List α} {S T:List Nat} {e:TypeId}
end
open Go.RowKit
section
variable {α:Type} {E:World→List Value→α→List Nat→Prop} {sz:Nat} {w w':World} {v:Value} {l:List α} {S T S2:List Nat} {e:TypeId}
end
section
variable {α:Type} {F:World→List Value→α→List Nat→Prop} {P:Program} {t e:TypeId} {sz bytes:Nat} {z:Value}
end
open Go.RowKit Go.ChangeShapes Go.WideShapes Go.Deep
section
variable {H:Type} {enc:TypeId × Value→H} {P:Program}
end
open Go.RowKit Go.ChangeShapes Go.WideShapes Go.Deep
section
variable {P:Program} {t e:TypeId}
end
open Go.RowKit
section
variable {k:IntKind} {w w':World} {v:Value} {l:List Int} {S T:List Nat} {e:TypeId}
end
section
variable {P:Program} {t e:TypeId} {bytes:Nat} {z:Value} {k:IntKind}
end
open Go.RowKit Go.Maps
section
variable {P:Program} {k:TypeId} {w w':World} {b n:Nat} {f:Int→Option Value}
end
open Go.RowKit Go.Maps
section
variable {P:Program} {k:TypeId} {w w':World} {b r n ei:Nat} {f:Int→Option Value} {left:Int→Bool}
end
section
variable {α:Type} {E:World→List Value→α→List Nat→Prop} {sz:Nat} {w w':World} {l:List α} {S:List Nat}
end
section
variable {e:TypeId} {sz:Nat}
end
section
variable {α:Type} {E:World→List Value→α→List Nat→Prop} {sz:Nat} {w w':World} {l:List α} {S T:List Nat} {e:TypeId}
end
section
variable {α:Type} {F:World→List Value→α→List Nat→Prop} {P:Program} {t e:TypeId} {sz bytes:Nat} {z:Value}
end
section
variable {α:Type} {F:World→List Value→α→List Nat→Prop} {P:Program} {t e:TypeId} {sz bytes:Nat} {z:Value}
end
section
variable {α:Type} {F:World→List Value→α→List Nat→Prop} {P:Program} {t e:TypeId} {sz bytes:Nat} {z:Value}
end
section
variable {α:Type} {E:World→List Value→α→List Nat→Prop} {w:World} {l:List α} {S:List Nat}
end
section
variable {P:Program} {ops:Array Oper} {Q:Exit→Act→World→Prop} {md:Region.Mode} {S:World→Prop} {m:Nat}
end
open Go.RowKit
section
variable {w w':World} {v:Value} {es e:TypeId} {ll:List (List Int)} {T S:List Nat} {Us:List (List Nat)}
end
open Go.RowKit
open Go.RowKit
namespace Fl
open Sx
section
variable {P:Program} {ops:Array Oper} {Q:Exit→Act→World→Prop} {md:Region.Mode} {S:World→Prop} {m:Option Nat}
end
section
variable (P:Program) (c:Cx)
end
section
variable {P:Program} {c:Cx} {k:List Item} {f f0:Fm} {L L0:List aj} {ops:Array Oper} {l:List Oper} {o:Oper} {m:Option Nat} {T:List Nat} {n:Nat} {aU:Array Bool}
theorem JD.skip (i:Nat) {t:Nat} (hi:ops[i]?=some o) (hd:o.dst=some t) (hk:xJ .any ops m aU i=true) (hw:tF ops o f0=true) (ht:t < c.N) (h:JD P c ops m T n (aU.setIfInBounds i true) k ((t,.bp []) :: f) L ((t,.bp []) :: f0) L0):JD P c ops m T (n + 1) aU k f L f0 L0:=⟨fun a w w0 s s0 kp ho=>by
 unfold xJ at hk;simp only [Bool.and_eq_true] at hk;obtain ⟨⟨⟨k1,k2⟩,k3⟩,k4⟩:=hk;refine Gx.first hi (Region.noSelect_spec k1) (fun c a w h=>by cases h.1) k4 n aU a w (Region.free_spec hi k2) (by simpa using k3) (v:=undef) (.inr ⟨tF.run hw s0,rfl⟩) kp ?_
 have:=h.go (a.put o.dst undef) w w0 (by rw [hd];exact s.undef ht) (by rw [hd];exact s0.undef ht) kp ho;exact this⟩
end
end Fl
namespace Po
def new (size dX:Nat):St:=⟨List.replicate dX [],[],0,List.replicate size false⟩
end Po
namespace Fl
open Sx
instance:bP Tryz.prog 54 8 8:={}
instance:aG Tryz.prog 20:={}
instance:aG Tryz.prog 21:={}
instance:aG Tryz.prog 42:={}
instance:aG Tryz.prog 73:={}
instance:aG Tryz.prog 75:={}
instance:aG Tryz.prog 100:={}
instance:aG Tryz.prog 103:={}
instance:aG Tryz.prog 124:={}
instance:aG Tryz.prog 125:={}
instance:aG Tryz.prog 126:={}
instance:aG Tryz.prog 127:={}
instance:aG Tryz.prog 130:={}
instance:aG Tryz.prog 187:={}
instance:aG Tryz.prog 188:={}
instance:aG Tryz.prog 189:={}
instance:aG Tryz.prog 241:={}
instance:aG Tryz.prog 242:={}
instance:aG Tryz.prog 255:={}
end Fl
namespace Bc
def Zf (l:List (Int × Bool)) (g:Int):Bool:=status l g == 0
def Zg (l:List (Int × Bool)) (g:Int):List (Int × Bool):=if status l g=0 then l.set g.toNat (2,false) else l
end Bc
open Go.RowKit
namespace Fl
open Sx
set_option maxRecDepth 100000
theorem ZP (p:Value) (l:List (Int × Bool)) (S:List Nat) (i:Int):an Tryz.prog 124 [.c (.v p),.c (nI i)] [aM (tB p l) S] (fun _:Unit=>(.c (bI (Bc.Zf l i)),[aM (tB p (Bc.Zg l i)) S])):=by
 refine yw fun b v e=>?_
 subst e;have CT:=DR b v l i;unfold Bc.Zf Bc.Zg
 by_cases z:Bc.status l i=0
 ·obtain ⟨A,i0,i1,iq⟩:=vN (DS (l:=l) (g:=i) (by omega));rw [z] at CT ⊢;rw [if_pos rfl];unfold LB;rw [yx];refine an.intro Tryz.func124 rfl rfl rfl (fun ok e=>?_)
  repeat (first | (refine K.store ?_;refine JO.ld (Ld.eK rfl rfl rfl (by exact rfl) (by exact iq)) rfl (fun _=>?_)) | (refine K.indexAddr ?_;refine jq rfl rfl rfl (Qt.aI rfl rfl i0 i1) ?_) | (refine K.call ?_;refine JO.ld (Ld.fj (CT) (qb rfl) rfl (by (exact aJ.cons .refl (.cons .refl .nil)))) rfl ?_;intro _) | refine gn ?_)
  (exact J.bN Tryz.func124 rfl (.cons (.tmp rfl) .nil) () (by exact .refl) rfl)
 ·have t1:(Bc.status l i != 0)=true:=bne_iff_ne.2 z;rw [if_neg z,show (Bc.status l i == 0)=false from beq_eq_false_iff_ne.2 z];refine an.intro Tryz.func124 rfl rfl rfl (fun ok e=>?_)
  repeat (first | (refine K.call ?_;refine JO.ld (Ld.fj (CT) (qb rfl) rfl (by (exact aJ.cons .refl (.cons .refl .nil)))) rfl ?_;intro _) | refine gn ?_)
  (exact J.bN Tryz.func124 rfl (.cons (.tmp rfl) .nil) () (by exact .refl) rfl)
end Fl
open Go.RowKit
namespace Fl
open Sx
set_option maxRecDepth 100000
theorem J.YQ {P:Program} {c:Cx} {k:List Item} {f:Fm} {L:List aj} {I I2:Item} {ι:Type} (f':ι→Fm) (L':ι→List aj) (rest:∀ x,J P c k (f' x) (L' x)) (h:∀ K,(∀ x,J P c K (f' x) (L' x))→J P c (I :: I2 :: K) f L):J P c (I :: I2 :: k) f L:=h k rest
section
variable (b:Nat) (vc vm vh y:Value) (size most f:Nat) (V:List (List A)) (M c:List Int) (H:List Bool)
end
section
variable {P:Program} {c:Cx} {k:List Item} {f:Fm} {L:List aj}
end
section
variable (p:Value) (size most:Nat) (s:Po.St) (S:List Nat)
end
theorem ZQ (size dX most:Nat) (h1:size≤64) (h2:dX≤8) (h3:1≤most) (h4:most≤16):an Tryz.prog 101 [.c (nI size),.c (nI dX),.c (nI most)] [] (fun x:Value × List Nat=>(.bp [.c (.v x.1),.c (nI 0)],[aM (tP x.1 size most (Po.new size dX)) x.2])):=by
 refine an.x8 (Y:=Value) (d:=fun p=>.bp [.c (.v p),.c (nI 0)]) (κ:=fun p=>{ x:Nat × Value × Value × Value × (Nat→Value) // p=pt x.1 }) (N:=fun p x=>mP p size most (Po.new size dX) x) (fun p x=>mP.fl x) (Z:=Nat × Value × Value) (fun z=>⟨pt z.1,⟨(z.1,z.2.1,.slice none 0 0,z.2.2,fun _=>.slice none 0 0),rfl⟩⟩) ?_;refine an.frame [] (O2 (dX + 1) size dX most h1 h2 h3 h4) (.refl _) fun z=>?_
 have hr:∀ {α:Type} (h:Nat→α) (a:α),(∀ i,i < dX→h i=a)→(List.range (Po.new size dX).C.length).map h=List.replicate dX a:=fun h a hh=>by
  rw [show (Po.new size dX).C.length=dX from List.length_replicate ..];refine List.eq_replicate_iff.2 ⟨by simp,fun x hx=>?_⟩;obtain ⟨n,hn,rfl⟩:=List.mem_map.1 hx;exact hh n (by simpa using hn)
 unfold mP;dsimp only;rw [List.append_nil,hr (fun _=>[A.v (.slice none 0 0)]) _ fun _ _=>rfl,hr (fun i=>aj.row (.slice none 0 0) 3 1 (aF ((Po.new size dX).C.getD i []))) (.row (.slice none 0 0) 3 1 []) fun i hi=>by
  unfold Po.new;simp only [List.getD_eq_getElem?_getD,List.getElem?_replicate,hi,if_pos];rfl,List.replicate_succ]
 exact (List.perm_append_comm).cons _
end Fl
open Go.RowKit
namespace Fl
open Sx
section
variable {P:Program} {F:FuncId} {ds:List D}
end
end Fl
open Go.RowKit
namespace Fl
open Sx
section
variable {P:Program} {c:Cx} {k:List Item} {f:Fm} {L L2:List aj}
end
section
variable {P:Program} {c:Cx} {k:List Item} {f:Fm} {L L2:List aj}
theorem Qt.le {U:List Nat} {o:Oper} {d:D} (d':D) (q:Qt P c U o f L d) (h:dU d d'):Qt P c U o f L d':=⟨fun a w s=>by
 obtain ⟨v,h1,h2⟩:=q.go a w s;exact ⟨v,h.rep h1,h2⟩⟩
end
end Fl
open Go.RowKit
namespace Fl
open Sx
set_option maxRecDepth 100000
section
variable {P:Program} {c:Cx} {f:Fm} {L:List aj} {T:TypeId} {ps:String} {af:Array Edge} {gd:Option (Nat × Bool)} {t:Nat}
end
end Fl
open Go.RowKit
namespace Fl
open Sx
set_option maxRecDepth 100000
def YT (u:U) (g:Nat):U:={ u with sg:=fun k=>if k=g then .slice none 0 0 else u.sg k,wk:=fun k=>if k=g then .slice none 0 0 else u.wk k }
theorem ZR {u:U} {s:ah} {g:Nat} (hg:g < s.gs.length):dQ (YT u g) (Sx.clear s g)=(dQ u s).set g (gW (oG (aa s g)) (.slice none 0 0) (.slice none 0 0)) :=
 (AO hg ⟨by simp [YT],by simp [YT]⟩ fun k hk=>⟨by simp [YT,hk],by simp [YT,hk]⟩).symm
theorem ZT {u:U} {s:ah} {g:Nat} (hg:g < s.gs.length):eE (YT u g) (Sx.clear s g)=((eE u s).set g (.row (.slice none 0 0) 3 1 [])).set (s.gs.length + g) (.row (.slice none 0 0) 3 1 []):=by
 have hl:(Sx.clear s g).gs.length=s.gs.length:=by simp [Sx.clear,ai]
 unfold eE;rw [hl,List.set_append_left _ _ (by simpa using hg),List.set_append_right _ _ (by simp),List.length_set,List.length_map,List.length_range,show s.gs.length + g - s.gs.length=g by omega]
 congr 1
 ·refine (vP hg ?_ fun k hk _=>?_).symm
  ·unfold Sx.clear;rw [mV s g g _ hg,if_pos rfl];simp [YT,oG,clean,aF]
  ·unfold Sx.clear;rw [mV s g k _ hg,if_neg hk];simp [YT,hk]
 ·refine (vP hg ?_ fun k hk _=>?_).symm
  ·unfold Sx.clear;rw [mV s g g _ hg,if_pos rfl];simp [YT,oG,clean,aF]
  ·unfold Sx.clear;rw [mV s g k _ hg,if_neg hk];simp [YT,hk]
theorem ZU {b:Nat} {u:U} {s:ah} {g:Nat} (hg:g < s.gs.length):wd b (YT u g) (Sx.clear s g)=wl b u s ((dQ u s).set g (gW (oG (aa s g)) (.slice none 0 0) (.slice none 0 0))) (s.gs.map fun x=>(x.status,x.token)) (((eE u s).set g (.row (.slice none 0 0) 3 1 [])).set (s.gs.length + g) (.row (.slice none 0 0) 3 1 [])):=by
 show wl b u s (dQ (YT u g) (Sx.clear s g)) ((Sx.clear s g).gs.map fun x=>(x.status,x.token)) (eE (YT u g) (Sx.clear s g))=_;rw [ZR hg,ZT hg];unfold Sx.clear;rw [yD (x:=oG (aa s g)) hg ⟨rfl,rfl⟩]
theorem Zs (b:Nat) (u:U) (s:ah) (g:Nat) (hg:g < s.gs.length) :
  an Tryz.prog 103 [.c (.v (pt b)),.c (nI g)] (wd b u s) (fun _:Unit=>(.bp [],wd b (YT u g) (Sx.clear s g))):=by
 refine an.intro Tryz.func103 rfl rfl rfl (fun ok e=>?_);have OW:∀ x:Int,x=g→0≤x∧x < (dQ u s).length:=fun x hx=>by rw [vQ];omega
 have A:=vV (u:=u) hg;have HQ:((g:Int)).toNat < (dQ u s).length:=by rw [vQ];omega
 repeat (first | (refine K.indexAddr ?_;refine jq rfl rfl rfl (Qt.aI rfl rfl (OW _ rfl).1 (OW _ rfl).2) ?_) | refine gn ?_)
 refine J.draw (by kernel_rfl) rfl ?_;refine JW.base (some 24) ?_;refine tk 0 ?_;refine tk 1 ?_;refine tk 2 ?_;refine tk 3 ?_;refine JD.take 4 rfl rfl (by kernel_rfl) rfl (qb rfl) (Qt.aL rfl A rfl) rfl ?_;refine tk 5 ?_;refine tk 6 ?_;refine tk 7 ?_;refine JD.take 8 rfl rfl (by kernel_rfl) rfl (qb rfl) (Qt.aL rfl A rfl) rfl ?_;refine tk 9 ?_;refine tk 10 ?_;refine tk 11 ?_;refine JD.take 12 rfl rfl (by kernel_rfl) rfl (qb rfl) (Qt.aL rfl A rfl) rfl ?_;refine tk 13 ?_;refine tk 14 ?_;refine tk 15 ?_;refine JD.take 16 rfl rfl (by kernel_rfl) rfl (qb rfl) (Qt.aL rfl A rfl) rfl ?_;refine tk 17 ?_;refine tk 18 ?_;refine tk 19 ?_;refine JD.take 20 rfl rfl (by kernel_rfl) rfl (qb rfl) (Qt.aL rfl A rfl) rfl ?_;refine tk 21 ?_;refine JD.take 22 rfl rfl (by kernel_rfl) rfl (qb rfl) (Qt.le (.agg (gW (oG (aa s g)) (.slice none 0 0) (.slice none 0 0))) (Qt.build rfl (by kernel_rfl)) (.agg (by repeat (first | exact .nil | refine .cons .refl ?_ | refine .cons .nil ?_)))) rfl ?_;refine tk 23 ?_;refine jt 24 rfl rfl (Ld.eK rfl rfl rfl rfl HQ) (fun _=>?_);refine bR ?_;refine J.Pb (j:=g + 12) 3 1 (vT hg) ?_;refine J.Pb (j:=s.gs.length + g + 12) 3 1 (q:=_) (List.getElem?_eq_getElem (by simp [eE];omega)) ?_;refine J.dN (ZU hg) ?_
 (exact J.iV Tryz.func103 rfl .nil () (by exact .refl) rfl)
end Fl
open Go.RowKit
namespace Fl
open Sx
set_option maxRecDepth 100000
theorem ZV (b:Nat) (l:List Int) (a n:Int) (h0:0≤a) (h1:a≤100000) (hu:∀ x∈l,0≤x∧x < 65536) :
  an Tryz.prog 187 [.c (.v (pt b)),.c (nI n)] [.box b 130 [mU l,nI a]] (fun _:Unit=>(.c (nI (Sx.draw l a n).1),[.box b 130 [mU l,nI (Sx.draw l a n).2]])):=by
 refine an.intro Tryz.func187 rfl rfl rfl (fun ok e=>?_)
 by_cases hn:n < 1
 ·have e1:Sx.draw l a n=(0,a):=by unfold Sx.draw;rw [if_pos (.inl hn)]
  rw [e1];have c1:(decide (n < 1))=true:=decide_eq_true hn
  repeat (refine gn ?_)
  refine J.draw (by kernel_rfl) rfl ?_;refine JW.base none ?_;refine tk 0 ?_;refine JD.take 1 rfl rfl (by kernel_rfl) rfl (qb rfl) (Qt.cmp rfl rfl (congrArg some c1)) rfl ?_;refine tk 2 ?_
  (refine JD.skip 3 rfl rfl (by kernel_rfl) rfl (qb rfl) ?_)
  (refine JD.skip 4 rfl rfl (by kernel_rfl) rfl (qb rfl) ?_)
  (refine JD.skip 5 rfl rfl (by kernel_rfl) rfl (qb rfl) ?_)
  (refine JD.skip 6 rfl rfl (by kernel_rfl) rfl (qb rfl) ?_)
  (refine JD.skip 7 rfl rfl (by kernel_rfl) rfl (qb rfl) ?_)
  (refine JD.skip 8 rfl rfl (by kernel_rfl) rfl (qb rfl) ?_)
  (refine JD.skip 9 rfl rfl (by kernel_rfl) rfl (qb rfl) ?_)
  (refine JD.skip 10 rfl rfl (by kernel_rfl) rfl (qb rfl) ?_)
  (refine JD.skip 11 rfl rfl (by kernel_rfl) rfl (qb rfl) ?_)
  (refine JD.skip 12 rfl rfl (by kernel_rfl) rfl (qb rfl) ?_)
  refine tk 13 ?_;refine bE ?_
  repeat (refine gn ?_)
  (exact J.bN Tryz.func187 rfl (.cons (.tmp rfl) .nil) () (by exact .refl) rfl)
 ·have c1:(decide (n < 1))=false:=decide_eq_false hn
  by_cases ha:(l.length:Int)≤a
  ·have e1:Sx.draw l a n=(0,a):=by unfold Sx.draw;rw [if_pos (.inr ha)]
   rw [e1];have c2:(decide (a ≥ (l.length:Int)))=true:=decide_eq_true ha
   repeat (refine gn ?_)
   refine J.draw (by kernel_rfl) rfl ?_;refine JW.base none ?_;refine tk 0 ?_;refine JD.take 1 rfl rfl (by kernel_rfl) rfl (qb rfl) (Qt.cmp rfl rfl (congrArg some c1)) rfl ?_;refine tk 2 ?_;refine tk 3 ?_;refine tk 4 ?_;refine tk 5 ?_;refine tk 6 ?_;refine tk 7 ?_;refine tk 8 ?_;refine tk 9 ?_;refine tk 10 ?_;refine tk 11 ?_
   (refine JD.take 12 rfl rfl (by kernel_rfl) rfl (qb rfl) (Qt.cmp rfl rfl (congrArg some c2)) rfl ?_)
   refine tk 13 ?_;refine bE ?_
   repeat (refine gn ?_)
   (exact J.bN Tryz.func187 rfl (.cons (.tmp rfl) .nil) () (by exact .refl) rfl)
  ·have c2:(decide (a ≥ (l.length:Int)))=false:=decide_eq_false ha;have e1:Sx.draw l a n=(ax l a % n,a + 1):=by unfold Sx.draw;rw [if_neg (by omega)]
   rw [e1];have hx:=hu _ (oI h0 (by omega:a < l.length));have w1:IntKind.i64.wrap (ax l a)=ax l a:=dJ (by omega) (by omega);have w2:(ax l a).tmod n=ax l a % n:=Int.tmod_eq_emod_of_nonneg hx.1
   repeat (refine gn ?_)
   refine J.draw (by kernel_rfl) rfl ?_;refine JW.base none ?_;refine tk 0 ?_;refine JD.take 1 rfl rfl (by kernel_rfl) rfl (qb rfl) (Qt.cmp rfl rfl (congrArg some c1)) rfl ?_;refine tk 2 ?_;refine tk 3 ?_;refine tk 4 ?_;refine tk 5 ?_;refine tk 6 ?_;refine tk 7 ?_;refine tk 8 ?_;refine tk 9 ?_;refine tk 10 ?_;refine tk 11 ?_
   (refine JD.take 12 rfl rfl (by kernel_rfl) rfl (qb rfl) (Qt.cmp rfl rfl (congrArg some c2)) rfl ?_)
   refine tk 13 ?_;refine bE ?_
   repeat (refine gn ?_)
   refine J.draw (by kernel_rfl) rfl ?_;refine JW.base none ?_;refine tk 0 ?_;refine tk 1 ?_;refine tk 2 ?_;refine tk 3 ?_;refine tk 4 ?_;refine tk 5 ?_;refine tk 6 ?_;refine tk 7 ?_;refine JD.take 8 rfl rfl (by kernel_rfl) rfl (qb rfl) (Qt.cI rfl rfl h0 (NN h0 (by omega))) rfl ?_;refine tk 9 ?_;refine JD.take 10 rfl rfl (by kernel_rfl) rfl (qb rfl) (Qt.conv rfl w1) rfl ?_;refine tk 11 ?_;refine bE ?_
   repeat (first | (refine K.binOp ?_;refine jq rfl rfl rfl (Qt.rem rfl rfl (by omega) w2) ?_) | refine gn ?_)
   (exact J.bN Tryz.func187 rfl (.cons (.tmp rfl) .nil) () (by exact .refl) rfl)
end Fl
open Go.RowKit
namespace Fl
open Sx
set_option maxRecDepth 100000
end Fl
open Go.RowKit
namespace Fl
open Sx
set_option maxRecDepth 100000
end Fl
end Go.Proofs.YtdjhhbpedllnhaaGreat
set_option maxHeartbeats 2000000
namespace Go.Proofs.YtdjhhbpedllnhaaGreat
namespace Sx
end Sx
namespace Sx
section
variable {x y:Gr}
end
section
variable {n nc ns:Int} {G:Int→Gr} {C:Int→Cn} {S:Int→Su} {P:Int→Prop}
end
end Sx
namespace Sx
section
variable {n nc ns:Int} {G:Int→Gr} {C:Int→Cn} {S:Int→Su} {P:Int→Prop}
end
end Sx
namespace Sx
section
variable {n nc ns:Int} {G:Int→Gr} {C:Int→Cn} {S:Int→Su} {P:Int→Prop}
end
end Sx
namespace Sx
section
variable {n nc ns:Int} {G:Int→Gr} {C:Int→Cn} {S:Int→Su} {P:Int→Prop}
end
end Sx
namespace Sx
section
variable {n nc ns:Int} {G:Int→Gr} {C:Int→Cn} {S:Int→Su} {P:Int→Prop}
end
end Sx
namespace Sx
end Sx
namespace Sx
variable {nc ns n:Int} {x x':Gr}
end Sx
namespace Sx
variable {s:ah} {g:Nat}
theorem Ab:ag s g=aO (aa s g):=rfl
end Sx
namespace Sx
variable {s:ah} {g:Nat} {nc ns n:Int}
end Sx
namespace Sx
variable {s:ah} {g:Nat} {nc ns n:Int}
end Sx
namespace Sx
variable {s t:ah} {g:Nat} {nc ns n:Int}
end Sx
namespace Sx
variable {s t:ah} {g:Nat} {nc ns n:Int}
end Sx
namespace Sx
variable {s t:ah} {g:Nat} {nc ns n:Int}
end Sx
namespace Sx
variable {s t:ah} {g:Nat} {nc ns n:Int}
end Sx
namespace Sx
variable {s t:ah} {g:Nat} {nc ns n:Int}
end Sx
namespace Sx
variable {s t:ah} {g:Nat} {nc ns n:Int}
end Sx
namespace Sx
variable {s t:ah} {g:Nat} {nc ns n:Int}
end Sx
open Go.RowKit
theorem Y5 (w:World) (k:Int):Calls Tryz.prog 239 #[.int .i64 k] w fun e w'=>e=.returned (.bool (Pn.jD k))∧w=w':=by
 go_enter Tryz.func239,Tryz.ntmps239
 go_wp2_with fail
 all_goals
  go_ret
  exact ⟨jz (by simp [Pn.jD, *] <;> omega),rfl⟩
theorem Y6 (w:World) (k:Int):Calls Tryz.prog 240 #[.int .i64 k] w fun e w'=>e=.returned (.bool (Pn.jE k))∧w=w':=by
 go_enter Tryz.func240,Tryz.ntmps240
 go_wp2_with fail
 all_goals
  go_ret
  exact ⟨jz (by simp [Pn.jE, *]),rfl⟩
theorem YX (w:World) (b:Bool) (n most:Int):Calls Tryz.prog 238 #[.bool b,.int .i64 n,.int .i64 most] w fun e w'=>e=.returned (.bool (Pn.within b n most))∧w=w':=by
 cases b with
 | true =>
  go_enter Tryz.func238,Tryz.ntmps238
  go_wp2_with fail
  all_goals
   go_ret
   exact ⟨jz (by simp [Pn.within, *] <;> omega),rfl⟩
 | false =>
  go_enter Tryz.func238,Tryz.ntmps238
  go_wp2_with fail
  all_goals
   go_ret
   exact ⟨jz (by simp [Pn.within, *] <;> omega),rfl⟩
open Go.RowKit
namespace Pn
theorem ZW {o:Op} (h:o.kind < 1∨9 < o.kind):fG o=false:=by
 unfold fG;rw [decide_eq_false_iff_not];rintro ⟨h1,h2,_⟩;omega
theorem ZX {o:Op} (h:within (jD o.kind) o.ch 8=false):fG o=false:=by
 unfold fG;rw [decide_eq_false_iff_not];rintro ⟨h1,h2,h3,h4,h5,h6,h7,h8,h9,mZ,mj,lJ,kD,rC⟩;unfold within at h
 split at h
 ·simp at h;omega
 ·rename_i hc;simp at h;exact h (mZ (by simpa using hc))
theorem ZY {o:Op} (h:within (jE o.kind) o.v 255=false):fG o=false:=by
 unfold fG;rw [decide_eq_false_iff_not];rintro ⟨h1,h2,h3,h4,h5,h6,h7,h8,h9,mZ,mj,lJ,kD,rC⟩;unfold within at h
 split at h
 ·simp at h;omega
 ·rename_i hc;simp at h;exact h (mj (by simpa using hc))
theorem ZZ {o:Op} (h:within (o.kind == 1) o.n 4=false):fG o=false:=by
 unfold fG;rw [decide_eq_false_iff_not];rintro ⟨h1,h2,h3,h4,h5,h6,h7,h8,h9,mZ,mj,lJ,kD,rC⟩;unfold within at h
 split at h
 ·simp at h;omega
 ·rename_i hc;simp at h;exact h (lJ (by simpa using hc))
theorem Zt {o:Op} (h:within (jD o.kind) o.ch 8=true):0≤o.ch∧o.ch≤8∧(jD o.kind=false→o.ch=0):=by
 unfold within at h
 split at h
 ·rename_i hc;simp at h;exact ⟨h.1,h.2,fun e=>by rw [e] at hc;cases hc⟩
 ·simp at h;rw [h];exact ⟨by omega,by omega,fun _=>rfl⟩
theorem Zu {o:Op} (h:within (jE o.kind) o.v 255=true):0≤o.v∧o.v≤255∧(jE o.kind=false→o.v=0):=by
 unfold within at h
 split at h
 ·rename_i hc;simp at h;exact ⟨h.1,h.2,fun e=>by rw [e] at hc;cases hc⟩
 ·simp at h;rw [h];exact ⟨by omega,by omega,fun _=>rfl⟩
theorem Zv {o:Op} (h:within (o.kind == 1) o.n 4=true):0≤o.n∧o.n≤4∧(o.kind≠1→o.n=0):=by
 unfold within at h
 split at h
 ·rename_i hc;simp at h;exact ⟨h.1,h.2,fun e=>by simp at hc;exact absurd hc e⟩
 ·simp at h;rw [h];exact ⟨by omega,by omega,fun _=>rfl⟩
theorem Z0 {o:Op} (h1:1≤o.kind) (h2:o.kind≤9) (h3:within (jD o.kind) o.ch 8=true) (h4:within (jE o.kind) o.v 255=true) (h5:within (o.kind == 1) o.n 4=true) (h6:o.kind≠9):fG o=(decide (o.cases.length=0) && !o.de):=by
 obtain ⟨a1,a2,a3⟩:=Zt h3;obtain ⟨b1,b2,b3⟩:=Zu h4;obtain ⟨c1,c2,c3⟩:=Zv h5;rw [Bool.eq_iff_iff];unfold fG;simp only [decide_eq_true_eq,Bool.and_eq_true,Bool.not_eq_true',List.length_eq_zero_iff]
 constructor
 ·rintro ⟨_,_,_,_,_,_,_,_,_,_,_,_,h,_⟩;exact h h6
 ·rintro ⟨h7,h8⟩
  refine ⟨h1,h2,a1,a2,c1,c2,b1,b2,by rw [h7];simp,a3,b3,c3,fun _=>⟨h7,h8⟩,by rw [h7];simp⟩
theorem Z1 {o:Op} (h:6 < o.cases.length):fG o=false:=by
 unfold fG;rw [decide_eq_false_iff_not];rintro ⟨h1,h2,h3,h4,h5,h6,h7,h8,h9,mZ⟩;omega
theorem Z2 {o:Op} (h3:within (jD o.kind) o.ch 8=true) (h4:within (jE o.kind) o.v 255=true) (h5:within (o.kind == 1) o.n 4=true) (h6:o.kind=9) (h7:o.cases.length≤6) (h8:∀ (j:Nat) (c:Cs),o.cases[j]?=some c→Ei c=true):fG o=true:=by
 obtain ⟨a1,a2,a3⟩:=Zt h3;obtain ⟨b1,b2,b3⟩:=Zu h4;obtain ⟨c1,c2,c3⟩:=Zv h5;unfold fG;rw [decide_eq_true_iff];refine ⟨by omega,by omega,a1,a2,c1,c2,b1,b2,h7,a3,b3,c3,fun h=>absurd h6 h,fun c hc=>?_⟩;obtain ⟨j,hj,rfl⟩:=List.getElem_of_mem hc;rw [← IA];exact h8 j _ (List.getElem?_eq_getElem hj)
end Pn
set_option maxHeartbeats 3200000 in
theorem Zw (w:World) (o:Pn.Op) (va:Value) (SA:List Nat) (ha:GV mh 3 w va o.cases SA) :
  Calls Tryz.prog 182 #[.agg #[.int .i64 o.kind,.int .i64 o.ch,.int .i64 o.n,.int .i64 o.v,va,.bool o.de]] w fun e w'=>e=.returned (.bool (Pn.fG o))∧aP [] w w':=by
 have nQ:=ha.le;unfold maxLen at nQ;obtain ⟨ao,cap,rfl⟩:=ha.shape;have HA:=Lib.hid ha;obtain ⟨q,iL⟩:∃ q,Pn.fG o=q:=⟨_,rfl⟩
 rw [iL];have HQ:=Lib.hid iL;have KA:Hid (aP [] w (w.alloc (.cells #[.int .i64 o.kind,.int .i64 o.ch,.int .i64 o.n,.int .i64 o.v,.slice ao o.cases.length cap,.bool o.de] 50))):=Lib.hid ((aP.refl [] w).alloc _);clear ha iL
 by_cases hk:o.kind < 1∨9 < o.kind
 ·have HN:Hid (false=q):=Lib.hid (by rw [← HQ.out,Pn.ZW hk]);rcases hk with hk | hk
  ·have Ek:o.kind≤9:=by omega
   go_enter Tryz.func182,Tryz.ntmps182
   go_wp2_with fail
   go_ret
   exact ⟨jz HN.out,KA.out⟩
  ·have bQ:1≤o.kind:=by omega
   go_enter Tryz.func182,Tryz.ntmps182
   go_wp2_with fail
   go_ret
   exact ⟨jz HN.out,KA.out⟩
 have bQ:1≤o.kind:=by omega
 have Ek:o.kind≤9:=by omega
 clear hk
 cases Zb:Pn.within (Pn.jD o.kind) o.ch 8 with
 | false =>
  have HN:Hid (false=q):=Lib.hid (by rw [← HQ.out,Pn.ZX Zb])
  go_enter Tryz.func182,Tryz.ntmps182
  go_wp2_with fail
  go_quiet ((first | (go_at_call 239;exact YU (Y5 _ _)) | (go_at_call 240;exact YU (Y6 _ _)) | (go_at_call 238;exact YU (YX _ _ _ _))))
  go_wp2_with fail
  go_ret
  exact ⟨jz HN.out,KA.out.drewN _⟩
 | true =>
  cases Zc:Pn.within (Pn.jE o.kind) o.v 255 with
  | false =>
   have HN:Hid (false=q):=Lib.hid (by rw [← HQ.out,Pn.ZY Zc])
   go_enter Tryz.func182,Tryz.ntmps182
   go_wp2_with fail
   go_quiet ((first | (go_at_call 239;exact YU (Y5 _ _)) | (go_at_call 240;exact YU (Y6 _ _)) | (go_at_call 238;exact YU (YX _ _ _ _))))
   go_wp2_with fail
   go_ret
   exact ⟨jz HN.out,KA.out.drewN _⟩
  | true =>
   cases Ez:Pn.within (o.kind == 1) o.n 4 with
   | false =>
    have HN:Hid (false=q):=Lib.hid (by rw [← HQ.out,Pn.ZZ Ez])
    go_enter Tryz.func182,Tryz.ntmps182
    go_wp2_with fail
    go_quiet ((first | (go_at_call 239;exact YU (Y5 _ _)) | (go_at_call 240;exact YU (Y6 _ _)) | (go_at_call 238;exact YU (YX _ _ _ _))))
    go_wp2_with fail
    refine (YX _ _ _ _).mono ?_
    rintro e w3 ⟨rfl,rfl⟩
    rw [Ez]
    go_wp2_with fail
    go_ret
    exact ⟨jz HN.out,KA.out.drewN _⟩
   | true =>
    by_cases h9:o.kind=9
    ·have Zx:(o.kind != 9)=false:=by simp [h9]
     by_cases h6:6 < o.cases.length
     ·have HN:Hid (false=q):=Lib.hid (by rw [← HQ.out,Pn.Z1 h6]);clear h9
      go_enter Tryz.func182,Tryz.ntmps182
      go_wp2_with fail
      go_quiet ((first | (go_at_call 239;exact YU (Y5 _ _)) | (go_at_call 240;exact YU (Y6 _ _)) | (go_at_call 238;exact YU (YX _ _ _ _))))
      go_wp2_with fail
      refine (YX _ _ _ _).mono ?_
      rintro e w3 ⟨rfl,rfl⟩
      rw [Ez]
      go_wp2_with fail
      go_ret
      exact ⟨jz HN.out,KA.out.drewN _⟩
     ·have Z3:o.cases.length≤6:=by omega
      have HS:Hid ((∀ (j:Nat) (c:Pn.Cs),o.cases[j]?=some c→Pn.Ei c=true)→true=q):=Lib.hid (fun h=>by rw [← HQ.out,Pn.Z2 Zb Zc Ez h9 Z3 h]);clear h9 h6
      go_enter Tryz.func182,Tryz.ntmps182
      go_wp2_with fail
      go_quiet ((first | (go_at_call 239;exact YU (Y5 _ _)) | (go_at_call 240;exact YU (Y6 _ _)) | (go_at_call 238;exact YU (YX _ _ _ _))))
      go_wp2_with fail
      refine (YX _ _ _ _).mono ?_
      rintro e w3 ⟨rfl,rfl⟩
      rw [Ez]
      go_wp2_with fail
      clear Zb Zc Ez Zx
      go_loopw [59] (fun u wr=>∃ k:Nat,k≤o.cases.length∧u=.int .i64 k∧Hid (aP [] w wr∧∀ (j:Nat) (c:Pn.Cs),j < k→o.cases[j]?=some c→Pn.Ei c=true)) (fun u _=>o.cases.length - (intOf u).toNat)
      case atStart=>exact ⟨0,Nat.zero_le _,rfl,Lib.hid ⟨KA.out.drewN _,fun j c hj=>by omega⟩⟩
      case round =>
       obtain ⟨k,hk,rfl,HI⟩:=hrel;obtain ⟨wo,rfl⟩:∃ wo:World,wo=wr:=⟨_,rfl⟩
       by_cases iu:k < o.cases.length
       ·obtain ⟨x,hx⟩:∃ x,o.cases[k]?=some x:=⟨_,List.getElem?_eq_getElem iu⟩
        obtain ⟨g1,PG,rfl,_,m8,a0,a1,a2⟩:=(HA.out.then yF HI.out.1).case hx;have HX:=Lib.hid hx;have KR:Hid (aP [] w (wo.alloc (.cells #[.bool x.send,.int .i64 x.ch,.int .i64 x.v] 72))):=Lib.hid (HI.out.1.alloc _);clear hx
        cases xT:Pn.within true x.ch 8 with
        | false =>
         have HN:Hid (false=q):=Lib.hid (by rw [← HQ.out,Pn.PA HX.out (by unfold Pn.Ei;rw [xT];rfl)])
         go_wp2_with fail
         refine (YX _ _ _ _).mono ?_
         rintro e w4 ⟨rfl,rfl⟩
         rw [xT]
         go_wp2_with fail
         go_ret
         exact ⟨jz HN.out,KR.out⟩
        | true =>
         cases kW:Pn.within x.send x.v 255 with
         | false =>
          have HN:Hid (false=q):=Lib.hid (by rw [← HQ.out,Pn.PA HX.out (by unfold Pn.Ei;rw [xT,kW];rfl)])
          go_wp2_with fail
          refine (YX _ _ _ _).mono ?_
          rintro e w4 ⟨rfl,rfl⟩
          rw [xT]
          go_wp2_with fail
          refine (YX _ _ _ _).mono ?_
          rintro e w4 ⟨rfl,rfl⟩
          rw [kW]
          go_wp2_with fail
          go_ret
          exact ⟨jz HN.out,KR.out⟩
         | true =>
          have HO:Hid (Pn.Ei x=true):=Lib.hid (by unfold Pn.Ei;rw [xT,kW];rfl)
          go_wp2_with fail
          refine (YX _ _ _ _).mono ?_
          rintro e w4 ⟨rfl,rfl⟩
          rw [xT]
          go_wp2_with fail
          refine (YX _ _ _ _).mono ?_
          rintro e w4 ⟨rfl,rfl⟩
          rw [kW]
          go_wp2_with fail
          go_roundw
          case rel=>exact ⟨k + 1,by omega,by go_num,Lib.hid ⟨KR.out,fun j c hj hc=>by
           by_cases e:j=k
           ·subst e;rw [HX.out] at hc;cases hc;exact HO.out
           ·exact HI.out.2 j c (by omega) hc⟩⟩
          case measure=>simp [intOf];omega
       ·obtain rfl:k=o.cases.length:=by omega
        have HN:Hid (true=q):=Lib.hid (HS.out fun j c hc=>HI.out.2 j c (List.getElem?_eq_some_iff.1 hc).1 hc)
        go_wp2_with fail
        go_ret
        exact ⟨jz HN.out,HI.out.1⟩
    ·have Zx:(o.kind != 9)=true:=by simp [h9]
     have HP:=Lib.hid (Pn.Z0 bQ Ek Zb Zc Ez h9);clear h9
     cases hl:decide (o.cases.length=0) with
     | false =>
      have HN:Hid (false=q):=Lib.hid (by rw [← HQ.out,HP.out,hl];rfl);have Am:((o.cases.length:Int) == 0)=false:=by simpa using hl
      clear hl
      go_enter Tryz.func182,Tryz.ntmps182
      go_wp2_with fail
      go_quiet ((first | (go_at_call 239;exact YU (Y5 _ _)) | (go_at_call 240;exact YU (Y6 _ _)) | (go_at_call 238;exact YU (YX _ _ _ _))))
      go_wp2_with fail
      refine (YX _ _ _ _).mono ?_
      rintro e w3 ⟨rfl,rfl⟩
      rw [Ez]
      go_wp2_with fail
      all_goals
       go_ret
       exact ⟨jz HN.out,KA.out.drewN _⟩
     | true =>
      have HN:Hid ((!o.de)=q):=Lib.hid (by rw [← HQ.out,HP.out,hl];rfl);have Am:((o.cases.length:Int) == 0)=true:=by simpa using hl
      clear hl
      go_enter Tryz.func182,Tryz.ntmps182
      go_wp2_with fail
      go_quiet ((first | (go_at_call 239;exact YU (Y5 _ _)) | (go_at_call 240;exact YU (Y6 _ _)) | (go_at_call 238;exact YU (YX _ _ _ _))))
      go_wp2_with fail
      refine (YX _ _ _ _).mono ?_
      rintro e w3 ⟨rfl,rfl⟩
      rw [Ez]
      go_wp2_with fail
      all_goals
       go_ret
       exact ⟨jz HN.out,KA.out.drewN _⟩
open Go.RowKit
namespace Pn
end Pn
set_option maxHeartbeats 1600000 in
theorem Z4 (w:World) (v:Value) (p:List (List Pn.Op)) (S:List Nat) (h:GV sD 1 w v p S) :
  Calls Tryz.prog 100 #[v] w fun e w'=>e=.returned (.bool (Pn.right p))∧aP [] w w':=by
 have hle:=h.le;unfold maxLen at hle;obtain ⟨ao,cap,rfl⟩:=h.shape;have HP:=Lib.hid h;obtain ⟨q,iL⟩:∃ q,Pn.right p=q:=⟨_,rfl⟩
 rw [iL];have HQ:=Lib.hid iL;clear h iL
 by_cases hlen:p.length < 1∨8 < p.length
 ·have HN:Hid (false=q):=Lib.hid (by rw [← HQ.out,Pn.PM hlen]);rcases hlen with hl | hl
  ·have PW:p.length≤8:=by omega
   go_enter Tryz.func100,Tryz.ntmps100
   go_wp2_with fail
   go_ret
   exact ⟨jz HN.out,aP.refl _ _⟩
  ·have vt:1≤p.length:=by omega
   go_enter Tryz.func100,Tryz.ntmps100
   go_wp2_with fail
   go_ret
   exact ⟨jz HN.out,aP.refl _ _⟩
 have vt:1≤p.length:=by omega
 have PW:p.length≤8:=by omega
 clear hlen
 go_enter Tryz.func100,Tryz.ntmps100
 go_wp2_with fail
 go_loopw [17] (fun u wr=>∃ k:Nat,k≤p.length∧u=.int .i64 k∧Hid (aP [] w wr∧∀ (j:Nat) (l:List Pn.Op),j < k→p[j]?=some l→Pn.lY l=true)) (fun u _=>p.length - (intOf u).toNat)
 case atStart=>exact ⟨0,Nat.zero_le _,rfl,Lib.hid ⟨aP.refl _ _,fun j l hj=>by omega⟩⟩
 case round =>
  obtain ⟨k,hk,rfl,HI⟩:=hrel;obtain ⟨wo,rfl⟩:∃ wo:World,wo=wr:=⟨_,rfl⟩
  by_cases iu:k < p.length
  ·obtain ⟨l,hx⟩:∃ l,p[k]?=some l:=⟨_,List.getElem?_eq_getElem iu⟩
   obtain ⟨g1,PG,_,U1,rfl,_,_,a0,⟨v1,xT,AV⟩,_⟩:=(HP.out.then Ix HI.out.1).one hx
   cases xT;have qQ:=AV.le;unfold maxLen at qQ;obtain ⟨am,cm,rfl⟩:=AV.shape;have HU:=Lib.hid AV;have HX:=Lib.hid hx;clear hx AV
   by_cases ID:16 < l.length
   ·have HN:Hid (false=q):=Lib.hid (by rw [← HQ.out,Pn.IC HX.out (Pn.PK ID)])
    go_wp2_with fail
    go_ret
    exact ⟨jz HN.out,HI.out.1⟩
   have PU:l.length≤16:=by omega
   clear ID
   go_wp2_with fail
   go_loopw [26] (fun u wr=>∃ j:Nat,j≤l.length∧u=.int .i64 j∧Hid (aP [] w wr∧aP [] wo wr∧∀ (i:Nat) (o:Pn.Op),i < j→l[i]?=some o→Pn.fG o=true)) (fun u _=>l.length - (intOf u).toNat)
   case atStart=>exact ⟨0,Nat.zero_le _,rfl,Lib.hid ⟨HI.out.1,aP.refl _ _,fun i o hi=>by omega⟩⟩
   case round =>
    obtain ⟨j,hj,rfl,HJ⟩:=hrel;obtain ⟨wi,rfl⟩:∃ wi:World,wi=wr:=⟨_,rfl⟩
    by_cases PR:j < l.length
    ·obtain ⟨o,ho⟩:∃ o,l[j]?=some o:=⟨_,List.getElem?_eq_getElem PR⟩
     obtain ⟨g2,XJ,vc,U2,rfl,_,_,⟨b0,b1,b2,b3,b4,b5⟩,hu,_⟩:=(HU.out.then Eh HJ.out.2.1).op ho;obtain ⟨ac,cc,rfl⟩:=hu.shape;have HO:=Lib.hid ho;have HG:=Lib.hid hu;clear ho hu
     cases hr:Pn.fG o with
     | false =>
      have HN:Hid (false=q):=Lib.hid (by rw [← HQ.out,Pn.IC HX.out (Pn.PJ HO.out hr)])
      go_wp2_with fail
      refine (Zw _ o _ U2 (HG.out.then yF ((aP.refl [] wi).alloc _))).mono ?_
      rintro e w3 ⟨rfl,k3⟩
      rw [hr];have K3:=Lib.hid ((HJ.out.1.alloc _).then k3);have K4:=Lib.hid ((HJ.out.2.1.alloc _).then k3);clear k3
      go_wp2_with fail
      go_ret
      exact ⟨jz HN.out,K3.out⟩
     | true =>
      go_wp2_with fail
      refine (Zw _ o _ U2 (HG.out.then yF ((aP.refl [] wi).alloc _))).mono ?_
      rintro e w3 ⟨rfl,k3⟩
      rw [hr];have K3:=Lib.hid ((HJ.out.1.alloc _).then k3);have K4:=Lib.hid ((HJ.out.2.1.alloc _).then k3);have PT:=Lib.hid hr;clear k3 hr
      go_wp2_with fail
      go_roundw
      case rel=>exact ⟨j + 1,by omega,by go_num,Lib.hid ⟨K3.out,K4.out,fun i o2 hi h2=>by
       by_cases e:i=j
       ·subst e;rw [HO.out] at h2;cases h2;exact PT.out
       ·exact HJ.out.2.2 i o2 (by omega) h2⟩⟩
      case measure=>simp [intOf];omega
    ·obtain rfl:j=l.length:=by omega
     have PV:Hid (Pn.lY l=true):=Lib.hid (Pn.PL PU HJ.out.2.2)
     go_wp2_with fail
     go_roundw
     case rel=>exact ⟨k + 1,by omega,by go_num,Lib.hid ⟨HJ.out.1,fun i l2 hi h2=>by
      by_cases e:i=k
      ·subst e;rw [HX.out] at h2;cases h2;exact PV.out
      ·exact HI.out.2 i l2 (by omega) h2⟩⟩
     case measure=>simp [intOf];omega
  ·obtain rfl:k=p.length:=by omega
   have HN:Hid (true=q):=Lib.hid (by rw [← HQ.out,Pn.PN vt PW HI.out.2])
   go_wp2_with fail
   go_ret
   exact ⟨jz HN.out,HI.out.1⟩
end Go.Proofs.YtdjhhbpedllnhaaGreat
