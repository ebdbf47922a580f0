/-
  What the laws need, part B12.
  Conditions: none.
-/
import Derived.Test.YtgjpdogjekmemaaGreatB5
import Derived.Test.YtgjpdogjekmemaaGreatB11
import Derived.Laws.StructEq
import Derived.ProofKit
set_option linter.unusedVariables false
set_option linter.unusedSimpArgs false
set_option linter.unnecessarySimpa false
set_option maxHeartbeats 2000000
namespace Go.Proofs.YtgjpdogjekmemaaGreat
open Go.RowKit
namespace Fl
open Sx
set_option maxRecDepth 100000
set_option maxHeartbeats 4000000
theorem G2 (s:ai) (g:Nat) (re:Int) (hg:g < s.gs.length) :
  Pure Tryz.prog 25 [.agg (aC s),.c (nI g),.c (nI re)] (.agg (eM (Sx.mark s g re))):=by
 have C:=Bn s g re hg;refine aA.intro Tryz.func25 rfl rfl rfl (fun ok e=>?_)
 repeat (first | refine au ?_ | intro _)
 exact az Tryz.func25
theorem G3 (s:ai) (hd:s.done.length≤500) (FR:s.gs.length≤8):Pure Tryz.prog 10 [.agg (aC s)] (.c (.r 13 ((Ta.marks s).map eM))):=by
 have lt:=Ta.qu s s.gs.length;refine aA.intro Tryz.func10 rfl rfl rfl (fun ok e=>?_)
 repeat (first | (refine K.bi ?_;refine JO.ld (Ld.bO (qb rfl) rfl rfl .read (by (simp;omega))) rfl (fun _=>?_)) | refine au ?_ | intro _)
 rename_i b1 _ v0;refine J.loop (ι:={ q:Nat × Value // q.1≤s.gs.length }) (fun q=>[(21,.c (nI q.1.1)),(20,.c (nI s.gs.length)),(19,.c (.r 25 (s.gs.map eG))),(3,.c (.v q.1.2)),(1,.c (.v (.pointer (some ⟨b1,0,none⟩))))]) (fun q=>[.row q.1.2 46 13 ((Ta.gD s q.1.1).map eM),.box b1 36 (aC s)]) (fun q=>s.gs.length - q.1.1) ⟨(0,v0),Nat.zero_le _⟩ (fun X h=>h.aF ⟨rfl,rfl,rfl,rfl,rfl,trivial⟩) (fun q ih=>?_);obtain ⟨⟨k,v⟩,kR⟩:=q;simp only at kR ih ⊢
 by_cases hk:k < s.gs.length
 ·have t1:decide ((k:Int) < (s.gs.length:Int))=true:=decide_eq_true (by omega);have AX:=fM hk;have CM:=G2 s k 0 hk;have fe:=Ta.qu s k;have n1:((Ta.gD s k).map eM).length=(Ta.gD s k).length:=List.length_map ..;have fs:Ta.gD s (k + 1)=Ta.gD s k ++ Ta.now s k:=rfl;have ev:Ta.now s k=if ((aa s k).call == 0)=true then [] else [Ta.tm s k]:=rfl
  generalize hE:(Ta.gD s k).map eM=E at n1 ⊢
  cases t2:((aa s k).call == 0) with
  | true =>
   rw [ev,t2,if_pos rfl,List.append_nil] at fs
   repeat (first | (refine K.store ?_;refine JO.ld (Ld.bu rfl rfl rfl (by exact rfl) (by exact rfl)) rfl (fun _=>?_)) | refine au ?_ | intro _)
   refine J.ep 0 ?_;refine J.bq ?_ ((ih ⟨(k + 1,v),by simp only;omega⟩ (by simp only;omega)).aF ⟨rfl,rfl,rfl,rfl,rfl,trivial⟩);simp only;rw [fs,hE]
  | false =>
   cases t3:((aa s k).place == 2) <;> cases t4:((aa s k).place == 3)
   all_goals
    rw [ev,t2,if_neg (by simp),Ay s k _ _ t3 t4] at fs
    repeat (first | (refine K.store ?_;first | refine JO.ld (Ld.bu rfl rfl rfl (by exact rfl) (by exact rfl)) rfl (fun _=>?_) | refine JO.ld (Ld.cW rfl rfl (by exact rfl)) rfl (fun _=>?_)) | (refine K.lit ?_;refine JO.ld (Ld.mE (qb rfl) rfl rfl rfl rfl rfl) rfl (fun _=>?_)) | (refine K.bi ?_;refine JO.ld (Ld.bO (qb rfl) rfl rfl .read (by (simp;omega))) rfl (fun _=>?_)) | refine au ?_ | intro _)
    refine J.ep 1 ?_;refine J.ep 1 ?_;refine J.bq ?_ ((ih ⟨(k + 1,_),by simp only;omega⟩ (by simp only;omega)).aF ⟨rfl,rfl,rfl,rfl,rfl,trivial⟩);simp only;rw [fs,List.map_append,hE];rfl
 obtain rfl:k=s.gs.length:=by omega
 have t1:decide ((s.gs.length:Int) < (s.gs.length:Int))=false:=decide_eq_false (by omega);clear ih;have Bo:(Ta.gD s s.gs.length).length≤508:=by omega
 rw [show Ta.marks s=Ss.bg (fun m:Mk=>m.call) (Ta.gD s s.gs.length) from rfl];generalize Ta.gD s s.gs.length=l at Bo ⊢;clear lt
 repeat (first | (refine K.lit ?_;refine JO.ld (Ld.z0 (qb rfl)) rfl (fun _=>?_)) | refine gn ?_)
 refine J.gy 47 rfl ?_;refine J.ep 0 ?_;refine J.loop (ι:={ k:Nat // k≤l.length }) (fun q=>[(49,.c (nI q.1)),(48,.c (nI (l.map eM).length)),(47,.c (.r 13 (l.map eM))),(7,.c (.r 13 ((Ss.bg (fun m:Mk=>m.call) (l.take q.1)).map eM)))]) (fun q=>[]) (fun q=>l.length - q.1) ⟨0,Nat.zero_le _⟩ (fun X h=>h.aF ⟨rfl,rfl,rfl,rfl,trivial⟩) (fun q ih=>?_);obtain ⟨k,kR⟩:=q;simp only at kR ih ⊢
 by_cases hk:k < l.length
 ·have t1:decide ((k:Int) < ((l.map eM).length:Int))=true:=decide_eq_true (by rw [List.length_map];omega);obtain ⟨m,hm⟩:∃ m,l[k]?=some m:=⟨_,List.getElem?_eq_getElem hk⟩
  have AX:=cS (enc:=eM) hm;have ft:=List.length_take_le k l;have ls:=Ss.fL (key:=fun m:Mk=>m.call) (l.take k);have cM:=ih ⟨k + 1,by omega⟩ (by simp only;omega);clear ih;simp only at cM;rw [show l.take (k + 1)=l.take k ++ [m] by rw [List.take_add_one,hm];rfl,Ss.nJ] at cM;have sr:=Ss.jd (key:=fun m:Mk=>m.call) (l.take k);generalize Ss.bg (fun m:Mk=>m.call) (l.take k)=out at ls sr cM ⊢;obtain ⟨A1,B1,e1,ei,es⟩:=Ss.scan sr m;have ll:out.length=A1.length + B1.length:=by rw [e1];simp
  repeat (first | (refine K.store ?_;refine JO.ld (Ld.bu rfl rfl rfl (by exact rfl) (by exact rfl)) rfl (fun _=>?_)) | refine au ?_ | intro _)
  rename_i b9 _;refine J.loop (ι:={ j:Nat // j≤out.length }) (fun q=>[(55,.c (nI q.1)),(54,.c (nI out.length)),(53,.c (.r 13 (out.map eM))),(10,.c (nI (min q.1 A1.length:Nat))),(9,.c (.v (.pointer (some ⟨b9,0,none⟩)))),(49,.c (nI k)),(48,.c (nI (l.map eM).length)),(47,.c (.r 13 (l.map eM))),(7,.c (.r 13 (out.map eM)))]) (fun q=>[.box b9 46 (eM m)]) (fun q=>out.length - q.1) ⟨0,Nat.zero_le _⟩ (fun X h=>h.aF ⟨rfl,rfl,rfl,by rw [Nat.zero_min];rfl,rfl,rfl,rfl,rfl,rfl,trivial⟩) (fun q iO=>?_);obtain ⟨j,lX⟩:=q;simp only at lX iO ⊢
  by_cases hj:j < out.length
  ·have t2:decide ((j:Int) < (out.length:Int))=true:=decide_eq_true (by omega);obtain ⟨y,hy⟩:∃ y,out[j]?=some y:=⟨_,List.getElem?_eq_getElem hj⟩
   have AY:=cS (enc:=eM) hy;have e2:=es j y hy;have sS:=iO ⟨j + 1,by omega⟩ (by simp only;omega);clear iO;simp only at sS;have wj:IntKind.i64.wrap ((j:Int) + 1)=((j + 1:Nat):Int):=by rw [aV (by omega) (by omega)];omega
   cases t5:decide (y.call≤m.call) with
   | true =>
    have G4:j < A1.length:=e2.1 t5;rw [show min (j + 1) A1.length=j + 1 by omega] at sS
    repeat (first | (refine K.store ?_;refine JO.ld (Ld.bu rfl rfl rfl (by exact rfl) (by exact rfl)) rfl (fun _=>?_)) | (refine K.binOp ?_;refine jq rfl rfl rfl ((Qt.aD rfl rfl rfl wj)) ?_) | refine au ?_ | intro _)
    refine J.ep 0 ?_;exact sS.aF ⟨rfl,rfl,rfl,rfl,rfl,rfl,rfl,rfl,rfl,trivial⟩
   | false =>
    have G4:¬ j < A1.length:=fun h=>by have:=e2.2 h;rw [t5] at this;cases this
    rw [show min (j + 1) A1.length=A1.length by omega] at sS;rw [show min j A1.length=A1.length by omega]
    repeat (first | (refine K.store ?_;refine JO.ld (Ld.bu rfl rfl rfl (by exact rfl) (by exact rfl)) rfl (fun _=>?_)) | (refine K.binOp ?_;refine jq rfl rfl rfl ((Qt.aD rfl rfl rfl wj)) ?_) | refine au ?_ | intro _)
    refine J.ep 0 ?_;exact sS.aF ⟨rfl,rfl,rfl,rfl,rfl,rfl,rfl,rfl,rfl,trivial⟩
  ·have t2:decide ((j:Int) < (out.length:Int))=false:=decide_eq_false (by omega);rw [show min j A1.length=A1.length by omega];clear iO;have lm:(out.map eM).length=out.length:=List.length_map ..;have h1:((out.map eM).take ((A1.length:Int)).toNat).drop (0:Int).toNat=A1.map eM:=by rw [Int.toNat_natCast,e1];simp
   have h2:((out.map eM).take (((out.map eM).length:Int)).toNat).drop ((A1.length:Int)).toNat=B1.map eM:=by rw [Int.toNat_natCast,Int.toNat_natCast,List.take_length,e1];simp
   have la:(A1.map eM).length=A1.length:=List.length_map ..;have lb:(B1.map eM).length=B1.length:=List.length_map ..;rw [ei,show (A1 ++ m :: B1).map eM=[] ++ A1.map eM ++ [eM m] ++ B1.map eM by simp] at cM
   repeat (refine gn ?_)
   refine J.draw (by kernel_rfl) rfl ?_;refine JW.base none ?_;refine tk 1 ?_;refine tk 2 ?_;refine JD.take 3 rfl rfl (by kernel_rfl) rfl (qb rfl) ((Qt.j7 rfl rfl rfl (by omega) (by omega) (by omega)).eq (congrArg (fun z=>D.c (A.r 13 z)) h1)) rfl ?_;refine tk 5 ?_;refine JD.cF (i:=0) (j:=6) (by kernel_rfl) ?_ ?_;refine JS.cC rfl rfl rfl (qb rfl) (Ld.eJ (qb rfl)) .none (fun _=>?_);refine JD.cF (i:=4) (j:=6) (by kernel_rfl) ?_ ?_;refine JS.cC rfl rfl rfl (qb rfl) (Ld.bO (qb rfl) rfl rfl .read (by (simp;omega))) (by (exact .row (by repeat ((exact .refl))))) (fun _=>?_);refine jl 6 rfl rfl rfl rfl (Ld.dK (qb rfl) rfl rfl rfl rfl rfl) .none (fun _=>?_);refine jl 7 rfl rfl rfl rfl (Ld.bO (qb rfl) rfl rfl .cX (by (simp;omega))) (by (exact .row (by repeat (first | exact .refl | refine .cons ?_)))) (fun _=>?_);refine jk 8 rfl rfl rfl rfl (Qt.assign rfl) ?_;refine aX ?_
   rotate_left
   refine JS.cC rfl rfl rfl (qb rfl) (Ld.dK (qb rfl) rfl rfl rfl rfl rfl) .none (fun _=>?_);refine jl 4 rfl rfl rfl rfl (Ld.bO (qb rfl) rfl rfl .read (by (simp;omega))) (by (exact .row (by repeat (first | exact .refl | refine .cons ?_)))) (fun _=>?_);refine jl 7 rfl rfl rfl rfl (Ld.bO (qb rfl) rfl rfl .cX (by (simp;omega))) (by (exact .row (by repeat (first | exact .refl | refine .cons ?_)))) (fun _=>?_);refine jk 8 rfl rfl rfl rfl (Qt.assign rfl) ?_;refine aX ?_
   rotate_left
   refine JS.cC rfl rfl rfl (qb rfl) (Ld.dK (qb rfl) rfl rfl rfl rfl rfl) .none (fun _=>?_);refine jl 0 rfl rfl rfl rfl (Ld.eJ (qb rfl)) .none (fun _=>?_);refine jl 4 rfl rfl rfl rfl (Ld.bO (qb rfl) rfl rfl .read (by (simp;omega))) (by (exact .row (by repeat (first | exact .refl | refine .cons ?_)))) (fun _=>?_);refine jl 7 rfl rfl rfl rfl (Ld.bO (qb rfl) rfl rfl .cX (by (simp;omega))) (by (exact .row (by repeat (first | exact .refl | refine .cons ?_)))) (fun _=>?_);refine jk 8 rfl rfl rfl rfl (Qt.assign rfl) ?_;refine aX ?_
   rotate_left
   all_goals
    repeat (first | (refine K.slice ?_;refine jq rfl rfl rfl ((Qt.j7 rfl rfl rfl (by omega) (by omega) (by omega)).eq (congrArg (fun z=>D.c (A.r 13 z)) h2)) ?_) | (refine K.bi ?_;refine JO.ld (Ld.dU (qb rfl) rfl rfl .read (by (simp;omega))) rfl (fun _=>?_)) | refine gn ?_)
    refine J.ep 0 ?_;refine J.ep 0 ?_;exact cM.aF ⟨rfl,rfl,rfl,rfl,trivial⟩
 obtain rfl:k=l.length:=by omega
 have t1:decide ((l.length:Int) < ((l.map eM).length:Int))=false:=decide_eq_false (by rw [List.length_map];omega);rw [List.take_length]
 repeat (refine gn ?_)
 exact az Tryz.func10
end Fl
open Go.RowKit
namespace Fl
open Sx
set_option maxRecDepth 100000
theorem G5 (v:Value) (l:List Ta.Ev) (hs:l.length≤100000):aA Tryz.prog 54 [.c (.v v),.c (.v (.func (.func 55) #[] #[]))] [.row v 115 9 (l.map jf)] (fun _:Unit=>(.aU [],[.row v 115 9 ((Ss.bg (fun e:Ta.Ev=>e.step) l).map jf)])):=by
 refine aA.intro Tryz.func54 rfl rfl rfl (fun ok e=>?_)
 repeat (first | refine au ?_ | intro _)
 rename_i b;refine jq rfl rfl rfl (Qt.mkFun rfl) ?_;have CS:=FA (dV.box (FC b)) (fun _=>rfl) v l hs
 repeat (first | (refine K.call ?_;refine JO.ld (Ld.xk [] (fun _=>[.box b 117 (vs [.func (.func 55) #[] #[]]),.row v 115 9 ((Ss.bg (fun e:Ta.Ev=>e.step) l).map jf)]) CS (List.Perm.swap _ _ _) (fun _=>List.Perm.swap _ _ _) (qb rfl) rfl (.cons .refl (.cons .refl .nil))) rfl (fun _=>?_)) | refine gn ?_)
 (exact J.Ag [_] rfl Tryz.func54 rfl .nil () (by exact .refl) rfl)
theorem G6 (v:Value) (l:List Ta.Pt) (hs:l.length≤100000):aA Tryz.prog 52 [.c (.v v),.c (.v (.func (.func 53) #[] #[]))] [.row v 111 3 (l.map ko)] (fun _:Unit=>(.aU [],[.row v 111 3 ((Ss.bg (fun e:Ta.Pt=>e.step) l).map ko)])):=by
 refine aA.intro Tryz.func52 rfl rfl rfl (fun ok e=>?_)
 repeat (first | refine au ?_ | intro _)
 rename_i b;refine jq rfl rfl rfl (Qt.mkFun rfl) ?_;have CS:=Fs (dV.box (FD b)) (fun _=>rfl) v l hs
 repeat (first | (refine K.call ?_;refine JO.ld (Ld.xk [] (fun _=>[.box b 113 (vs [.func (.func 53) #[] #[]]),.row v 111 3 ((Ss.bg (fun e:Ta.Pt=>e.step) l).map ko)]) CS (List.Perm.swap _ _ _) (fun _=>List.Perm.swap _ _ _) (qb rfl) rfl (.cons .refl (.cons .refl .nil))) rfl (fun _=>?_)) | refine gn ?_)
 (exact J.Ag [_] rfl Tryz.func52 rfl .nil () (by exact .refl) rfl)
end Fl
open Go.RowKit
namespace Ta
def oU (m:Sx.Mk):Ev:=⟨m.call,m.g,m.op,false,⟨0,0,0,false,0⟩⟩
def yd (m:Sx.Mk):Ev:=⟨m.re,m.g,m.op,true,m.res⟩
def iK (m:Sx.Mk):List Ev:=if (m.re != 0)=true then [oU m,yd m] else [oU m]
def Bp (l:List Sx.Mk):List Ev:=Ss.bg (fun e:Ev=>e.step) (l.flatMap iK)
theorem ye:∀ l:List Sx.Mk,(l.flatMap iK).length≤2 * l.length
 | []=>Nat.le_refl _
 | m :: l=>by
  have:=ye l;have h:(iK m).length≤2:=by unfold iK;split <;> simp
  simp only [List.flatMap_cons,List.length_append,List.length_cons];omega
theorem G7 {α β:Type} {f:α→List β} {l:List α} {k:Nat} {m:α} (h:l[k]?=some m):(l.take (k + 1)).flatMap f=(l.take k).flatMap f ++ f m:=by
 rw [List.take_add_one,h];simp
def yf (k:Nat) (m:Sx.Mk):Pt:=⟨m.fW,1,k⟩
def yg (k:Nat) (m:Sx.Mk):Pt:=⟨m.bS,2,k⟩
def sU (k:Nat) (m:Sx.Mk):List Pt:=(if (m.fW != 0)=true then [yf k m] else []) ++ (if (m.bS != 0)=true then [yg k m] else [])
def uY (l:List Sx.Mk) (k:Nat):List Pt:=match l[k]? with
 | some m=>sU k m
 | none=>[]
def kz (l:List Sx.Mk):Nat→List Pt
 | 0=>[]
 | k + 1=>kz l k ++ uY l k
def points (l:List Sx.Mk):List Pt:=Ss.bg (fun e:Pt=>e.step) (kz l l.length)
theorem G8 {l:List Sx.Mk} {k:Nat} {m:Sx.Mk} (h:l[k]?=some m):kz l (k + 1)=kz l k ++ sU k m:=by
 rw [kz];unfold uY;rw [h]
theorem G9 (k:Nat) (m:Sx.Mk):(sU k m).length≤2:=by unfold sU;split <;> split <;> simp
theorem yh (l:List Sx.Mk):∀ k,(kz l k).length≤2 * k
 | 0=>Nat.le_refl _
 | k + 1=>by
  have:=yh l k;have h:(uY l k).length≤2:=by unfold uY;split;exact G9 _ _;simp
  rw [kz,List.length_append];omega
end Ta
namespace Fl
open Sx
set_option maxRecDepth 100000
set_option maxHeartbeats 4000000
theorem He (l:List Mk) (hs:l.length≤400):Pure Tryz.prog 18 [.c (.r 13 (l.map eM))] (.c (.r 9 ((Ta.Bp l).map jf))):=by
 refine aA.intro Tryz.func18 rfl rfl rfl (fun ok e=>?_)
 repeat (refine gn ?_)
 refine J.nX 115 9 ?_;refine J.loop (ι:={ q:Nat × Value // q.1≤l.length }) (fun q=>[(8,.c (nI q.1.1)),(7,.c (nI l.length)),(6,.c (.r 13 (l.map eM))),(3,.c (.v q.1.2))]) (fun q=>[.row q.1.2 115 9 (((l.take q.1.1).flatMap Ta.iK).map jf)]) (fun q=>l.length - q.1.1) ⟨(0,.slice none 0 0),Nat.zero_le _⟩ (fun X h=>h.aF ⟨rfl,rfl,rfl,rfl,trivial⟩) (fun q ih=>?_);obtain ⟨⟨k,v⟩,kR⟩:=q;simp only at kR ih ⊢
 by_cases hk:k < l.length
 ·have t1:decide ((k:Int) < (l.length:Int))=true:=decide_eq_true (by omega);obtain ⟨m,hm⟩:∃ m,l[k]?=some m:=⟨_,List.getElem?_eq_getElem hk⟩
  have AX:=cS (enc:=eM) hm;have fe:=Ta.ye (l.take k);have ft:=List.length_take_le k l;have n1:(((l.take k).flatMap Ta.iK).map jf).length=((l.take k).flatMap Ta.iK).length:=List.length_map ..;have n2:(((l.take k).flatMap Ta.iK).map jf ++ [jf (Ta.oU m)]).length=((l.take k).flatMap Ta.iK).length + 1:=by simp
  generalize hE:((l.take k).flatMap Ta.iK).map jf=E at n1 n2 ⊢;have fs:=Ta.G7 (f:=Ta.iK) hm;have ev:Ta.iK m=if (m.re != 0)=true then [Ta.oU m,Ta.yd m] else [Ta.oU m]:=rfl
  cases t2:(m.re != 0) with
  | true =>
   rw [ev,t2,if_pos rfl] at fs
   repeat (first | (refine K.build ?_;first | refine jq rfl rfl rfl (((Qt.build rfl (by kernel_rfl)).eq (show _=D.agg (jf (Ta.oU m)) from rfl))) ?_ | refine jq rfl rfl rfl (((Qt.build rfl (by kernel_rfl)).eq (show _=D.agg (jf (Ta.yd m)) from rfl))) ?_) | (refine K.lit ?_;refine JO.ld (Ld.mE (qb rfl) rfl rfl rfl rfl rfl) rfl (fun _=>?_)) | (refine K.bi ?_;refine JO.ld (Ld.bO (qb rfl) rfl rfl .read (by (simp;omega))) rfl (fun _=>?_)) | refine au ?_ | intro _)
   refine J.ep 1 ?_;refine J.bq ?_ ((ih ⟨(k + 1,_),by simp only;omega⟩ (by simp only;omega)).aF ⟨rfl,rfl,rfl,rfl,trivial⟩);simp only;rw [fs,List.map_append,hE];simp
   try rfl
  | false =>
   rw [ev,t2,if_neg (by simp)] at fs
   repeat (first | (refine K.build ?_;refine jq rfl rfl rfl (((Qt.build rfl (by kernel_rfl)).eq (show _=D.agg (jf (Ta.oU m)) from rfl))) ?_) | (refine K.lit ?_;refine JO.ld (Ld.mE (qb rfl) rfl rfl rfl rfl rfl) rfl (fun _=>?_)) | (refine K.bi ?_;refine JO.ld (Ld.bO (qb rfl) rfl rfl .read (by (simp;omega))) rfl (fun _=>?_)) | refine au ?_ | intro _)
   refine J.ep 1 ?_;refine J.bq ?_ ((ih ⟨(k + 1,_),by simp only;omega⟩ (by simp only;omega)).aF ⟨rfl,rfl,rfl,rfl,trivial⟩);simp only;rw [fs,List.map_append,hE];simp
   try rfl
 ·obtain rfl:k=l.length:=by omega
  have t1:decide ((l.length:Int) < (l.length:Int))=false:=decide_eq_false (by omega);rw [List.take_length];have fe:=Ta.ye l
  repeat (first | (refine K.call ?_;refine JO.ld (Ld.dP ((G5 v (l.flatMap Ta.iK) (by omega))) (qb rfl) rfl (by (exact bR.cons .refl (.cons .refl .nil)))) rfl ?_;intro _) | refine gn ?_)
  refine J.gy 2 rfl ?_;exact az Tryz.func18
theorem Hf (l:List Mk) (hs:l.length≤400):Pure Tryz.prog 17 [.c (.r 13 (l.map eM))] (.c (.r 3 ((Ta.points l).map ko))):=by
 refine aA.intro Tryz.func17 rfl rfl rfl (fun ok e=>?_)
 repeat (refine gn ?_)
 refine J.nX 111 3 ?_;refine J.loop (ι:={ q:Nat × Value // q.1≤l.length }) (fun q=>[(8,.c (nI q.1.1)),(7,.c (nI l.length)),(6,.c (.r 13 (l.map eM))),(3,.c (.v q.1.2))]) (fun q=>[.row q.1.2 111 3 ((Ta.kz l q.1.1).map ko)]) (fun q=>l.length - q.1.1) ⟨(0,.slice none 0 0),Nat.zero_le _⟩ (fun X h=>h.aF ⟨rfl,rfl,rfl,rfl,trivial⟩) (fun q ih=>?_);obtain ⟨⟨k,v⟩,kR⟩:=q;simp only at kR ih ⊢
 by_cases hk:k < l.length
 ·have t1:decide ((k:Int) < (l.length:Int))=true:=decide_eq_true (by omega);obtain ⟨m,hm⟩:∃ m,l[k]?=some m:=⟨_,List.getElem?_eq_getElem hk⟩
  have AX:=cS (enc:=eM) hm;have fe:=Ta.yh l k;have n1:((Ta.kz l k).map ko).length=(Ta.kz l k).length:=List.length_map ..;generalize hE:(Ta.kz l k).map ko=E at n1 ⊢;have fs:=Ta.G8 hm;have ev:Ta.sU k m=(if (m.fW != 0)=true then [Ta.yf k m] else []) ++ (if (m.bS != 0)=true then [Ta.yg k m] else []):=rfl
  cases t2:(m.fW != 0) <;> cases t3:(m.bS != 0)
  all_goals
   rw [ev,t2,t3] at fs
   repeat (first | (refine K.build ?_;first | refine jq rfl rfl rfl (((Qt.build rfl (by kernel_rfl)).eq (show _=D.agg (ko (Ta.yf k m)) from rfl))) ?_ | refine jq rfl rfl rfl (((Qt.build rfl (by kernel_rfl)).eq (show _=D.agg (ko (Ta.yg k m)) from rfl))) ?_) | (refine K.lit ?_;refine JO.ld (Ld.mE (qb rfl) rfl rfl rfl rfl rfl) rfl (fun _=>?_)) | (refine K.bi ?_;refine JO.ld (Ld.bO (qb rfl) rfl rfl .read (by (simp;omega))) rfl (fun _=>?_)) | refine au ?_ | intro _)
   refine J.ET 3 rfl ?_;refine J.ep 1 ?_;refine J.bq ?_ ((ih ⟨(k + 1,_),by simp only;omega⟩ (by simp only;omega)).aF ⟨rfl,rfl,rfl,rfl,trivial⟩);simp only;rw [fs,List.map_append,hE];simp
   try rfl
 ·obtain rfl:k=l.length:=by omega
  have t1:decide ((l.length:Int) < (l.length:Int))=false:=decide_eq_false (by omega);have fe:=Ta.yh l l.length
  repeat (first | (refine K.call ?_;refine JO.ld (Ld.dP ((G6 v (Ta.kz l l.length) (by omega))) (qb rfl) rfl (by (exact bR.cons .refl (.cons .refl .nil)))) rfl ?_;intro _) | refine gn ?_)
  refine J.gy 2 rfl ?_;exact az Tryz.func17
end Fl
open Go.RowKit
namespace Fl
open Sx
set_option maxRecDepth 100000
section
variable {P:Program} {c:Cx} {f:Fm} {L:List ak} {T:TypeId} {ps:String} {af:Array Edge} {gd:Option (Nat × Bool)} {t:Nat}
theorem Qt.Hg {x y:Operand} {X Y:Nat} (zs:List Value) (h:aY f x=some (.agg (vs zs))) (hy:aY f y=some (.agg (vs zs))) (hr:∀ w,(binOp .neq X (.agg zs.toArray) (.agg zs.toArray)).run P w=.ok (.bool false) w) (hg:P.eqGuardType P.depth X=false):Qt P c [] ⟨t,.binOp .neq X x y Y,T,ps,af,gd⟩ f L (.c (.v (.bool false))):=⟨fun a w s=>by
 have rx:=s.ev h;have ry:=s.ev hy;unfold RD at rx ry;obtain ⟨v1,e1,r1⟩:=rx;obtain ⟨v2,e2,r2⟩:=ry;rw [sF r1] at e1;rw [sF r2] at e2;refine ⟨.bool false,by unfold RD RA;exact ⟨rfl,rfl⟩,fun w' k=>?_⟩;simp [execOp,e1,e2,hr,Sem.run_bind,run_eqGuard_agg _ _ _ _ _ _ _ hg]⟩
end
theorem Hh:Tryz.prog.underlying 44=some (.struct (Tryz.prog.fieldsOf 44)):=by kernel_rfl
theorem Hi:Tryz.prog.stoodInHeld 44=false:=by kernel_rfl
theorem Hj:∃ f0 f1 f2 f3 f4:Field,(Tryz.prog.fieldsOf 44).toList=[f0,f1,f2,f3,f4]∧(f0.name≠"_"∧f1.name≠"_"∧f2.name≠"_"∧f3.name≠"_"∧f4.name≠"_")∧(f0.type=3∧f1.type=3∧f2.type=2∧f3.type=4∧f4.type=3)∧f0.offset=0∧f1.offset=1∧f2.offset=2∧f3.offset=3∧f4.offset=4:=by
 unfold Program.fieldsOf;rw [Tryz.underlying44];exact ⟨_,_,_,_,_,rfl,⟨by decide,by decide,by decide,by decide,by decide⟩,⟨rfl,rfl,rfl,rfl,rfl⟩,rfl,rfl,rfl,rfl,rfl⟩
theorem Hl:Tryz.prog.underlying 46=some (.struct (Tryz.prog.fieldsOf 46)):=by kernel_rfl
theorem Ho:Tryz.prog.stoodInHeld 46=false:=by kernel_rfl
theorem Hp:Tryz.prog.eqGuardType Tryz.prog.depth 46=false:=by kernel_rfl
theorem Hq:∃ f0 f1 f2 f3 f4 f5 f6 f7 f8:Field,(Tryz.prog.fieldsOf 46).toList=[f0,f1,f2,f3,f4,f5,f6,f7,f8]∧(f0.name≠"_"∧f1.name≠"_"∧f2.name≠"_"∧f3.name≠"_"∧f4.name≠"_"∧f5.name≠"_"∧f6.name≠"_"∧f7.name≠"_"∧f8.name≠"_")∧(f0.type=3∧f1.type=3∧f2.type=3∧f3.type=3∧f4.type=3∧f5.type=3∧f6.type=3∧f7.type=3∧f8.type=44)∧f0.offset=0∧f1.offset=1∧f2.offset=2∧f3.offset=3∧f4.offset=4∧f5.offset=5∧f6.offset=6∧f7.offset=7∧f8.offset=8:=by
 unfold Program.fieldsOf;rw [Tryz.underlying46];exact ⟨_,_,_,_,_,_,_,_,_,rfl,⟨by decide,by decide,by decide,by decide,by decide,by decide,by decide,by decide,by decide⟩,⟨rfl,rfl,rfl,rfl,rfl,rfl,rfl,rfl,rfl⟩,rfl,rfl,rfl,rfl,rfl,rfl,rfl,rfl,rfl⟩
theorem Hr (w:World) (x0:Int) (x1:Int) (x2:Int) (x3:Int) (x4:Int) (x5:Int) (x6:Int) (x7:Int) (y0:Int) (y1:Int) (y2:Int) (y3:Bool) (y4:Int):(part 44 #[.int .i64 x0,.int .i64 x1,.int .i64 x2,.int .i64 x3,.int .i64 x4,.int .i64 x5,.int .i64 x6,.int .i64 x7,.int .i64 y0,.int .i64 y1,.int .i64 y2,.bool y3,.int .i64 y4] 8).run Tryz.prog w=.ok (.agg #[.int .i64 y0,.int .i64 y1,.int .i64 y2,.bool y3,.int .i64 y4]) w:=by
 have hu:=Tryz.underlying44;have h5:gY Tryz.prog 44=some 5:=by kernel_rfl
 simp [go_sem,part,hu]
theorem Hs (w:World) (x0:Int) (x1:Int) (x2:Int) (x3:Int) (x4:Int) (x5:Int) (x6:Int) (x7:Int) (y0:Int) (y1:Int) (y2:Int) (y3:Bool) (y4:Int):(binOp .neq 46 (.agg #[.int .i64 x0,.int .i64 x1,.int .i64 x2,.int .i64 x3,.int .i64 x4,.int .i64 x5,.int .i64 x6,.int .i64 x7,.int .i64 y0,.int .i64 y1,.int .i64 y2,.bool y3,.int .i64 y4]) (.agg #[.int .i64 x0,.int .i64 x1,.int .i64 x2,.int .i64 x3,.int .i64 x4,.int .i64 x5,.int .i64 x6,.int .i64 x7,.int .i64 y0,.int .i64 y1,.int .i64 y2,.bool y3,.int .i64 y4])).run Tryz.prog w=.ok (.bool false) w:=by
 obtain ⟨f0,f1,f2,f3,f4,f5,f6,f7,f8,hf,⟨n0,n1,n2,n3,n4,n5,n6,n7,n8⟩,⟨t0,t1,t2,t3,t4,t5,t6,t7,t8⟩,o0,o1,o2,o3,o4,o5,o6,o7,o8⟩:=Hq;obtain ⟨g0,g1,g2,g3,g4,hg,⟨m0,m1,m2,m3,m4⟩,⟨s0,s1,s2,s3,s4⟩,q0,q1,q2,q3,q4⟩:=Hj;rw [run_neq_struct,run_equalIn_struct _ _ _ _ _ Hl Ho,hf];have hi:=Tryz.underlying3;have gi:=Tryz.underlying2;have hb:=Tryz.underlying4;simp [Op.eqFields,n0,t0,o0,n1,t1,o1,n2,t2,o2,n3,t3,o3,n4,t4,o4,n5,t5,o5,n6,t6,o6,n7,t7,o7,n8,t8,o8,Hr,run_equalIn_struct _ _ _ _ _ Hh Hi,hg,m0,m1,m2,m3,m4,s0,s1,s2,s3,s4,q0,q1,q2,q3,q4,go_sem,hi,gi,hb]
def vM (x:Mk):List Value:=[.int .i64 x.g,.int .i64 x.op,.int .i64 x.call,.int .i64 x.fW,.int .i64 x.bS,.int .i64 x.wi,.int .i64 x.c7,.int .i64 x.re,.int .i64 x.res.code,.int .i64 x.res.cs,.int .i64 x.res.v,.bool x.res.ok,.int .i64 x.res.n]
theorem Ht (l:List Mk) (hs:l.length≤400):Pure Tryz.prog 8 [.c (.r 13 (l.map eM)),.c (.r 13 (l.map eM))] (.c (bI true)):=by
 have t0:((l.length:Int) != (l.length:Int))=false:=by simp
 refine aA.intro Tryz.func8 rfl rfl rfl (fun ok e=>?_)
 repeat (refine gn ?_)
 refine J.loop (ι:={ k:Nat // k≤l.length }) (fun q=>[(13,.c (nI q.1)),(12,.c (nI l.length)),(0,.c (.r 13 (l.map eM))),(1,.c (.r 13 (l.map eM)))]) (fun q=>[]) (fun q=>l.length - q.1) ⟨0,Nat.zero_le _⟩ (fun X h=>h.aF ⟨rfl,rfl,rfl,rfl,trivial⟩) (fun q ih=>?_);obtain ⟨k,kR⟩:=q;simp only at kR ih ⊢
 by_cases hk:k < l.length
 ·have t1:decide ((k:Int) < (l.length:Int))=true:=decide_eq_true (by omega);obtain ⟨x,hm⟩:∃ m,l[k]?=some m:=⟨_,List.getElem?_eq_getElem hk⟩
  have AX:=cS (enc:=eM) hm
  repeat (refine gn ?_)
  refine J.draw (by kernel_rfl) rfl ?_;refine JW.base none ?_;refine tk 0 ?_;refine tk 1 ?_;refine JD.take 2 rfl rfl (by kernel_rfl) rfl (qb rfl) (Qt.dj rfl rfl (by omega) AX) rfl ?_;refine tk 3 ?_;refine tk 4 ?_;refine tk 5 ?_;refine JD.take 6 rfl rfl (by kernel_rfl) rfl (qb rfl) (Qt.dj rfl rfl (by omega) AX) rfl ?_;refine tk 7 ?_;refine JD.take 8 rfl rfl (by kernel_rfl) rfl (qb rfl) (Qt.Hg (vM x) rfl rfl (fun w=>Hs w _ _ _ _ _ _ _ _ _ _ _ _ _) Hp) rfl ?_;refine aX ?_
  repeat (refine gn ?_)
  exact (ih ⟨k + 1,by omega⟩ (by simp only;omega)).aF ⟨rfl,rfl,rfl,rfl,trivial⟩
 ·obtain rfl:k=l.length:=by omega
  have t1:decide ((l.length:Int) < (l.length:Int))=false:=decide_eq_false (by omega)
  repeat (refine gn ?_)
  exact az Tryz.func8
end Fl
open Go.RowKit
namespace Fl
open Sx
set_option maxRecDepth 100000
def sV:Mk:={ g:=0,op:=0,call:=2,fW:=0,bS:=4,wi:=0,c7:=0,re:=6,res:=⟨0,0,0,false,0⟩ }
theorem Hu:Pure Tryz.prog 6 [] (.c (bI true)):=by
 have CP:=Hf [sV] (by decide);have CH:=He [sV] (by decide);have t1:(((Ta.points [sV]).length:Int) == 1)=true:=by decide
 have t2:(((Ta.Bp [sV]).length:Int) == 2)=true:=by decide
 refine aA.intro Tryz.func6 rfl rfl rfl (fun ok e=>?_)
 repeat (first | (refine K.build ?_;refine jq rfl rfl rfl (((Qt.build rfl (by kernel_rfl)).eq (show _=D.agg (eM sV) from rfl))) ?_) | (refine K.lit ?_;refine JO.ld (Ld.mE (qb rfl) rfl rfl rfl rfl rfl) rfl (fun _=>?_)) | refine gn ?_)
 exact az Tryz.func6
end Fl
open Go.RowKit Go.ChangeShapes Go.WideShapes Go.Deep
namespace Fl
open Sx
section
variable {α:Type} {E:World→List Value→α→List Nat→Prop} {enc:α→List A}
def Si (enc:α→List A) (E:World→List Value→α→List Nat→Prop):Prop :=
 ∀ (ok:Nat→Prop) (w:World) (cs:List Value) (a:α) (U:List Nat),E w cs a U→(∀ x∈U,ok x)→RC ok w (enc a) cs
theorem Si.rx (h:Si enc E) {ok:Nat→Prop} {w:World} {sz:Nat} {S:List Nat} (hS:∀ x∈S,ok x):∀ {l:List α} {xs:List Value},xs.length=l.length * sz→mh E sz w xs l S→RX ok w sz (l.map enc) xs
 | [],xs,hl,r=>by simp at hl;subst hl;rfl
 | a :: l,xs,hl,r=>by
  have nk:xs.length=l.length * sz + sz:=by rw [hl,List.length_cons,Nat.add_mul];omega
  refine ⟨xs.take sz,xs.drop sz,(List.take_append_drop sz xs).symm,by rw [List.length_take];omega,?_,Si.rx h hS (by rw [List.length_drop];omega) fun k b hk=>?_⟩
  ·obtain ⟨U,u1,u2⟩:=r 0 a rfl;have:chunk xs sz 0=xs.take sz:=by unfold chunk;simp
   rw [this] at u1;exact h ok w _ a U u1 fun x hx=>hS x (u2 x hx)
  ·obtain ⟨U,u1,u2⟩:=r (k + 1) b (by simpa using hk);have:chunk xs sz (k + 1)=chunk (xs.drop sz) sz k:=by
    unfold chunk;rw [List.drop_drop,show (k + 1) * sz=sz + k * sz by rw [Nat.add_mul];omega]
   rw [this] at u1;exact ⟨U,u1,u2⟩
theorem Si.ra (h:Si enc E) {ok:Nat→Prop} {w:World} {sz:Nat} {v:Value} {l:List α} {S:List Nat} (r:GV E sz w v l S) (hS:∀ x∈S,ok x):RA ok w (.r sz (l.map enc)) v:=by
 obtain ⟨xs,T,v1,v2,v3,v4,v5⟩:=r;exact RA.wK (ys:=xs) (S:=T) (by rw [List.length_map];exact v1) (h.rx hS v1.len v2) fun g hg=>hS g (v3 g hg)
theorem Si.row (h:Si enc E) {sz:Nat}:Si (fun l:List α=>[A.r sz (l.map enc)]) (lG E sz):=fun ok w cs l U r hS=>by
 obtain ⟨v,rfl,g⟩:=r;exact RC.cons (h.ra g hS) RC.nil
end
theorem RA.w {ok:Nat→Prop} {w:World} {v:Value} (h:v.oneCell'=true):RA ok w (.v v) v:=by unfold RA;exact ⟨rfl,h⟩
theorem RD.v {ok:Nat→Prop} {w:World} {v:Value} (h:v.oneCell'=true):RD ok w (.c (.v v)) v:=by unfold RD RA;exact ⟨rfl,h⟩
theorem Hv {P:Program} {F:FuncId} {ds:List D} (h:Pure P F ds (.c (bI true))) {w:World} {xs:List Value} (hd:bU (fun _=>True) w ds xs):Calls P F xs.toArray w fun e w'=>e=.returned (.bool true)∧aP [] w w':=by
 refine Calls.mono (h.go (fun _=>True) w xs hd (by simp) List.Pairwise.nil (by simp [bL])) ?_
 rintro en w' ⟨i,x,rfl,kp,_,_,_,r⟩
 unfold RD bI RA at r;exact ⟨by rw [r.1],by simpa [bL] using kp⟩
end Fl
open Go.RowKit
namespace Fl
open Sx
set_option maxRecDepth 100000
def mL (p:Value) (l:List Int) (x:{ x:Nat × Value // p=pt x.1 }):List ak:=[.box x.1.1 130 [.v x.1.2],.row x.1.2 3 1 (qg l)]
def tL (p:Value) (l:List Int):World→List Nat→Prop:=sj (mL p l)
end Fl
namespace Qu
def yj:List Int→Int→Int
 | [],_=>-1
 | a :: l,x=>if a=x then l.headD (-1) else yj l x
def Bq:Int→List Int→Int→Int
 | _,[],_=>-1
 | p,a :: l,x=>if a=x then p else Bq a l x
def Br (l:List Int) (x:Int):Int:=Bq (-1) l x
def loc:List (List Int)→Int→Option Nat
 | [],_=>none
 | l :: r,x=>if x∈l then some 0 else (loc r x).map (· + 1)
def tc (R:List (List Int)) (x:Int):Int × Int × Int :=
 match loc R x with
 | some k=>(k,yj (R.getD k []) x,Br (R.getD k []) x)
 | none=>(-1,-1,-1)
def th (n:Nat) (R:List (List Int)):List (Int × Int × Int):=(List.range n).map fun (x:Nat)=>tc R (x:Int)
def lc (l:List Int):Int × Int × Int:=(l.headD (-1),l.getLastD (-1),(l.length:Int))
def ln (R:List (List Int)):List (Int × Int × Int):=R.map lc
structure Inv (n:Nat) (R:List (List Int)):Prop where
 Hw:n≤64
 MA:R.length≤64
 one:∀ a,R.flatten.count a≤1
 bound:∀ a,a∈R.flatten→0≤a∧a < n
theorem Hx (c:Int) (l:List Int):l.length=(l.filter (fun a=>a≠c)).length + l.count c:=by
 induction l with
 | nil=>rfl
 | cons x r ih =>
  rw [List.count_cons,List.filter_cons]
  by_cases e:x=c
  ·subst e;simp at ih ⊢;omega
  ·have e2:(x == c)=false:=by simpa using e
   simp [e,e2] at ih ⊢;omega
theorem Hy {l:List Int} {n:Nat} (h1:∀ a,l.count a≤1) (h2:∀ a∈l,0≤a∧a < (n:Int)):l.length≤n:=by
 induction n generalizing l with
 | zero =>
  cases l with
  | nil=>simp
  | cons x r=>have:=h2 x (by simp);omega
 | succ n ih =>
  have h3:=ih (l:=l.filter (fun a=>a≠(n:Int))) (fun a=>Nat.le_trans (List.Sublist.count_le a List.filter_sublist) (h1 a)) (fun a ha=>by
   simp only [List.mem_filter,decide_eq_true_eq] at ha;have:=h2 a ha.1;omega)
  have h4:=Hx (n:Int) l;have:=h1 (n:Int);omega
end Qu
namespace Qu
end Qu
namespace Qu
end Qu
namespace Qu
structure MB (n:Nat) (R:List (List Int)) (k:Nat) (x:Int) (a b:List Int):Prop where
 x0:0≤x∧x < n
 tx:tc R x=((k:Int),b.headD (-1),a.getLastD (-1))
 pa:a≠[]→0≤a.getLastD (-1)∧a.getLastD (-1) < n∧a.getLastD (-1)≠x∧tc R (a.getLastD (-1))=((k:Int),x,Br a (a.getLastD (-1)))
 hb:b≠[]→0≤b.headD (-1)∧b.headD (-1) < n∧b.headD (-1)≠x∧tc R (b.headD (-1))=((k:Int),yj b (b.headD (-1)),x)
 ab:a≠[]→b≠[]→a.getLastD (-1)≠b.headD (-1)
 len:(a ++ x :: b).length≤64
end Qu
namespace Qu
end Qu
namespace Qu
end Qu
open Go.RowKit
namespace Fl
open Sx
set_option maxRecDepth 100000
def Bs (t:Int × Int × Int):List A:=[nI t.1,nI t.2.1,nI t.2.2]
abbrev LQ (b:Nat) (u v:Value) (T N:List (Int × Int × Int)):List ak:=[.box b 136 [.v u,.v v],.row u 138 3 (T.map Bs),.row v 140 3 (N.map Bs)]
def mQ (p:Value) (n:Nat) (R:List (List Int)) (x:{ x:Nat × Value × Value // p=pt x.1∧Qu.Inv n R }):List ak:=LQ x.1.1 x.1.2.1 x.1.2.2 (Qu.th n R) (Qu.ln R)
def tQ (p:Value) (n:Nat) (R:List (List Int)):World→List Nat→Prop:=sj (mQ p n R)
end Fl
open Go.RowKit
namespace Fl
open Sx
set_option maxRecDepth 100000
def Hz (o:Int × Bool):List A:=[nI o.1,bI o.2]
abbrev LB (b:Nat) (v:Value) (l:List (Int × Bool)):List ak:=[.box b 128 [.v v],.row v 145 2 (l.map Hz)]
def mB (p:Value) (l:List (Int × Bool)) (x:{ x:Nat × Value // p=pt x.1 }):List ak:=LB x.1.1 x.1.2 l
def tB (p:Value) (l:List (Int × Bool)):World→List Nat→Prop:=sj (mB p l)
end Fl
namespace Rn
def HD (ps:List Int) (f c:Nat):List Int:=(List.range c).map fun i=>ps.getD ((f + i) % ps.length) 0
end Rn
open Go.RowKit
namespace Fl
open Sx
set_option maxRecDepth 100000
abbrev LR (b:Nat) (v:Value) (ps:List Int) (f c:Nat):List ak:=[.box b 150 [.v v,nI f,nI c],.row v 2 1 (qg ps)]
structure HE (N:Nat) (l ps:List Int) (f:Nat):Prop where
 pl:ps.length=N
 Hw:N≤64
 lv:l=Rn.HD ps f l.length
 ll:l.length≤N
 fN:f < N∨(N=0∧f=0)
def mR (p:Value) (N:Nat) (l:List Int) (x:{ x:Nat × Value × List Int × Nat // p=pt x.1∧HE N l x.2.2.1 x.2.2.2 }):List ak:=LR x.1.1 x.1.2.1 x.1.2.2.1 x.1.2.2.2 l.length
def Rg (w:World) (p:Value) (N:Nat) (l:List Int) (S:List Nat):Prop:=sj (mR p N l) w S
def tR (l:List (Value × Nat × List Int)) (w:World) (S:List Nat):Prop :=
 ∃ Ss:List (List Nat),Ss.length=l.length∧S=Ss.flatten∧Ss.Pairwise (fun A B=>∀ x∈A,x∉B)∧∀ (i:Nat) x Si,l[i]?=some x→Ss[i]?=some Si→Rg w x.1 x.2.1 x.2.2 Si
end Fl
open Go.RowKit
namespace Fl
open Sx
section
variable {P:Program} {F:FuncId} {ds:List D}
theorem aA.plain {d:D} (h:∀ ok e xs,bU ok e ds xs→Calls P F xs.toArray e fun en w'=>∃ x,en=.returned x∧aP [] e w'∧RD (fun g=>ok g∨e.heap.size≤g) w' d x):Pure P F ds d:=⟨fun ok e xs hd _ _ _=>by
 refine Calls.mono (h ok e xs hd) ?_
 rintro en w' ⟨x,rfl,kp,hx⟩
 refine ⟨(),x,rfl,by simpa [bL] using kp,by simp [bL],List.Pairwise.nil,by simp,?_⟩;have:oK ok e [] []=fun g=>ok g∨e.heap.size≤g:=by
  funext g;unfold oK;simp [bL]
 rw [this];exact hx⟩
end
theorem bU.v1 {ok:Nat→Prop} {w:World} {v:Value} {xs:List Value} (h:bU ok w [.c (.v v)] xs):xs=[v]:=by
 unfold bU at h;obtain ⟨x,ys,rfl,h1,h2⟩:=h;unfold bU at h2;unfold RD RA at h1;rw [h2,h1.1]
theorem bU.cv {ok:Nat→Prop} {w:World} {v:Value} {ds:List D} {xs:List Value} (h:bU ok w (.c (.v v) :: ds) xs):∃ ys,xs=v :: ys∧bU ok w ds ys:=by
 unfold bU at h;obtain ⟨x,ys,rfl,h1,h2⟩:=h;unfold RD RA at h1;exact ⟨ys,by rw [h1.1],h2⟩
theorem bU.v2 {ok:Nat→Prop} {w:World} {u v:Value} {xs:List Value} (h:bU ok w [.c (.v u),.c (.v v)] xs):xs=[u,v]:=by
 obtain ⟨ys,e1,h1⟩:=h.cv;rw [e1,h1.v1]
theorem bU.v3 {ok:Nat→Prop} {w:World} {t u v:Value} {xs:List Value} (h:bU ok w [.c (.v t),.c (.v u),.c (.v v)] xs):xs=[t,u,v]:=by
 obtain ⟨ys,e1,h1⟩:=h.cv;rw [e1,h1.v2]
theorem bU.HH {ok:Nat→Prop} {w:World} {xs:List Value} (h:bU ok w [] xs):xs=[]:=by unfold bU at h;exact h
end Fl
open Go.RowKit
namespace Fl
open Sx
structure U where
 vG:Value
 pB:Value
 vR:Value
 vC:Value
 pL:Value
 pQ:Value
 vS:Value
 pP:Value
 bD:Nat
 vM:Value
 TB:List Nat
 TL:List Nat
 TQ:List Nat
 TP:List Nat
 TR:List Nat
 H:List Bool
 rs:Nat→Value
 sg:Nat→Value
 wk:Nat→Value
def dW (s:ai):A:=.r 1 (s.cY.map fun n=>[.v (.int .u16 n)])
def wW (u:U) (s:ai):List A :=
 [nI s.eV,nI s.cG,nI s.step,.v u.vG,.v u.pB,.v u.vR,.v u.vC,.v u.pL,.v u.pQ,.v u.vS,.v u.pP,.v (pt u.bD),dW s,.v u.vM]
def qW (s:ai):List (List Int):=(List.range 16).map fun k=>if k % 2=0 then (cn s ((k / 2:Nat) + 1)).recv else (cn s ((k / 2:Nat) + 1)).send
def Bt (u:U) (s:ai):Po.St:=⟨s.cache,s.middle,s.fresh.toNat,u.H⟩
def HK (u:U) (s:ai):List (Value × Nat × List Int):=(List.range s.aK.length).map fun i=>(u.rs i,(cn s (i + 1)).cap.toNat,(cn s (i + 1)).buf)
section
variable {P:Program} {c:Cx} {k:List Item} {f:Fm} {L L2:List ak}
end
section
variable {P:Program} {c:Cx} {k:List Item} {f:Fm} {L L2:List ak}
end
end Fl
open Go.RowKit
namespace Fl
open Sx
set_option maxRecDepth 100000
section
variable {P:Program} {c:Cx} {f:Fm} {L:List ak} {T:TypeId} {ps:String} {af:Array Edge} {gd:Option (Nat × Bool)} {t:Nat}
end
@[reducible] def wl (b:Nat) (u:U) (s:ai) (G:List (List A)) (B:List (Int × Bool)) (R:List ak):List ak :=
 .box b 87 (wW u s) ::
 .row u.vG 55 25 G ::
 .row u.vR 104 1 ((List.range s.aK.length).map fun i=>[.v (u.rs i)]) ::
 .row u.vC 4 1 (s.aK.map fun c=>[bI c.closed]) ::
 .row u.vS 60 7 (s.aL.map eS) ::
 .row u.vM 46 13 (s.done.map eM) ::
 .box u.bD 132 [dW s,nI s.drawn] ::
 si (tB u.pB B) u.TB ::
 si (tL u.pL (s.aK.map (·.lock))) u.TL ::
 si (tQ u.pQ s.aL.length (qW s)) u.TQ ::
 si (tP u.pP s.eV.toNat s.cG.toNat (Bt u s)) u.TP ::
 si (tR (HK u s)) u.TR :: R
end Fl
open Go.RowKit
namespace Fl
open Sx
set_option maxRecDepth 100000
end Fl
open Go.RowKit
namespace Fl
open Sx
set_option maxRecDepth 100000
end Fl
open Go.RowKit
namespace Fl
open Sx
set_option maxRecDepth 100000
def sW (p:List (List Pn.Op)):A:=.r 1 (p.map fun ops=>[.r 6 (ops.map gR)])
end Fl
open Go.RowKit
namespace Fl
open Sx
set_option maxRecDepth 100000
structure Fw (s:ai):Prop where
 gs:s.gs.length≤8
 ch:s.aK.length≤8
 su:s.aL.length≤64
 dn:s.done.length≤100000
 dr:s.cY.length≤100000
 cl:s.cache.length=s.gs.length
 cb:∀ l∈s.cache,l.length≤1000
 mb:s.middle.length≤1000
 fr:0≤s.fresh
 cp:∀ c∈s.aK,0≤c.cap
 op:∀ x∈s.gs,x.ops.length≤100000∧∀ o∈x.ops,o.cases.length≤1000
 MC:∀ x∈s.gs,x.order.length≤1000∧x.aE.length≤1000∧x.aq.length≤1000∧x.an.length≤1000
end Fl
end Go.Proofs.YtgjpdogjekmemaaGreat
set_option maxHeartbeats 2000000
namespace Go.Proofs.YtgjpdogjekmemaaGreat
namespace Sx
def aI (x:Gr):Pn.Op:=x.ops.getD x.at_.toNat uE
def bJ (x:Gr) (j:Int):Int:=(bT (aI x) j).ch
def SR (x:Gr):Prop:=(aI x).kind=2∨(aI x).kind=3
def SE (x:Gr):Prop:=(aI x).kind=9
def Wt (x:Gr):Prop:=SR x∧12≤x.place∧x.place≤14∨SE x∧(x.place=13∨x.place=14∨x.place=30∧x.res.code=0)
def bl (x:Gr) (ch:Int):Prop :=
 2≤(aI x).kind∧(aI x).kind≤6∧ch=(aI x).ch∧(5≤x.place∧x.place≤12∨x.place=16∨21≤x.place∧x.place≤23) ∨
 SE x∧((25≤x.place∧x.place≤29∨x.place=32)∧ch∈x.aE∨(x.place=24∨x.place=31∨x.place=30∨x.place=33)∧ch∈x.aE.take x.k.toNat)
def Own (x:Gr) (i:Int):Prop :=
 0≤i∧(SR x∧11≤x.place∧x.place≤15∧x.bt=i∨SE x∧(28≤x.place∧x.place≤34∨x.place=13∨x.place=14)∧i∈x.aq)
def Match (x:Gr) (i:Int) (d:Su):Prop :=
 SR x∧d.cs=-1∧d.ch=(aI x).ch∧(d.send=true↔(aI x).kind=2) ∨
 SE x∧0≤d.cs∧d.cs < x.aq.length∧aB x.aq d.cs=i∧d.ch=bJ x d.cs∧d.send=(bT (aI x) d.cs).send∧d.cs∈x.order∧∀ j:Int,0≤j→j < x.aq.length→aB x.aq j=i→j=d.cs
def dy (x:Gr) (i j:Int):Prop :=
 SR x∧12≤x.place∧x.place≤14∧x.bt=i∧x.param=-1 ∨
 SE x∧0≤j∧j < x.aq.length∧aB x.aq j=i∧(x.place=29∧j∈x.order.take x.k.toNat∨x.place=13∨x.place=14∨x.place=31∨x.place=30∧x.res.code=0∨x.place=32∧j∈x.order.drop x.k.toNat)
def bp (k p:Int):Prop :=
 p=18∨(k=1∨k=7∨k=8)∧p=20∨(k=2∨k=3)∧(4≤p∧p≤17∨p=19)∨k=4∧(p=1∨p=2∨4≤p∧p≤9∨p=16∨p=17) ∨
 k=5∧(1≤p∧p≤9∨p=16∨p=17)∨k=6∧(p=4∨p=16∨p=17∨21≤p∧p≤23)∨k=9∧(24≤p∧p≤34∨p=13∨p=14∨p=17∨p=19)
def cU (p:Int):Prop:=24≤p∧p≤34∨p=13∨p=14
structure eN (nc ns:Int) (x:Gr):Prop where
 o1:∀ i∈x.order,0≤i∧i < (aI x).cases.length∧bJ x i∈x.aE
 o2:x.order.Nodup
 o3:1≤x.order.length
 l1:∀ c∈x.aE,1≤c∧c≤nc
 l2:x.aE.Pairwise (· < ·)
 l3:1≤x.aE.length
 k0:0≤x.k
 k1:x.place=24∨x.place=31→x.k < x.aE.length
 k2:25≤x.place∧x.place≤29∨x.place=32∨x.place=34→x.k < x.order.length
 k3:x.place=30∨x.place=33→1≤x.k∧x.k≤x.aE.length
 s1:24≤x.place∧x.place≤27→x.aq=[]
 s2:28≤x.place∧x.place≤29∨31≤x.place∧x.place≤34∨x.place=13∨x.place=14→x.aq.length=(aI x).cases.length
 s3:x.place=30→x.aq.length=(aI x).cases.length∨x.aq=[]∧x.res.code≠0
 s4:∀ j:Int,0≤j→j < x.aq.length→-1≤aB x.aq j∧aB x.aq j < ns∧(0≤aB x.aq j→j∈x.order)
 s5:x.place=28→∀ j∈x.order.drop x.k.toNat,aB x.aq j=-1
 s6:31≤x.place∧x.place≤33∨x.place=13∨x.place=14∨x.place=29∨x.place=30∧x.res.code=0→∀ j∈x.order,0≤aB x.aq j
 s7:x.place=34→∀ j∈x.order.take x.k.toNat,aB x.aq j=-1
 c1:24≤x.place∧x.place≤29∨x.place=13∨x.place=14→x.res.code=0
 c2:31≤x.place∧x.place≤33→x.br=true
 s8:x.place=28→∀ j∈x.order.take x.k.toNat,0≤aB x.aq j
structure Loc (nc ns n:Int) (x:Gr):Prop where
 kS:x.ops.length≤16
 fy:∀ o∈x.ops,Pn.dO o=true
 a0:0≤x.at_
 a1:x.at_≤x.ops.length
 pl:x.place=0∨x.at_ < x.ops.length∧bp (aI x).kind x.place
 uZ:x.place≠0→x.place≠18→x.place≠19→2≤(aI x).kind→(aI x).kind≤6→1≤(aI x).ch∧(aI x).ch≤nc
 oV:x.status=0∨x.status=1∨x.status=2
 u6:x.status=1→x.place=14∨x.place=19
 u7:x.place=19→x.status=1
 Bu:x.status=2→x.place=0∧x.at_=x.ops.length
 tk:x.token=true→Wt x∧0≤x.param∧x.place≠14
 w1:x.an≠[]→x.place=16∨x.place=17∨x.place=22∨x.place=23∨x.place=34∨x.place=30∧x.res.code≠0
 w2:x.place=17→x.an≠[]
 w3:∀ p∈x.an,0≤p∧p < n
 w4:x.an.Nodup
 hd:x.place=7∨x.place=8∨x.place=23∨x.place=26∨x.place=27→0≤x.hold∧x.hold < ns
 mi:SR x→11≤x.place→x.place≤15→0≤x.bt∧x.bt < ns
 p0:-1≤x.param∧x.param < ns
 p1:x.place=14→x.status=0→0≤x.param
 p2:0≤x.param→Wt x∧Own x x.param
 p3:0≤x.param→SE x→x.br=true
 se:SE x→cU x.place→eN nc ns x
structure Inv (n nc ns:Int) (G:Int→Gr) (C:Int→Cn) (S:Int→Su) (P:Int→Prop):Prop where
 loc:∀ g,0≤g→g < n→Loc nc ns n (G g)
 iD:∀ ch,1≤ch→ch≤nc→(C ch).lock=-1∨0≤(C ch).lock∧(C ch).lock < n
 gV:∀ g,0≤g→g < n→∀ ch,1≤ch→ch≤nc→(bl (G g) ch↔(C ch).lock=g)
 cap:∀ ch,1≤ch→ch≤nc→0≤(C ch).cap∧(C ch).cap≤4∧((C ch).buf.length:Int)≤(C ch).cap
 own:∀ g,0≤g→g < n→∀ i,Own (G g) i→i < ns∧Match (G g) i (S i)∧(S i).g=g∧P i
 q:∀ ch,1≤ch→ch≤nc→∀ i,i∈(C ch).recv∨i∈(C ch).send→0≤i∧i < ns∧(S i).ch=ch∧((S i).send=false→i∈(C ch).recv∧i∉(C ch).send)∧((S i).send=true→i∈(C ch).send∧i∉(C ch).recv)∧0≤(S i).g∧(S i).g < n∧Own (G (S i).g) i∧dy (G (S i).g) i (S i).cs
 nd:∀ ch,1≤ch→ch≤nc→(C ch).recv.Nodup∧(C ch).send.Nodup
 cR:∀ h,0≤h→h < n→(G h).place=7∨(G h).place=23∨(G h).place=26→1≤(S (G h).hold).ch∧(S (G h).hold).ch≤nc∧bl (G h) (S (G h).hold).ch∧((G h).hold∈(C (S (G h).hold).ch).recv∨(G h).hold∈(C (S (G h).hold).ch).send)∧0≤(S (G h).hold).cs
 cl:∀ h,0≤h→h < n→(G h).place=8∨(G h).place=27→1≤(S (G h).hold).ch∧(S (G h).hold).ch≤nc∧bl (G h) (S (G h).hold).ch∧0≤(S (G h).hold).g∧(S (G h).hold).g < n∧(S (G h).hold).g≠h∧Wt (G (S (G h).hold).g)∧(G (S (G h).hold).g).param=-1∧Own (G (S (G h).hold).g) (G h).hold∧(SE (G (S (G h).hold).g)→(G (S (G h).hold).g).br=true)∧(SR (G (S (G h).hold).g)→(G h).hold∉(C (S (G h).hold).ch).recv∧(G h).hold∉(C (S (G h).hold).ch).send)
 mJ:∀ h k,0≤h→h < n→0≤k→k < n→(G h).place=8∨(G h).place=27→(G k).place=8∨(G k).place=27→(S (G h).hold).g=(S (G k).hold).g→h=k
 wk:∀ h,0≤h→h < n→∀ p∈(G h).an,p≠h∧Wt (G p)∧0≤(G p).param∧(G p).token=false∧((G p).place=14→(G p).status≠0)
 lY:∀ h k p,0≤h→h < n→0≤k→k < n→p∈(G h).an→p∈(G k).an→h=k
 su:∀ i,0≤i→i < ns→0≤(S i).g∧(S i).g < n∧-1≤(S i).cs∧((S i).live=true→Own (G (S i).g) i)
 lv:∀ i,P i→0≤i∧i < ns→Own (G (S i).g) i
end Sx
namespace Sx
def up {α:Type} (G:Int→α) (g:Int) (x:α):Int→α:=fun h=>if h=g then x else G h
theorem fz {α:Type} (G:Int→α) (g:Int) (x:α):up G g x g=x:=by simp [up]
theorem fZ {α:Type} (G:Int→α) {g h:Int} (x:α) (e:h≠g):up G g x h=G h:=by simp [up,e]
def fP (G:Int→Gr) (p:Int) (y:Gr) (g:Int) (x:Gr):Int→Gr:=up (up G p y) g x
theorem yl (G:Int→Gr) (p:Int) (y:Gr) (g:Int) (x:Gr):fP G p y g x g=x:=fz _ _ _
theorem HL (G:Int→Gr) {p:Int} (y:Gr) {g:Int} (x:Gr) (e:p≠g):fP G p y g x p=y:=by unfold fP;rw [fZ _ _ e,fz]
theorem ym (G:Int→Gr) {p:Int} (y:Gr) {g:Int} (x:Gr) {h:Int} (e:h≠g) (e2:h≠p):fP G p y g x h=G h:=by unfold fP;rw [fZ _ _ e,fZ _ _ e2]
def cB (x:Gr):Prop:=x.place=8∨x.place=27
def bW (x:Gr):Prop:=x.place=7∨x.place=23∨x.place=26
def iS (x:Gr):Prop:=Wt x∧0≤x.param∧x.token=false∧(x.place=14→x.status≠0)
def jA (x:Gr):Prop:=Wt x∧x.param=-1∧(SE x→x.br=true)
structure Part (x y:Gr):Prop where
 ops:y.ops=x.ops
 at_:y.at_=x.at_
 place:y.place=x.place
 bt:y.bt=x.bt
 hold:y.hold=x.hold
 code:y.res.code=x.res.code
 order:y.order=x.order
 aE:y.aE=x.aE
 aq:y.aq=x.aq
 an:y.an=x.an
 k:y.k=x.k
section
variable {x y:Gr}
theorem Part.refl (x:Gr):Part x x:=⟨rfl,rfl,rfl,rfl,rfl,rfl,rfl,rfl,rfl,rfl,rfl⟩
theorem Part.aI (h:Part x y):aI y=aI x:=by unfold Sx.aI;rw [h.ops,h.at_]
theorem Part.sr (h:Part x y):SR y↔SR x:=by unfold SR;rw [h.aI]
theorem Part.se (h:Part x y):SE y↔SE x:=by unfold SE;rw [h.aI]
theorem Part.wt (h:Part x y):Wt y↔Wt x:=by unfold Wt;rw [h.sr,h.se,h.place,h.code]
theorem Part.holds (h:Part x y) (ch:Int):bl y ch↔bl x ch:=by unfold bl;rw [h.se,h.place,h.aI,h.aE,h.k]
theorem Part.own (h:Part x y) (i:Int):Own y i↔Own x i:=by unfold Own;rw [h.sr,h.se,h.place,h.bt,h.aq]
theorem Part.HM (h:Part x y) (i:Int) (d:Su):Match y i d↔Match x i d:=by unfold Match bJ;rw [h.sr,h.se,h.aI,h.aq,h.order]
end
section
variable {n nc ns:Int} {G:Int→Gr} {C:Int→Cn} {S:Int→Su} {P:Int→Prop}
structure Move (n nc ns:Int) (G:Int→Gr) (C:Int→Cn) (S:Int→Su) (g p:Int) (x y:Gr) (C':Int→Cn):Prop where
 g0:0≤g
 g1:g < n
 pg:p≠g
 lx:Loc nc ns n x
 ly:0≤p→p < n→Loc nc ns n y
 py:Part (G p) y
 iD:∀ ch,1≤ch→ch≤nc→(C' ch).lock=-1∨0≤(C' ch).lock∧(C' ch).lock < n
 sX:∀ ch,1≤ch→ch≤nc→(bl x ch↔(C' ch).lock=g)
 sY:∀ ch h,1≤ch→ch≤nc→0≤h→h < n→h≠g→((C' ch).lock=h↔(C ch).lock=h)
 cap:∀ ch,1≤ch→ch≤nc→0≤(C' ch).cap∧(C' ch).cap≤4∧((C' ch).buf.length:Int)≤(C' ch).cap
 own:∀ i,Own x i↔Own (G g) i
 mt:∀ i,Own x i→Match x i (S i)
 q1:∀ ch,1≤ch→ch≤nc→(C' ch).recv.Sublist (C ch).recv∧(C' ch).send.Sublist (C ch).send
 q2:∀ ch,1≤ch→ch≤nc→¬ bl (G g) ch→(C' ch).recv=(C ch).recv∧(C' ch).send=(C ch).send
 qx:∀ ch i,1≤ch→ch≤nc→i∈(C' ch).recv∨i∈(C' ch).send→(S i).g=g→dy (G g) i (S i).cs→dy x i (S i).cs
 qy:∀ ch i,1≤ch→ch≤nc→i∈(C' ch).recv∨i∈(C' ch).send→(S i).g=p→dy (G p) i (S i).cs→dy y i (S i).cs
 wn:bW x→1≤(S x.hold).ch∧(S x.hold).ch≤nc∧bl x (S x.hold).ch∧(x.hold∈(C' (S x.hold).ch).recv∨x.hold∈(C' (S x.hold).ch).send)∧0≤(S x.hold).cs
 cx:cB x→1≤(S x.hold).ch∧(S x.hold).ch≤nc∧bl x (S x.hold).ch∧(S x.hold).g=p∧0≤p∧p < n∧jA y∧Own y x.hold∧(SR y→x.hold∉(C' (S x.hold).ch).recv∧x.hold∉(C' (S x.hold).ch).send)
 cg:∀ k,0≤k→k < n→k≠g→cB (G k)→(S (G k).hold).g=g→jA (G g)→jA x∧(SR x→SR (G g))
 cp:∀ k,0≤k→k < n→k≠g→cB (G k)→(S (G k).hold).g=p→jA (G p)→jA y∧¬ cB x
 wx:∀ q∈x.an,q∈(G g).an∨q=p∧∀ k,0≤k→k < n→k≠g→p∉(G k).an
 wg:iS (G g)→(∃ k,0≤k∧k < n∧k≠g∧g∈(G k).an)→iS x
 HT:g∉x.an
 wp:p∈x.an→iS y
 HV:∀ k,0≤k→k < n→k≠g→p∈(G k).an→iS (G p)→iS y
theorem Inv.move (I:Inv n nc ns G C S P) {g p:Int} {x y:Gr} {C':Int→Cn} (M:Move n nc ns G C S g p x y C'):Inv n nc ns (fP G p y g x) C' S P:=by
 have gg:=yl G p y g x;have gp:=HL G y x M.pg;have gh:∀ {h},h≠g→h≠p→fP G p y g x h=G h:=fun a b=>ym G y x a b
 have pt:∀ h,h≠g→Part (G h) (fP G p y g x h):=by
  intro h e
  by_cases e2:h=p
  ·subst e2;rw [gp];exact M.py
  ·rw [gh e e2];exact Part.refl _
 have ow:∀ h i,Own (fP G p y g x h) i↔Own (G h) i:=by
  intro h i
  by_cases e:h=g
  ·subst e;rw [gg];exact M.own i
  ·exact (pt h e).own i
 have HW:∀ ch,1≤ch→ch≤nc→∀ i,i∈(C' ch).recv∨i∈(C' ch).send→i∈(C ch).recv∨i∈(C ch).send:=fun ch a b i h=>h.imp (fun h=>(M.q1 ch a b).1.subset h) (fun h=>(M.q1 ch a b).2.subset h)
 constructor
 ·intro h a b
  by_cases e:h=g
  ·subst e;rw [gg];exact M.lx
  ·by_cases e2:h=p
   ·subst e2;rw [gp];exact M.ly a b
   ·rw [gh e e2];exact I.loc h a b
 ·exact M.iD
 ·intro h a b ch c1 c2
  by_cases e:h=g
  ·subst e;rw [gg];exact M.sX ch c1 c2
  ·rw [(pt h e).holds,I.gV h a b ch c1 c2,M.sY ch h c1 c2 a b e]
 ·exact M.cap
 ·intro h a b i hi;have:=I.own h a b i ((ow h i).1 hi);refine ⟨this.1,?_,this.2.2⟩
  by_cases e:h=g
  ·subst e;rw [gg] at hi ⊢;exact M.mt i hi
  ·exact ((pt h e).HM i _).2 this.2.1
 ·intro ch a b i hi;have:=I.q ch a b i (HW ch a b i hi);obtain ⟨t1,t2,t3,t4,t5,t6,t7,t8,t9⟩:=this;refine ⟨t1,t2,t3,?_,?_,t6,t7,(ow _ _).2 t8,?_⟩
  ·intro e;have:=t4 e;rcases hi with hi | hi
   ·exact ⟨hi,fun h=>this.2 ((M.q1 ch a b).2.subset h)⟩
   ·exact absurd ((M.q1 ch a b).2.subset hi) this.2
  ·intro e;have:=t5 e;rcases hi with hi | hi
   ·exact absurd ((M.q1 ch a b).1.subset hi) this.2
   ·exact ⟨hi,fun h=>this.2 ((M.q1 ch a b).1.subset h)⟩
  ·by_cases e:(S i).g=g
   ·rw [e,gg];exact M.qx ch i a b hi e (e ▸ t9)
   ·by_cases e2:(S i).g=p
    ·rw [e2,gp];exact M.qy ch i a b hi e2 (e2 ▸ t9)
    ·grind
 ·intro ch a b;exact ⟨(I.nd ch a b).1.sublist (M.q1 ch a b).1,(I.nd ch a b).2.sublist (M.q1 ch a b).2⟩
 ·intro h a b
  by_cases e:h=g
  ·subst e;rw [gg];exact M.wn
  ·have hp:=pt h e;rw [hp.place,hp.hold];intro c;obtain ⟨t1,t2,t3,t4,t5⟩:=I.cR h a b c;refine ⟨t1,t2,(hp.holds _).2 t3,?_,t5⟩;have:¬ bl (G g) (S (G h).hold).ch:=by
    rw [I.gV g M.g0 M.g1 _ t1 t2];rw [I.gV h a b _ t1 t2] at t3;omega
   rw [(M.q2 _ t1 t2 this).1,(M.q2 _ t1 t2 this).2];exact t4
 ·-- who is won by another one than g stays so
  have key:∀ k,0≤k→k < n→k≠g→cB (G k)→jA (fP G p y g x (S (G k).hold).g)∧Own (fP G p y g x (S (G k).hold).g) (G k).hold∧(SR (fP G p y g x (S (G k).hold).g)→(G k).hold∉(C' (S (G k).hold).ch).recv∧(G k).hold∉(C' (S (G k).hold).ch).send):=by
   intro k a b e c;obtain ⟨t1,t2,t3,t4,t5,t6,t7,t8,t9,t10,t11⟩:=I.cl k a b c;have sub:(G k).hold∉(C (S (G k).hold).ch).recv∧(G k).hold∉(C (S (G k).hold).ch).send→(G k).hold∉(C' (S (G k).hold).ch).recv∧(G k).hold∉(C' (S (G k).hold).ch).send :=
    fun h=>⟨fun h2=>h.1 ((M.q1 _ t1 t2).1.subset h2),fun h2=>h.2 ((M.q1 _ t1 t2).2.subset h2)⟩
   refine ⟨?_,(ow _ _).2 t9,?_⟩
   ·by_cases e1:(S (G k).hold).g=g
    ·rw [e1,gg];exact (M.cg k a b e c e1 (by rw [e1] at t7 t8 t10;exact ⟨t7,t8,t10⟩)).1
    ·by_cases e2:(S (G k).hold).g=p
     ·rw [e2,gp];exact (M.cp k a b e c e2 (by rw [e2] at t7 t8 t10;exact ⟨t7,t8,t10⟩)).1
     ·rw [gh e1 e2];exact ⟨t7,t8,t10⟩
   ·by_cases e1:(S (G k).hold).g=g
    ·rw [e1,gg];rw [e1] at t7 t8 t10 t11;exact fun h=>sub (t11 ((M.cg k a b e c e1 ⟨t7,t8,t10⟩).2 h))
    ·rw [(pt _ e1).sr];exact fun h=>sub (t11 h)
  intro h a b
  by_cases e:h=g
  ·subst e;rw [gg];intro c;obtain ⟨t1,t2,t3,t4,t5,t6,t7,t8,t9⟩:=M.cx c;rw [t4,gp];exact ⟨t1,t2,t3,t5,t6,M.pg,t7.1,t7.2.1,t8,t7.2.2,t9⟩
  ·have hp:=pt h e;rw [hp.place,hp.hold];intro c;obtain ⟨t1,t2,t3,t4,t5,t6,_⟩:=I.cl h a b c;obtain ⟨k1,k2,k3⟩:=key h a b e c;exact ⟨t1,t2,(hp.holds _).2 t3,t4,t5,t6,k1.1,k1.2.1,k2,k1.2.2,k3⟩
 ·have old:∀ h,h≠g→(fP G p y g x h).place=(G h).place∧(fP G p y g x h).hold=(G h).hold:=fun h e=>⟨(pt h e).place,(pt h e).hold⟩
  have one:∀ k,0≤k→k < n→k≠g→cB (G k)→cB x→(S x.hold).g≠(S (G k).hold).g:=by
   intro k a b e c cx e2;obtain ⟨t1,t2,t3,t4,t5,t6,t7,t8,t9⟩:=M.cx cx;rw [t4] at e2;obtain ⟨_,_,_,_,_,_,s7,s8,_,kT,_⟩:=I.cl k a b c;rw [← e2] at s7 s8 kT;exact (M.cp k a b e c e2.symm ⟨s7,s8,kT⟩).2 cx
  intro h k a b c d e f e3
  by_cases eh:h=g
  ·by_cases ek:k=g
   ·rw [eh,ek]
   ·rw [eh,gg] at e e3;rw [(old k ek).1] at f;rw [(old k ek).2] at e3;exact absurd e3 (one k c d ek f e)
  ·by_cases ek:k=g
   ·rw [ek,gg] at f e3;rw [(old h eh).1] at e;rw [(old h eh).2] at e3;exact absurd e3.symm (one h a b eh e f)
   ·rw [(old k ek).1] at f;rw [(old h eh).1] at e;rw [(old h eh).2,(old k ek).2] at e3;exact I.mJ h k a b c d e f e3
 ·have wo:∀ h,h≠g→(fP G p y g x h).an=(G h).an:=fun h e=>(pt h e).an
  have wk:∀ h,0≤h→h < n→∀ q∈(G h).an,iS (G q):=fun h a b q hq=>(I.wk h a b q hq).2
  suffices H:∀ h,0≤h→h < n→∀ q∈(fP G p y g x h).an,q≠h∧iS (fP G p y g x q) from H
  intro h a b q hq
  by_cases e:h=g
  ·subst e;rw [gg] at hq;have sZ:q≠h:=fun e=>M.HT (e ▸ hq)
   refine ⟨sZ,?_⟩
   by_cases e2:q=p
   ·subst e2;rw [gp];exact M.wp hq
   ·rw [gh sZ e2];rcases M.wx q hq with h1 | h1
    ·exact wk h a b q h1
    ·exact absurd h1.1 e2
  ·rw [wo h e] at hq;have w0:=wk h a b q hq;refine ⟨(I.wk h a b q hq).1,?_⟩
   by_cases e1:q=g
   ·subst e1;rw [gg];exact M.wg w0 ⟨h,a,b,e,hq⟩
   ·by_cases e2:q=p
    ·subst e2;rw [gp];exact M.HV h a b e hq w0
    ·grind
 ·have wo:∀ h,h≠g→(fP G p y g x h).an=(G h).an:=fun h e=>(pt h e).an
  have one:∀ k q,0≤k→k < n→k≠g→q∈x.an→q∈(G k).an→False:=by
   intro k q a b e h1 h2;rcases M.wx q h1 with h3 | h3
   ·exact e (I.lY k g q a b M.g0 M.g1 h2 h3)
   ·grind
  intro h k q a b c d e f
  by_cases eh:h=g
  ·grind
  ·by_cases ek:k=g
   ·grind
   ·rw [wo h eh] at e;rw [wo k ek] at f;exact I.lY h k q a b c d e f
 ·intro i a b;have:=I.su i a b;exact ⟨this.1,this.2.1,this.2.2.1,fun h=>(ow _ _).2 (this.2.2.2 h)⟩
 ·intro i a b;exact (ow _ _).2 (I.lv i a b)
end
end Sx
namespace Sx
section
variable {n nc ns:Int} {G:Int→Gr} {C:Int→Cn} {S:Int→Su} {P:Int→Prop}
theorem Match.oe {x:Gr} {i:Int} {d e:Su} (h:Match x i d) (h1:e.cs=d.cs) (h2:e.ch=d.ch) (h3:e.send=d.send):Match x i e:=by
 unfold Match at *;rw [h1,h2,h3];exact h
theorem Inv.HY (I:Inv n nc ns G C S P) {S':Int→Su} (h:∀ i,(S' i).g=(S i).g∧(S' i).ch=(S i).ch∧(S' i).cs=(S i).cs∧(S' i).send=(S i).send∧(S' i).live=(S i).live):Inv n nc ns G C S' P:=by
 constructor
 ·exact I.loc
 ·exact I.iD
 ·exact I.gV
 ·exact I.cap
 ·intro g a b i hi;obtain ⟨t1,t2,t3,t4⟩:=I.own g a b i hi;exact ⟨t1,t2.oe (h i).2.2.1 (h i).2.1 (h i).2.2.2.1,by rw [(h i).1];exact t3,t4⟩
 ·intro ch a b i hi;rw [(h i).1,(h i).2.1,(h i).2.2.1,(h i).2.2.2.1];exact I.q ch a b i hi
 ·exact I.nd
 ·intro k a b;rw [(h _).2.1,(h _).2.2.1];exact I.cR k a b
 ·intro k a b;rw [(h _).1,(h _).2.1];exact I.cl k a b
 ·intro k l a b c d;rw [(h _).1,(h _).1];exact I.mJ k l a b c d
 ·exact I.wk
 ·exact I.lY
 ·intro i a b;rw [(h i).1,(h i).2.2.1,(h i).2.2.2.2];exact I.su i a b
 ·intro i a b;rw [(h i).1];exact I.lv i a b
theorem Inv.Bv (I:Inv n nc ns G C S P) {ch i:Int} (a:1≤ch) (b:ch≤nc) (h:i∈(C ch).recv∨i∈(C ch).send):P i:=by
 obtain ⟨_,_,_,_,_,t6,t7,t8,_⟩:=I.q ch a b i h;exact (I.own _ t6 t7 i t8).2.2.2
theorem Inv.HZ (I:Inv n nc ns G C S P) {h:Int} (a:0≤h) (b:h < n) (c:bW (G h)):P (G h).hold:=by
 obtain ⟨t1,t2,_,t4,_⟩:=I.cR h a b c;exact I.Bv t1 t2 t4
theorem Inv.yo (I:Inv n nc ns G C S P) {h:Int} (a:0≤h) (b:h < n) (c:cB (G h)):P (G h).hold:=by
 obtain ⟨_,_,_,t4,t5,_,_,_,t9,_⟩:=I.cl h a b c;exact (I.own _ t4 t5 _ t9).2.2.2
theorem Inv.take (I:Inv n nc ns G C S P) {g i:Int} {x:Gr} {d:Su} (g0:0≤g) (g1:g < n) (i0:0≤i) (i1:i < ns) (hP:¬ P i) (lx:Loc nc ns n x) (hh:∀ ch,bl x ch↔bl (G g) ch)
  (ow:∀ j,Own x j↔Own (G g) j∨j=i) (mt:∀ j,Own (G g) j→Match x j (S j)) (md:Match x i d) (dg:d.g=g) (nq:∀ j k,¬ dy (G g) j k) (nw:¬ bW x) (kU:¬ cB x) (wk:x.an=(G g).an) (wt:¬ Wt (G g)) :
  Inv n nc ns (up G g x) C (up S i d) (fun j=>P j∨j=i):=by
 have gg:=fz G g x;have gh:∀ {h},h≠g→up G g x h=G h:=fun a=>fZ G x a
 have ss:=fz S i d;have sh:∀ {h},h≠i→up S i d h=S h:=fun a=>fZ S d a
 have H6:∀ h,0≤h→h < n→¬ Own (G h) i:=fun h a b ho=>hP (I.own h a b i ho).2.2.2
 have ta:∀ h,0≤h→h < n→∀ j,Own (G h) j→Own (up G g x h) j:=by grind
 constructor
 ·intro h a b
  by_cases e:h=g
  ·grind
  ·rw [gh e];exact I.loc h a b
 ·exact I.iD
 ·intro h a b ch c1 c2
  by_cases e:h=g
  ·subst e;rw [gg,hh];exact I.gV h a b ch c1 c2
  ·rw [gh e];exact I.gV h a b ch c1 c2
 ·exact I.cap
 ·intro h a b j hj
  by_cases e:h=g
  ·subst e;rw [gg] at hj ⊢
   by_cases e2:j=i
   ·grind
   ·have lX:=((ow j).1 hj).resolve_right e2;rw [sh e2];obtain ⟨t1,t2,t3,t4⟩:=I.own h a b j lX;exact ⟨t1,mt j lX,t3,.inl t4⟩
  ·rw [gh e] at hj ⊢;have e2:j≠i:=fun e2=>H6 h a b (e2 ▸ hj)
   rw [sh e2];obtain ⟨t1,t2,t3,t4⟩:=I.own h a b j hj;exact ⟨t1,t2,t3,.inl t4⟩
 ·intro ch a b j hj;have e2:j≠i:=fun e2=>hP (I.Bv a b (e2 ▸ hj))
  rw [sh e2];obtain ⟨t1,t2,t3,t4,t5,t6,t7,t8,t9⟩:=I.q ch a b j hj;have e:(S j).g≠g:=fun e=>nq _ _ (e ▸ t9)
  rw [gh e];exact ⟨t1,t2,t3,t4,t5,t6,t7,t8,t9⟩
 ·exact I.nd
 ·intro h a b
  by_cases e:h=g
  ·subst e;rw [gg];exact fun c=>absurd c nw
  ·rw [gh e];intro c;rw [sh (fun e2=>hP (e2 ▸ I.HZ a b c))];exact I.cR h a b c
 ·intro h a b
  by_cases e:h=g
  ·subst e;rw [gg];exact fun c=>absurd c kU
  ·rw [gh e];intro c;rw [sh (fun e2=>hP (e2 ▸ I.yo a b c))];have:=I.cl h a b c;have e3:(S (G h).hold).g≠g:=fun e3=>wt (e3 ▸ this.2.2.2.2.2.2.1)
   rw [gh e3];exact this
 ·intro h k a b c d' e f
  by_cases eh:h=g
  ·subst eh;rw [gg] at e;exact absurd e kU
  ·by_cases ek:k=g
   ·subst ek;rw [gg] at f;exact absurd f kU
   ·rw [gh eh] at e ⊢;rw [gh ek] at f ⊢;rw [sh (fun e2=>hP (e2 ▸ I.yo a b e)),sh (fun e2=>hP (e2 ▸ I.yo c d' f))];exact I.mJ h k a b c d' e f
 ·have wo:∀ h,(up G g x h).an=(G h).an:=by
   intro h;by_cases e:h=g
   ·subst e;rw [gg,wk]
   ·rw [gh e]
  intro h a b p hp;rw [wo] at hp;have:=I.wk h a b p hp;rw [gh (fun e=>wt (e ▸ this.2.1))];exact this
 ·have wo:∀ h,(up G g x h).an=(G h).an:=by
   intro h;by_cases e:h=g
   ·subst e;rw [gg,wk]
   ·rw [gh e]
  intro h k p a b c d e f;rw [wo] at e f;exact I.lY h k p a b c d e f
 ·intro j a b
  by_cases e:j=i
  ·subst e;rw [ss,dg,gg];refine ⟨g0,g1,?_,fun _=>(ow j).2 (.inr rfl)⟩;rcases md with md | md
   ·omega
   ·omega
  ·rw [sh e];obtain ⟨t1,t2,t3,t4⟩:=I.su j a b;exact ⟨t1,t2,t3,fun hl=>ta _ t1 t2 _ (t4 hl)⟩
 ·intro j hj b
  by_cases e:j=i
  ·grind
  ·rw [sh e];have lX:=hj.resolve_right e;exact ta _ (I.su j b.1 b.2).1 (I.su j b.1 b.2).2.1 _ (I.lv j lX b)
theorem Inv.cL (I:Inv n nc ns G C S P) {g i:Int} {x:Gr} (g0:0≤g) (g1:g < n) (hi:Own (G g) i) (lx:Loc nc ns n x) (hh:∀ ch,bl x ch↔bl (G g) ch)
  (ow:∀ j,Own x j↔Own (G g) j∧j≠i) (mt:∀ j,Own x j→Match x j (S j)) (nq:∀ j k,¬ dy (G g) j k) (nw:¬ bW x) (kU:¬ cB x) (wk:x.an=(G g).an) (wt:¬ Wt (G g)) :
  Inv n nc ns (up G g x) C (up S i fF) (fun j=>P j∧j≠i):=by
 have gg:=fz G g x;have gh:∀ {h},h≠g→up G g x h=G h:=fun a=>fZ G x a
 have ss:=fz S i fF;have sh:∀ {h},h≠i→up S i fF h=S h:=fun a=>fZ S fF a
 have sig:=(I.own g g0 g1 i hi).2.2.1;have td:∀ ch,1≤ch→ch≤nc→¬ (i∈(C ch).recv∨i∈(C ch).send):=by
  intro ch a b h;have:=(I.q ch a b i h).2.2.2.2.2.2.2.2;rw [sig] at this;exact nq _ _ this
 have H7:∀ h,0≤h→h < n→bW (G h)→(G h).hold≠i:=by
  intro h a b c e;obtain ⟨t1,t2,_,t4,_⟩:=I.cR h a b c;exact td _ t1 t2 (e ▸ t4)
 have yq:∀ h,0≤h→h < n→cB (G h)→(G h).hold≠i:=by
  intro h a b c e;obtain ⟨_,_,_,_,_,_,t7,_⟩:=I.cl h a b c;rw [e,sig] at t7;exact wt t7
 have ta:∀ h,∀ j,j≠i→Own (G h) j→Own (up G g x h) j:=by grind
 constructor
 ·intro h a b
  by_cases e:h=g
  ·grind
  ·rw [gh e];exact I.loc h a b
 ·exact I.iD
 ·intro h a b ch c1 c2
  by_cases e:h=g
  ·subst e;rw [gg,hh];exact I.gV h a b ch c1 c2
  ·rw [gh e];exact I.gV h a b ch c1 c2
 ·exact I.cap
 ·intro h a b j hj;have e2:j≠i:=by
   intro e2;subst e2
   by_cases e:h=g
   ·grind
   ·rw [gh e] at hj;exact e ((I.own h a b j hj).2.2.1.symm.trans sig)
  rw [sh e2]
  by_cases e:h=g
  ·subst e;rw [gg] at hj ⊢;obtain ⟨t1,t2,t3,t4⟩:=I.own h a b j ((ow j).1 hj).1;exact ⟨t1,mt j hj,t3,t4,e2⟩
  ·rw [gh e] at hj ⊢;obtain ⟨t1,t2,t3,t4⟩:=I.own h a b j hj;exact ⟨t1,t2,t3,t4,e2⟩
 ·intro ch a b j hj;have e2:j≠i:=fun e2=>td ch a b (e2 ▸ hj)
  rw [sh e2];obtain ⟨t1,t2,t3,t4,t5,t6,t7,t8,t9⟩:=I.q ch a b j hj;have e:(S j).g≠g:=fun e=>nq _ _ (e ▸ t9)
  rw [gh e];exact ⟨t1,t2,t3,t4,t5,t6,t7,t8,t9⟩
 ·exact I.nd
 ·intro h a b
  by_cases e:h=g
  ·subst e;rw [gg];exact fun c=>absurd c nw
  ·rw [gh e];intro c;rw [sh (H7 h a b c)];exact I.cR h a b c
 ·intro h a b
  by_cases e:h=g
  ·subst e;rw [gg];exact fun c=>absurd c kU
  ·rw [gh e];intro c;rw [sh (yq h a b c)];have:=I.cl h a b c;have e3:(S (G h).hold).g≠g:=fun e3=>wt (e3 ▸ this.2.2.2.2.2.2.1)
   rw [gh e3];exact this
 ·intro h k a b c d' e f
  by_cases eh:h=g
  ·subst eh;rw [gg] at e;exact absurd e kU
  ·by_cases ek:k=g
   ·subst ek;rw [gg] at f;exact absurd f kU
   ·rw [gh eh] at e ⊢;rw [gh ek] at f ⊢;rw [sh (yq h a b e),sh (yq k c d' f)];exact I.mJ h k a b c d' e f
 ·have wo:∀ h,(up G g x h).an=(G h).an:=by
   intro h;by_cases e:h=g
   ·subst e;rw [gg,wk]
   ·rw [gh e]
  intro h a b p hp;rw [wo] at hp;have:=I.wk h a b p hp;rw [gh (fun e=>wt (e ▸ this.2.1))];exact this
 ·have wo:∀ h,(up G g x h).an=(G h).an:=by
   intro h;by_cases e:h=g
   ·subst e;rw [gg,wk]
   ·rw [gh e]
  intro h k p a b c d e f;rw [wo] at e f;exact I.lY h k p a b c d e f
 ·intro j a b
  by_cases e:j=i
  ·subst e;rw [ss];exact ⟨by simp [fF],by simp only [fF];omega,by simp [fF],by simp [fF]⟩
  ·rw [sh e];obtain ⟨t1,t2,t3,t4⟩:=I.su j a b;exact ⟨t1,t2,t3,fun hl=>ta _ _ e (t4 hl)⟩
 ·intro j hj b;rw [sh hj.2];exact ta _ _ hj.2 (I.lv j hj.1 b)
theorem Inv.push (I:Inv n nc ns G C S P) {g i:Int} {x:Gr} {c:Int} {c':Cn} (g0:0≤g) (g1:g < n) (hi:Own (G g) i) (c0:1≤c) (c1:c≤nc) (sc:(S i).ch=c) (lx:Loc nc ns n x) (hh:∀ ch,bl x ch↔bl (G g) ch)
  (ow:∀ j,Own x j↔Own (G g) j) (mt:∀ j,Own x j→Match x j (S j)) (nq:¬ dy (G g) i (S i).cs) (qx:∀ j k,dy (G g) j k→dy x j k) (qi:dy x i (S i).cs) (nw:¬ bW x) (kU:¬ cB x) (wk:x.an=(G g).an) (wt:¬ Wt (G g))
  (e1:c'.lock=(C c).lock) (e2:c'.cap=(C c).cap) (e3:c'.buf=(C c).buf) (er:c'.recv=if (S i).send=true then (C c).recv else (C c).recv ++ [i]) (es:c'.send=if (S i).send=true then (C c).send ++ [i] else (C c).send) :
  Inv n nc ns (up G g x) (up C c c') S P:=by
 have gg:=fz G g x;have gh:∀ {h},h≠g→up G g x h=G h:=fun a=>fZ G x a
 have cc:=fz C c c';have Bw:∀ {h},h≠c→up C c c' h=C h:=fun a=>fZ C c' a
 obtain ⟨ee,gi,sig,MD⟩:=I.own g g0 g1 i hi;have td:¬ (i∈(C c).recv∨i∈(C c).send):=by
  intro h;have:=(I.q c c0 c1 i h).2.2.2.2.2.2.2.2;rw [sig] at this;exact nq this
 have vb:∀ h j,Own (up G g x h) j↔Own (G h) j:=by grind
 have lock:∀ ch,(up C c c' ch).lock=(C ch).lock:=by grind
 have Bx:∀ ch j,j∈(up C c c' ch).recv∨j∈(up C c c' ch).send→(j∈(C ch).recv∨j∈(C ch).send)∨j=i∧ch=c:=by grind
 have By:∀ ch j,j≠i→(j∈(up C c c' ch).recv↔j∈(C ch).recv)∧(j∈(up C c c' ch).send↔j∈(C ch).send):=by grind
 have Bz:∀ ch j,(j∈(C ch).recv→j∈(up C c c' ch).recv)∧(j∈(C ch).send→j∈(up C c c' ch).send):=by grind
 constructor
 ·intro h a b
  by_cases e:h=g
  ·grind
  ·rw [gh e];exact I.loc h a b
 ·intro ch a b;rw [lock];exact I.iD ch a b
 ·intro h a b ch c1 c2;rw [lock]
  by_cases e:h=g
  ·subst e;rw [gg,hh];exact I.gV h a b ch c1 c2
  ·rw [gh e];exact I.gV h a b ch c1 c2
 ·intro ch a b
  by_cases e:ch=c
  ·subst e;rw [cc,e2,e3];exact I.cap ch a b
  ·rw [Bw e];exact I.cap ch a b
 ·intro h a b j hj;rw [vb] at hj;obtain ⟨t1,t2,t3,t4⟩:=I.own h a b j hj;refine ⟨t1,?_,t3,t4⟩
  by_cases e:h=g
  ·grind
  ·rw [gh e];exact t2
 ·intro ch a b j hj
  by_cases ej:j=i
  ·subst ej;have hc:ch=c:=by
    rcases Bx ch j hj with h | h
    ·exact (I.q ch a b j h).2.2.1.symm.trans sc
    ·exact h.2
   subst hc;rw [sig,gg,cc,er,es];refine ⟨hi.1,ee,sc,?_,?_,g0,g1,(ow j).2 hi,qi⟩
   ·grind
   ·grind
  ·rcases Bx ch j hj with h | h
   ·obtain ⟨t1,t2,t3,t4,t5,t6,t7,t8,t9⟩:=I.q ch a b j h;have mr:=By ch j ej;refine ⟨t1,t2,t3,?_,?_,t6,t7,(vb _ _).2 t8,?_⟩
    ·grind
    ·grind
    ·grind
   ·exact absurd h.1 ej
 ·intro ch a b
  by_cases e:ch=c
  ·subst e;rw [cc,er,es];have:=I.nd ch a b;have n1:i∉(C ch).recv:=fun h=>td (.inl h)
   have n2:i∉(C ch).send:=fun h=>td (.inr h)
   split
   ·grind
   ·grind
  ·rw [Bw e];exact I.nd ch a b
 ·intro h a b
  by_cases e:h=g
  ·subst e;rw [gg];exact fun c=>absurd c nw
  ·rw [gh e];intro cw;obtain ⟨t1,t2,t3,t4,t5⟩:=I.cR h a b cw;exact ⟨t1,t2,t3,t4.imp (Bz _ _).1 (Bz _ _).2,t5⟩
 ·intro h a b
  by_cases e:h=g
  ·subst e;rw [gg];exact fun c=>absurd c kU
  ·rw [gh e];intro cw;have:=I.cl h a b cw;have e3:(S (G h).hold).g≠g:=fun e3=>wt (e3 ▸ this.2.2.2.2.2.2.1)
   rw [gh e3];obtain ⟨t1,t2,t3,t4,t5,t6,t7,t8,t9,t10,t11⟩:=this;refine ⟨t1,t2,t3,t4,t5,t6,t7,t8,t9,t10,fun hs=>?_⟩;have ne:(G h).hold≠i:=fun e4=>e3 (by rw [e4];exact sig)
   have mr:=By (S (G h).hold).ch (G h).hold ne;rw [mr.1,mr.2];exact t11 hs
 ·intro h k a b c d' e f
  by_cases eh:h=g
  ·subst eh;rw [gg] at e;exact absurd e kU
  ·by_cases ek:k=g
   ·subst ek;rw [gg] at f;exact absurd f kU
   ·rw [gh eh] at e ⊢;rw [gh ek] at f ⊢;exact I.mJ h k a b c d' e f
 ·have wo:∀ h,(up G g x h).an=(G h).an:=by
   intro h;by_cases e:h=g
   ·subst e;rw [gg,wk]
   ·rw [gh e]
  intro h a b p hp;rw [wo] at hp;have:=I.wk h a b p hp;rw [gh (fun e=>wt (e ▸ this.2.1))];exact this
 ·have wo:∀ h,(up G g x h).an=(G h).an:=by
   intro h;by_cases e:h=g
   ·subst e;rw [gg,wk]
   ·rw [gh e]
  intro h k p a b c d e f;rw [wo] at e f;exact I.lY h k p a b c d e f
 ·intro j a b;obtain ⟨t1,t2,t3,t4⟩:=I.su j a b;exact ⟨t1,t2,t3,fun hl=>(vb _ _).2 (t4 hl)⟩
 ·intro j hj b;exact (vb _ _).2 (I.lv j hj b)
theorem Loc.mono {x:Gr} (h:Loc nc ns n x) (e:nc≤nc + 1):Loc (nc + 1) ns n x:=by
 obtain ⟨a1,a2,a3,a4,a5,a6,a7,a8,a9,jV,kV,kC,kW,kX,kY,kD,mK,mM,lZ,mN,mO,kZ⟩:=h;refine ⟨a1,a2,a3,a4,a5,fun h1 h2 h3 h4 h5=>⟨(a6 h1 h2 h3 h4 h5).1,by have:=(a6 h1 h2 h3 h4 h5).2;omega⟩,a7,a8,a9,jV,kV,kC,kW,kX,kY,kD,mK,mM,lZ,mN,mO,fun h1 h2=>?_⟩;obtain ⟨b1,b2,b3,b4,b5,b6,b7,b8,b9,tf,og,oh,tg,tj,tn,qE,tq,qF,qG,tr⟩:=kZ h1 h2;exact ⟨b1,b2,b3,fun c hc=>⟨(b4 c hc).1,by have:=(b4 c hc).2;omega⟩,b5,b6,b7,b8,b9,tf,og,oh,tg,tj,tn,qE,tq,qF,qG,tr⟩
end
end Sx
namespace Sx
section
variable {n nc ns:Int} {G:Int→Gr} {C:Int→Cn} {S:Int→Su} {P:Int→Prop}
theorem Inv.oe (I:Inv n nc ns G C S P) {G':Int→Gr} {C':Int→Cn} {S':Int→Su} {P':Int→Prop} (hG:∀ g,0≤g→g < n→G' g=G g) (hC:∀ c,1≤c→c≤nc→C' c=C c) (hS:∀ i,0≤i→i < ns→S' i=S i) (hP:∀ i,0≤i→i < ns→(P' i↔P i)):Inv n nc ns G' C' S' P':=by
 have hd:∀ h,0≤h→h < n→bW (G h)∨cB (G h)→S' (G h).hold=S (G h).hold:=by
  intro h a b c;have:=(I.loc h a b).hd (by unfold bW cB at c;omega);exact hS _ this.1 this.2
 constructor
 ·intro h a b;rw [hG h a b];exact I.loc h a b
 ·intro ch a b;rw [hC ch a b];exact I.iD ch a b
 ·intro h a b ch c d;rw [hG h a b,hC ch c d];exact I.gV h a b ch c d
 ·intro ch a b;rw [hC ch a b];exact I.cap ch a b
 ·intro h a b i;rw [hG h a b];intro hi;obtain ⟨t1,t2,t3,t4⟩:=I.own h a b i hi;rw [hS i hi.1 t1];exact ⟨t1,t2,t3,(hP i hi.1 t1).2 t4⟩
 ·intro ch a b i;rw [hC ch a b];intro hi;obtain ⟨t1,t2,t3,t4,t5,t6,t7,t8,t9⟩:=I.q ch a b i hi;rw [hS i t1 t2,hG _ t6 t7];exact ⟨t1,t2,t3,t4,t5,t6,t7,t8,t9⟩
 ·intro ch a b;rw [hC ch a b];exact I.nd ch a b
 ·intro h a b;rw [hG h a b];intro c;obtain ⟨t1,t2,t3,t4,t5⟩:=I.cR h a b c;rw [hd h a b (.inl c),hC _ t1 t2];exact ⟨t1,t2,t3,t4,t5⟩
 ·intro h a b;rw [hG h a b];intro c;obtain ⟨t1,t2,t3,t4,t5,t6⟩:=I.cl h a b c;rw [hd h a b (.inr c),hC _ t1 t2,hG _ t4 t5];exact ⟨t1,t2,t3,t4,t5,t6⟩
 ·intro h k a b c d;rw [hG h a b,hG k c d];intro e f;rw [hd h a b (.inr e),hd k c d (.inr f)];exact I.mJ h k a b c d e f
 ·intro h a b;rw [hG h a b];intro p hp;have:=(I.loc h a b).w3 p hp;rw [hG p this.1 this.2];exact I.wk h a b p hp
 ·intro h k p a b c d;rw [hG h a b,hG k c d];exact I.lY h k p a b c d
 ·intro i a b;obtain ⟨t1,t2,t3,t4⟩:=I.su i a b;rw [hS i a b,hG _ t1 t2];exact ⟨t1,t2,t3,t4⟩
 ·intro i hi b;have:=I.lv i ((hP i b.1 b.2).1 hi) b;rw [hS i b.1 b.2,hG _ (I.su i b.1 b.2).1 (I.su i b.1 b.2).2.1];exact this
theorem Inv.self (I:Inv n nc ns G C S P) {g:Int} {x:Gr} (g0:0≤g) (g1:g < n) (lx:Loc nc ns n x) (hh:∀ ch,bl x ch↔bl (G g) ch) (ow:∀ i,Own x i↔Own (G g) i) (mt:∀ i d,Own x i→Match (G g) i d→Match x i d)
  (qx:∀ i j,dy (G g) i j→dy x i j) (wn:bW x→1≤(S x.hold).ch∧(S x.hold).ch≤nc∧bl x (S x.hold).ch∧(x.hold∈(C (S x.hold).ch).recv∨x.hold∈(C (S x.hold).ch).send)∧0≤(S x.hold).cs)
  (eP:¬ cB x) (wx:∀ q∈x.an,q∈(G g).an) (wg:iS (G g)→iS x) (cg:jA (G g)→jA x∧(SR x→SR (G g))):Inv n nc ns (up G g x) C S P:=by
 have M:Move n nc ns G C S g n x (G n) C:=by
  refine ⟨g0,g1,by omega,lx,fun _ h=>by omega,Part.refl _,I.iD,fun ch a b=>by rw [hh];exact I.gV g g0 g1 ch a b,fun _ _ _ _ _ _ _=>Iff.rfl,I.cap,ow,fun i hi=>mt i _ hi (I.own g g0 g1 i ((ow i).1 hi)).2.1,fun _ _ _=>⟨List.Sublist.refl _,List.Sublist.refl _⟩,fun _ _ _ _=>⟨rfl,rfl⟩,fun _ _ _ _ _ _=>qx _ _,fun _ _ _ _ _ _=>id,wn,fun h=>absurd h eP,fun _ _ _ _ _ _=>cg,fun k a b _ c e=>?_,fun q hq=>.inl (wx q hq),fun h _=>wg h,fun h=>(I.wk g g0 g1 g (wx g h)).1 rfl,fun h=>?_,fun k a b _ hk=>?_⟩
  ·grind
  ·have:=(I.loc g g0 g1).w3 n (wx n h);omega
  ·grind
 refine (I.move M).oe (fun h a b=>?_) (fun _ _ _=>rfl) (fun _ _ _=>rfl) (fun _ _ _=>Iff.rfl)
 by_cases e:h=g
 ·subst e;rw [fz,yl]
 ·rw [fZ _ _ e,ym _ _ _ e (by omega)]
end
def gA (s:ai) (g:Int):Gr:=aa s g.toNat
def V (s:ai):Prop:=Inv s.gs.length s.aK.length s.aL.length (gA s) (cn s) (su s) (fun i=>fG s i=true)
end Sx
namespace Sx
section
variable {n nc ns:Int} {G:Int→Gr} {C:Int→Cn} {S:Int→Su} {P:Int→Prop}
structure gW (n:Int) (C:Int→Cn) (g:Int) (x0 x:Gr) (c:Int) (c':Cn):Prop where
 lock:c'.lock=(C c).lock∧(∀ ch,bl x ch↔bl x0 ch)∨(C c).lock=-1∧c'.lock=g∧(∀ ch,bl x ch↔bl x0 ch∨ch=c)∨bl x0 c∧c'.lock=-1∧(∀ ch,bl x ch↔bl x0 ch∧ch≠c)
 cap:0≤c'.cap∧c'.cap≤4∧(c'.buf.length:Int)≤c'.cap
 sub:c'.recv.Sublist (C c).recv∧c'.send.Sublist (C c).send
 hq:c'.recv=(C c).recv∧c'.send=(C c).send∨bl x0 c
theorem gW.iD (I:Inv n nc ns G C S P) {g:Int} (g0:0≤g) (g1:g < n) {x:Gr} {c:Int} {c':Cn} (h:gW n C g (G g) x c c') (ch:Int) (a:1≤ch) (b:ch≤nc):(up C c c' ch).lock=-1∨0≤(up C c c' ch).lock∧(up C c c' ch).lock < n:=by
 by_cases e:ch=c
 ·subst e;rw [fz];rcases h.lock with l | l | l
  ·rw [l.1];exact I.iD ch a b
  ·rw [l.2.1];omega
  ·exact .inl l.2.1
 ·rw [fZ _ _ e];exact I.iD ch a b
theorem gW.sX (I:Inv n nc ns G C S P) {g:Int} (g0:0≤g) (g1:g < n) {x:Gr} {c:Int} {c':Cn} (h:gW n C g (G g) x c c') (ch:Int) (a:1≤ch) (b:ch≤nc):bl x ch↔(up C c c' ch).lock=g:=by
 have:=I.gV g g0 g1 ch a b
 by_cases e:ch=c
 ·subst e;rw [fz];rcases h.lock with l | l | l
  ·grind
  ·grind
  ·grind
 ·rw [fZ _ _ e,← this];rcases h.lock with l | l | l
  ·rw [l.2]
  ·rw [l.2.2];simp [e]
  ·rw [l.2.2];simp [e]
theorem gW.sY (I:Inv n nc ns G C S P) {g:Int} (g0:0≤g) (g1:g < n) {x:Gr} {c:Int} {c':Cn} (h:gW n C g (G g) x c c') (ch k:Int) (a:1≤ch) (b:ch≤nc) (k0:0≤k) (k1:k < n) (kg:k≠g):(up C c c' ch).lock=k↔(C ch).lock=k:=by
 by_cases e:ch=c
 ·subst e;rw [fz];rcases h.lock with l | l | l
  ·rw [l.1]
  ·omega
  ·have:=(I.gV g g0 g1 ch a b).1 l.1;rw [l.2.1,this];omega
 ·rw [fZ _ _ e]
theorem gW.yt (I:Inv n nc ns G C S P) {g:Int} {x:Gr} {c:Int} {c':Cn} (h:gW n C g (G g) x c c') (ch:Int) (a:1≤ch) (b:ch≤nc):0≤(up C c c' ch).cap∧(up C c c' ch).cap≤4∧((up C c c' ch).buf.length:Int)≤(up C c c' ch).cap:=by
 by_cases e:ch=c
 ·subst e;rw [fz];exact h.cap
 ·rw [fZ _ _ e];exact I.cap ch a b
theorem gW.q1 {g:Int} {x0 x:Gr} {c:Int} {c':Cn} (h:gW n C g x0 x c c') (ch:Int):(up C c c' ch).recv.Sublist (C ch).recv∧(up C c c' ch).send.Sublist (C ch).send:=by
 by_cases e:ch=c
 ·subst e;rw [fz];exact h.sub
 ·rw [fZ _ _ e];exact ⟨List.Sublist.refl _,List.Sublist.refl _⟩
theorem gW.q2 {g:Int} {x0 x:Gr} {c:Int} {c':Cn} (h:gW n C g x0 x c c') (ch:Int) (hn:¬ bl x0 ch):(up C c c' ch).recv=(C ch).recv∧(up C c c' ch).send=(C ch).send:=by
 by_cases e:ch=c
 ·subst e;rw [fz];exact h.hq.resolve_right hn
 ·rw [fZ _ _ e];exact ⟨rfl,rfl⟩
theorem Inv.chan (I:Inv n nc ns G C S P) {g:Int} {x:Gr} {c:Int} {c':Cn} (g0:0≤g) (g1:g < n) (lx:Loc nc ns n x) (hc:gW n C g (G g) x c c') (ow:∀ i,Own x i↔Own (G g) i) (mt:∀ i d,Own x i→Match (G g) i d→Match x i d)
  (qx:∀ i j,dy (G g) i j→(∀ ch,1≤ch→ch≤nc→i∈(up C c c' ch).recv∨i∈(up C c c' ch).send→dy x i j)) (nw:¬ bW x)
  (eP:¬ cB x) (wx:∀ q∈x.an,q∈(G g).an) (wg:iS (G g)→iS x) (cg:jA (G g)→jA x∧(SR x→SR (G g))):Inv n nc ns (up G g x) (up C c c') S P:=by
 have M:Move n nc ns G C S g n x (G n) (up C c c'):=by
  refine ⟨g0,g1,by omega,lx,fun _ h=>by omega,Part.refl _,hc.iD I g0 g1,hc.sX I g0 g1,hc.sY I g0 g1,hc.yt I,ow,fun i hi=>mt i _ hi (I.own g g0 g1 i ((ow i).1 hi)).2.1,fun ch _ _=>hc.q1 ch,fun ch _ _=>hc.q2 ch,fun ch i a b hi _ hq=>qx _ _ hq ch a b hi,fun _ _ _ _ _ _=>id,fun h=>absurd h nw,fun h=>absurd h eP,fun _ _ _ _ _ _=>cg,fun k a b _ c e=>?_,fun q hq=>.inl (wx q hq),fun h _=>wg h,fun h=>(I.wk g g0 g1 g (wx g h)).1 rfl,fun h=>?_,fun k a b _ hk=>?_⟩
  ·grind
  ·have:=(I.loc g g0 g1).w3 n (wx n h);omega
  ·grind
 refine (I.move M).oe (fun h a b=>?_) (fun _ _ _=>rfl) (fun _ _ _=>rfl) (fun _ _ _=>Iff.rfl)
 by_cases e:h=g
 ·subst e;rw [fz,yl]
 ·rw [fZ _ _ e,ym _ _ _ e (by omega)]
theorem Inv.ve (I:Inv n nc ns G C S P) {ch i:Int} (a:1≤ch) (b:ch≤nc) (h:i∈(C ch).recv∨i∈(C ch).send):0≤i∧i < ns∧(S i).ch=ch∧0≤(S i).g∧(S i).g < n∧Own (G (S i).g) i∧dy (G (S i).g) i (S i).cs∧Match (G (S i).g) i (S i):=by
 obtain ⟨t1,t2,t3,t4,t5,t6,t7,t8,t9⟩:=I.q ch a b i h;exact ⟨t1,t2,t3,t6,t7,t8,t9,(I.own _ t6 t7 i t8).2.1⟩
theorem dy.jB {x:Gr} {i j:Int} (h:dy x i j) (hs:SE x) (o1:∀ i∈x.order,bJ x i∈x.aE) (hj:j∈x.order) (hn:¬ bl x (bJ x j)):Wt x∨x.place=31:=by
 rcases h with h | h
 ·grind [Wt,SE,SR]
 ·obtain ⟨_,_,_,_,h⟩:=h;have hl:=o1 j hj;rcases h with h | h | h | h | h | h
  ·exact absurd (.inr ⟨hs,.inl ⟨by omega,hl⟩⟩) hn
  ·exact .inl (.inr ⟨hs,.inl h⟩)
  ·exact .inl (.inr ⟨hs,.inr (.inl h)⟩)
  ·exact .inr h
  ·exact .inl (.inr ⟨hs,.inr (.inr h)⟩)
  ·exact absurd (.inr ⟨hs,.inl ⟨by omega,hl⟩⟩) hn
theorem Inv.BA (I:Inv n nc ns G C S P) {ch i g:Int} (a:1≤ch) (b:ch≤nc) (h:i∈(C ch).recv∨i∈(C ch).send) (g0:0≤g) (g1:g < n) (hh:bl (G g) ch) (ck:(S i).g≠g) :
  Wt (G (S i).g)∨SE (G (S i).g)∧(G (S i).g).place=31∧(G (S i).g).br=true:=by
 obtain ⟨t1,t2,t3,t4,t5,t6,t7,t8⟩:=I.ve a b h;have L:=I.loc _ t4 t5
 by_cases hs:SE (G (S i).g)
 ·rcases t8 with m | m
  ·exact absurd hs (by have:=m.1;unfold SR at this;unfold SE;omega)
  ·obtain ⟨_,m1,m2,m3,m4,m5,m6,_⟩:=m;have sp:cU (G (S i).g).place:=by
    rcases t7 with q | q
    ·exact absurd hs (by have:=q.1;unfold SR at this;unfold SE;omega)
    ·unfold cU;omega
   have L2:=L.se hs sp;have nh:¬ bl (G (S i).g) (bJ (G (S i).g) (S i).cs):=by
    intro hq;rw [← m4,t3,I.gV _ t4 t5 ch a b] at hq;rw [I.gV _ g0 g1 ch a b,hq] at hh;exact ck hh
   rcases t7.jB hs (fun i hi=>(L2.o1 i hi).2.2) m6 nh with w | w
   ·exact .inl w
   ·exact .inr ⟨hs,w,L2.c2 (by omega)⟩
 ·rcases t7 with q | q
  ·exact .inl (.inl ⟨q.1,q.2.1,q.2.2.1⟩)
  ·exact absurd q.1 hs
end
end Sx
namespace Sx
section
variable {n nc ns:Int} {G:Int→Gr} {C:Int→Cn} {S:Int→Su} {P:Int→Prop}
theorem SR.ne {x:Gr} (h:SR x):¬ SE x:=by unfold SR at h;unfold SE;omega
theorem eN.part {x y:Gr} (p:Part x y) (hp:SE x→x.br=true→y.br=true) (hs:SE x) (h:eN nc ns x):eN nc ns y:=by
 obtain ⟨b1,b2,b3,b4,b5,b6,b7,b8,b9,tf,og,oh,tg,tj,tn,qE,tq,qF,qG,tr⟩:=h;have ho:=p.aI;have hc:∀ j,bJ y j=bJ x j:=fun j=>by unfold bJ;rw [ho]
 constructor <;> simp only [p.order,p.aE,p.aq,p.k,p.place,p.code,ho,hc] <;> try assumption
 exact fun h=>hp hs (qG h)
theorem Loc.part {x y:Gr} (p:Part x y) (L:Loc nc ns n x) (h0:y.status=0∨y.status=1∨y.status=2) (h1:y.status=1→y.place=14∨y.place=19) (h2:y.place=19→y.status=1) (h3:y.status=2→x.status=2)
  (h4:y.token=true→Wt y∧0≤y.param∧y.place≠14) (h5:-1≤y.param∧y.param < ns) (h6:y.place=14→y.status=0→0≤y.param) (h7:0≤y.param→Wt y∧Own y y.param) (h8:0≤y.param→SE y→y.br=true) (h9:SE x→x.br=true→y.br=true):Loc nc ns n y:=by
 obtain ⟨a1,a2,a3,a4,a5,a6,a7,a8,a9,jV,kV,kC,kW,kX,kY,kD,mK,mM,lZ,mN,mO,kZ⟩:=L;have ho:=p.aI
 constructor <;> (try simp only [p.ops,p.at_,p.place,p.an,p.hold,p.bt,p.code,ho,p.sr]) <;> try assumption
 ·rw [← p.place];exact h1
 ·rw [← p.place];exact h2
 ·exact fun h=>jV (h3 h)
 ·rw [← p.place];exact h4
 ·rw [← p.place];exact h6
 ·rw [p.se];exact fun h1 h2=>(kZ h1 h2).part p h9 h1
theorem Inv.H8 (I:Inv n nc ns G C S P) {g i:Int} {x y:Gr} {c:Int} {c':Cn} (g0:0≤g) (g1:g < n) (lx:Loc nc ns n x) (hc:gW n C g (G g) x c c') (ow:∀ i,Own x i↔Own (G g) i) (mt:∀ i d,Own x i→Match (G g) i d→Match x i d)
  (nq:∀ i j,¬ dy (G g) i j) (nw:¬ bW x) (wx:∀ q∈x.an,q∈(G g).an) (jC:¬ Wt (G g))
  (hx:cB x) (xi:x.hold=i) (sc:(S i).ch=c) (c0:1≤c) (c1:c≤nc) (xh:bl x c) (hq:i∈(C c).recv∨i∈(C c).send) (py:Part (G (S i).g) y) (e1:y.param=(G (S i).g).param) (e2:y.token=(G (S i).g).token) (e3:y.status=(G (S i).g).status)
  (hp:(S i).cs < 0∧i∉c'.recv∧i∉c'.send∧y.br=(G (S i).g).br∨0≤(S i).cs∧(G (S i).g).br=false∧y.br=true∧bl (G g) c) :
  Inv n nc ns (fP G (S i).g y g x) (up C c c') S P:=by
 obtain ⟨t1,t2,t3,t4,t5,t6,t7,t8⟩:=I.ve c0 c1 hq;have ck:(S i).g≠g:=fun e=>nq _ _ (e ▸ t7)
 have L:=I.loc _ t4 t5;have F:Wt (G (S i).g)∧(G (S i).g).param=-1:=by
  rcases hp with hp | hp
  ·rcases t7 with q | q
   ·exact ⟨.inl ⟨q.1,q.2.1,q.2.2.1⟩,q.2.2.2.2⟩
   ·omega
  ·have ia:SE (G (S i).g):=by
    rcases t8 with m | m
    ·omega
    ·exact m.1
   refine ⟨?_,?_⟩
   ·rcases I.BA c0 c1 hq g0 g1 hp.2.2.2 ck with w | w
    ·exact w
    ·grind
   ·by_cases e:0≤(G (S i).g).param
    ·have:=L.p3 e ia;rw [hp.2.1] at this;cases this
    ·have:=L.p0;omega
 have other:∀ k,0≤k→k < n→cB (G k)→(S (G k).hold).g=(S i).g→False:=by
  intro k a b cl e;obtain ⟨s1,s2,s3,s4,s5,s6,s7,s8,s9,kT,oo⟩:=I.cl k a b cl;rw [e] at s7 s8 s9 kT oo;rcases hp with hp | hp
  ·rcases t8 with m | m
   ·have k1:=oo m.1;have e5:(G k).hold=i:=by
     have m1:=s9.2;have m2:=t6.2;rcases m1 with m1 | m1
     ·rcases m2 with m2 | m2
      ·omega
      ·exact absurd m2.1 m.1.ne
     ·exact absurd m1.1 m.1.ne
    rw [e5,sc] at k1;rcases hq with hq | hq
    ·exact k1.1 hq
    ·exact k1.2 hq
   ·omega
  ·have ia:SE (G (S i).g):=by
    rcases t8 with m | m
    ·omega
    ·exact m.1
   have:=kT ia;rw [hp.2.1] at this;cases this
 have hw:Wt y:=py.wt.2 F.1;have pk:SE (G (S i).g)→(G (S i).g).br=true→y.br=true:=by grind
 have ly:Loc nc ns n y:=by
  refine L.part py (by rw [e3];exact L.oV) (by rw [e3,py.place];exact L.u6) (by rw [e3,py.place];exact L.u7) (by rw [e3];exact id) (by rw [e2,e1,py.place,py.wt];exact L.tk) (by rw [e1];exact L.p0) (by rw [e1,e3,py.place];exact L.p1) (by rw [e1,F.2];intro h;omega) (by rw [e1,F.2];intro h;omega) pk
 refine I.move ⟨g0,g1,ck,lx,fun _ _=>ly,py,hc.iD I g0 g1,hc.sX I g0 g1,hc.sY I g0 g1,hc.yt I,ow,fun i hi=>mt i _ hi (I.own g g0 g1 i ((ow i).1 hi)).2.1,fun ch _ _=>hc.q1 ch,fun ch _ _=>hc.q2 ch,fun ch i a b hi _ hq=>absurd hq (nq _ _),?_,fun h=>absurd h nw,?_,fun _ _ _ _ _ _ h=>absurd h.1 jC,fun k a b _ cl e=>absurd (other k a b cl e) id,fun q hq=>.inl (wx q hq),fun h _=>absurd h.1 jC,fun h=>(I.wk g g0 g1 g (wx g h)).1 rfl,?_,?_⟩
 ·intro ch j _ _ _ _ hq;unfold dy at hq ⊢;rw [py.sr,py.se,py.place,py.bt,e1,py.aq,py.order,py.k,py.code];exact hq
 ·intro _;rw [xi,sc];refine ⟨c0,c1,xh,rfl,t4,t5,⟨hw,by rw [e1];exact F.2,?_⟩,(py.own i).2 t6,?_⟩
  ·intro ia;rcases hp with hp | hp
   ·rcases t8 with m | m
    ·exact absurd (py.se.1 ia) m.1.ne
    ·omega
   ·exact hp.2.2.1
  ·intro oW;rw [fz];rcases hp with hp | hp
   ·grind
   ·rcases t8 with m | m
    ·omega
    ·exact absurd m.1 (py.sr.1 oW).ne
 ·intro h;have:=(I.wk g g0 g1 _ (wx _ h)).2.2.1;rw [F.2] at this;omega
 ·intro k a b _ _ w;have:=w.2.1;rw [F.2] at this;omega
theorem Inv.serve (I:Inv n nc ns G C S P) {g i:Int} {x y:Gr} {c:Int} {c':Cn} (g0:0≤g) (g1:g < n) (lx:Loc nc ns n x) (hc:gW n C g (G g) x c c') (ow:∀ i,Own x i↔Own (G g) i) (mt:∀ i d,Own x i→Match (G g) i d→Match x i d)
  (nq:∀ i j,¬ dy (G g) i j) (nw:¬ bW x) (eP:¬ cB x) (wx:∀ q∈x.an,q∈(G g).an∨q=(S i).g) (jC:¬ Wt (G g))
  (sc:(S i).ch=c) (t4:0≤(S i).g) (t5:(S i).g < n) (ck:(S i).g≠g) (F1:Wt (G (S i).g)) (F2:(G (S i).g).param=-1) (F3:Own (G (S i).g) i) (F4:SE (G (S i).g)→y.br=true) (F5:i∉c'.recv∧i∉c'.send)
  (other:∀ k,0≤k→k < n→k≠g→cB (G k)→(S (G k).hold).g=(S i).g→False)
  (py:Part (G (S i).g) y) (e1:y.param=i) (e2:y.token=(G (S i).g).token) (e3:y.status=(G (S i).g).status) :
  Inv n nc ns (fP G (S i).g y g x) (up C c c') S P:=by
 have L:=I.loc _ t4 t5;have hw:Wt y:=py.wt.2 F1;have i1:=(I.own _ t4 t5 i F3).1;have tok:(G (S i).g).token=false:=by
  cases h:(G (S i).g).token
  ·rfl
  ·have:=(L.tk h).2.1;rw [F2] at this;omega
 have H9:(G (S i).g).place=14→(G (S i).g).status≠0:=fun a b=>by have:=L.p1 a b;rw [F2] at this;omega
 have ly:Loc nc ns n y:=by
  refine L.part py (by rw [e3];exact L.oV) (by rw [e3,py.place];exact L.u6) (by rw [e3,py.place];exact L.u7) (by rw [e3];exact id) (by rw [e2,tok];intro h;cases h) (by rw [e1];have:=F3.1;omega) (by rw [e1];exact fun _ _=>F3.1) (by rw [e1];exact fun _=>⟨hw,(py.own i).2 F3⟩) (fun _ h=>F4 (py.se.1 h)) (fun h _=>F4 h)
 have wy:iS y:=⟨hw,by rw [e1];exact F3.1,by rw [e2];exact tok,by rw [py.place,e3];exact H9⟩
 have none:∀ k,0≤k→k < n→(S i).g∉(G k).an:=fun k a b h=>by
  have:=(I.wk k a b _ h).2.2.1;rw [F2] at this;omega
 refine I.move ⟨g0,g1,ck,lx,fun _ _=>ly,py,hc.iD I g0 g1,hc.sX I g0 g1,hc.sY I g0 g1,hc.yt I,ow,fun i hi=>mt i _ hi (I.own g g0 g1 i ((ow i).1 hi)).2.1,fun ch _ _=>hc.q1 ch,fun ch _ _=>hc.q2 ch,fun ch i a b hi _ hq=>absurd hq (nq _ _),?_,fun h=>absurd h nw,fun h=>absurd h eP,fun _ _ _ _ _ _ h=>absurd h.1 jC,fun k a b kg cl e=>absurd (other k a b kg cl e) id,fun q hq=>(wx q hq).imp id (fun e=>⟨e,fun k a b _=>none k a b⟩),fun h _=>absurd h.1 jC,?_,fun _=>wy,fun k a b _ hk=>absurd hk (none k a b)⟩
 ·intro ch j a b hj _ hq;unfold dy at hq ⊢;rw [py.sr,py.se,py.place,py.bt,py.aq,py.order,py.k,py.code];rcases hq with hq | hq
  ·exfalso
   have ej:j=i:=by
    have:=F3.2;rcases this with m | m
    ·omega
    ·exact absurd m.1 hq.1.ne
   subst ej;have oG:j∈(C ch).recv∨j∈(C ch).send:=hj.imp (fun h=>(hc.q1 ch).1.subset h) (fun h=>(hc.q1 ch).2.subset h);have:=(I.ve a b oG).2.2.1;rw [sc] at this;subst this;rw [fz] at hj;rcases hj with hj | hj
   ·exact F5.1 hj
   ·exact F5.2 hj
  ·exact .inr hq
 ·intro h;rcases wx g h with h | h
  ·exact (I.wk g g0 g1 g h).1 rfl
  ·exact ck h.symm
theorem Inv.readies (I:Inv n nc ns G C S P) {g p:Int} {x y:Gr} {l:List Int} (g0:0≤g) (g1:g < n) (lx:Loc nc ns n x) (hh:∀ ch,bl x ch↔bl (G g) ch) (ow:∀ i,Own x i↔Own (G g) i) (mt:∀ i d,Own x i→Match (G g) i d→Match x i d)
  (nq:∀ i j,¬ dy (G g) i j) (nw:¬ bW x) (eP:¬ cB x) (hw:(G g).an=p :: l) (wx:x.an=l) (jC:¬ Wt (G g)) (py:Part (G p) y) (e1:y.param=(G p).param) (e2:y.br=(G p).br)
  (e3:(G p).status=1∧y.status=0∧y.token=(G p).token∨(G p).status=0∧y.status=0∧y.token=true) :
  Inv n nc ns (fP G p y g x) C S P:=by
 have hp:p∈(G g).an:=by rw [hw];simp
 obtain ⟨k1,k2,k3,k4,k5⟩:=I.wk g g0 g1 p hp;obtain ⟨p0,p1⟩:=(I.loc g g0 g1).w3 p hp;have L:=I.loc p p0 p1;have nd:p∉l:=by have:=(I.loc g g0 g1).w4;rw [hw] at this;exact (List.nodup_cons.1 this).1
 have Ia:(G p).status=1→(G p).place=14:=fun h=>by
  rcases L.u6 h with h | h
  ·exact h
  ·rcases k2 with k | k <;> omega
 have ly:Loc nc ns n y:=by
  refine L.part py ?_ ?_ ?_ ?_ ?_ ?_ ?_ ?_ ?_ ?_
  ·omega
  ·omega
  ·rw [py.place];intro h;have:=L.u7 h;have:=Ia this;omega
  ·omega
  ·rw [py.wt,e1,py.place];intro h;rcases e3 with e | e
   ·grind
   ·grind
  ·rw [e1];exact L.p0
  ·omega
  ·rw [e1,py.wt,py.own];exact L.p2
  ·rw [e1,e2,py.se];exact L.p3
  ·grind
 refine I.move ⟨g0,g1,k1,lx,fun _ _=>ly,py,I.iD,fun ch a b=>by rw [hh];exact I.gV g g0 g1 ch a b,fun _ _ _ _ _ _ _=>Iff.rfl,I.cap,ow,fun i hi=>mt i _ hi (I.own g g0 g1 i ((ow i).1 hi)).2.1,fun _ _ _=>⟨List.Sublist.refl _,List.Sublist.refl _⟩,fun _ _ _ _=>⟨rfl,rfl⟩,fun ch i a b hi _ hq=>absurd hq (nq _ _),?_,fun h=>absurd h nw,fun h=>absurd h eP,fun _ _ _ _ _ _ h=>absurd h.1 jC,?_,fun q hq=>.inl (by rw [hw];rw [wx] at hq;exact List.mem_cons_of_mem _ hq),fun h _=>absurd h.1 jC,?_,?_,?_⟩
 ·intro ch j _ _ _ _ hq;unfold dy at hq ⊢;rw [py.sr,py.se,py.place,py.bt,e1,py.aq,py.order,py.k,py.code];exact hq
 ·intro k a b _ cl e w;have:=w.2.1;omega
 ·intro h;rw [wx] at h;exact (I.wk g g0 g1 g (by rw [hw];exact List.mem_cons_of_mem _ h)).1 rfl
 ·grind
 ·intro k a b e hk _;exact absurd (I.lY k g p a b g0 g1 hk hp) e
end
end Sx
namespace Sx
theorem yu (s:ai) (l:List Gr) (hl:s.gs=l) (g h:Nat) (x:Gr) (hg:g < l.length) (s':ai) (e:s'.gs=l.set g x):aa s' h=if h=g then x else aa s h:=by
 unfold aa;rw [e,hl];simp only [List.getD_eq_getElem?_getD,List.getElem?_set]
 by_cases c:g=h
 ·subst c;simp [hg]
 ·grind
theorem mS {s s':ai} {g:Nat} {x:Gr} (hg:g < s.gs.length) (e:s'.gs=s.gs.set g x) (h:Int) (h0:0≤h):gA s' h=up (gA s) g x h:=by
 unfold gA up;rw [yu s s.gs rfl g h.toNat x hg s' e]
 by_cases c:h=g
 ·subst c;simp
 ·grind
theorem yw {s s':ai} {g p:Nat} {x y:Gr} (hg:g < s.gs.length) (hp:p < s.gs.length) (e:s'.gs=(s.gs.set p y).set g x) (h:Int) (h0:0≤h):gA s' h=fP (gA s) p y g x h:=by
 have e1:=mS (s:={ s with gs:=s.gs.set p y }) (s':=s') (g:=g) (x:=x) (by simpa using hg) e h h0;have e2:=mS (s:=s) (s':={ s with gs:=s.gs.set p y }) (g:=p) (x:=y) hp rfl h h0;rw [e1];unfold fP;unfold up at e2 ⊢
 by_cases c:h=g
 ·grind
 ·grind
theorem jW {s s':ai} {c:Int} {x:Cn} (hc:1≤c) (bX:c≤s.aK.length) (e:s'.aK=s.aK.set (c - 1).toNat x) (ch:Int) (h1:1≤ch):cn s' ch=up (cn s) c x ch:=by
 unfold cn up;rw [e];simp only [List.getD_eq_getElem?_getD,List.getElem?_set]
 by_cases q:ch=c
 ·grind
 ·have:¬ (c - 1).toNat=(ch - 1).toNat:=by omega
  rw [if_neg q,if_neg this]
theorem vf {s s':ai} {i:Int} {x:Su} (hi:0≤i) (gi:i < s.aL.length) (e:s'.aL=s.aL.set i.toNat x) (j:Int) (h1:0≤j):su s' j=up (su s) i x j:=by
 unfold su up;rw [e];simp only [List.getD_eq_getElem?_getD,List.getElem?_set]
 by_cases q:j=i
 ·grind
 ·grind
def kE (s:ai):Int:=((List.range s.gs.length).map (fun g=>(aa s g).at_)).sum
structure MInv (s:ai):Prop where
 v:V s
 n1:1≤s.gs.length
 n8:s.gs.length≤8
 c8:s.aK.length≤8
 sn:(s.aL.length:Int)=s.eV
 mT:s.aL.length≤64
 c1:1≤s.cG
 oq:s.cG≤16
 ca:s.cache.length=s.gs.length
 f0:0≤s.fresh
 po:∃ H,Po.Inv s.eV.toNat s.cG.toNat ⟨s.cache,s.middle,s.fresh.toNat,H⟩
 ot:0≤s.drawn
 oX:s.drawn≤s.cY.length
 du:∀ x∈s.cY,0≤x∧x < 65536
 d5:s.cY.length≤1000
 dn:(s.done.length:Int)=kE s
structure Rest (s s':ai):Prop where
 gl:s'.gs.length=s.gs.length
 cl:s'.aK.length=s.aK.length
 sl:s'.aL.length=s.aL.length
 sN:s'.eV=s.eV
 cN:s'.cG=s.cG
 ca:s'.cache=s.cache
 md:s'.middle=s.middle
 fr:s'.fresh=s.fresh
 dw:s'.cY=s.cY
 dn:s'.drawn=s.drawn
 vi:s'.done=s.done
 at_:∀ g,g < s.gs.length→(aa s' g).at_=(aa s g).at_
theorem BB {s s':ai} (gl:s'.gs.length=s.gs.length) (at_:∀ g,g < s.gs.length→(aa s' g).at_=(aa s g).at_):kE s'=kE s:=by
 unfold kE;rw [gl]
 congr 1
 exact List.map_congr_left fun g hg=>at_ g (by simpa using hg)
theorem Rest.live {s s':ai} (r:Rest s s') (i:Int):fG s' i=fG s i:=by unfold fG uH;rw [r.ca,r.md,r.fr]
theorem MInv.rest {s s':ai} (h:MInv s) (r:Rest s s') (v:V s'):MInv s':=by
 obtain ⟨a1,a2,a3,a4,a5,a6,a7,a8,a9,jV,kV,kC,kW,kX,kY,kD⟩:=h;refine ⟨v,?_,?_,?_,?_,?_,?_,?_,?_,?_,?_,?_,?_,?_,?_,?_⟩
 ·rw [r.gl];exact a2
 ·rw [r.gl];exact a3
 ·rw [r.cl];exact a4
 ·rw [r.sl,r.sN];exact a5
 ·rw [r.sl];exact a6
 ·rw [r.cN];exact a7
 ·rw [r.cN];exact a8
 ·rw [r.ca,r.gl];exact a9
 ·rw [r.fr];exact jV
 ·rw [r.sN,r.cN,r.ca,r.md,r.fr];exact kV
 ·rw [r.dn];exact kC
 ·rw [r.dn,r.dw];exact kW
 ·rw [r.dw];exact kX
 ·rw [r.dw];exact kY
 ·rw [r.vi,BB r.gl r.at_];exact kD
theorem V.of {s s':ai} (r:Rest s s') {G':Int→Gr} {C':Int→Cn} {S':Int→Su} (I:Inv s.gs.length s.aK.length s.aL.length G' C' S' (fun i=>fG s i=true))
  (hG:∀ g,0≤g→gA s' g=G' g) (hC:∀ c,1≤c→cn s' c=C' c) (hS:∀ i,0≤i→su s' i=S' i):V s':=by
 unfold V;rw [r.gl,r.cl,r.sl];exact I.oe (fun g a _=>hG g a) (fun c a _=>hC c a) (fun i a _=>hS i a) (fun i _ _=>by rw [r.live])
structure Sf (nc ns n:Int) (x x':Gr):Prop where
 lx:Loc nc ns n x'
 hh:∀ ch,bl x' ch↔bl x ch
 ow:∀ i,Own x' i↔Own x i
 mt:∀ i d,Own x' i→Match x i d→Match x' i d
 qx:∀ i j,dy x i j→dy x' i j
 eP:¬ cB x'
 wx:∀ q∈x'.an,q∈x.an
 wg:iS x→iS x'
 cg:jA x→jA x'∧(SR x'→SR x)
theorem dR (s:ai) (g:Nat):gA s g=aa s g:=by unfold gA;simp
theorem gf (s:ai) (g h:Nat) (x:Gr) (hg:g < s.gs.length):aa (ah s g x) h=if h=g then x else aa s h:=yu s s.gs rfl g h x hg _ rfl
theorem Rest.ff (s:ai) {g:Nat} {x:Gr} (hg:g < s.gs.length) (ha:x.at_=(aa s g).at_):Rest s (ah s g x):=by
 refine ⟨by simp [Sx.ah],rfl,rfl,rfl,rfl,rfl,rfl,rfl,rfl,rfl,rfl,fun h _=>?_⟩;rw [gf s g h x hg]
 split
 ·grind
 ·rfl
theorem MInv.self {s:ai} (h:MInv s) {g:Nat} (hg:g < s.gs.length) {x:Gr} (f:Sf s.aK.length s.aL.length s.gs.length (aa s g) x) (ha:x.at_=(aa s g).at_)
  (wn:bW x→1≤(su s x.hold).ch∧(su s x.hold).ch≤s.aK.length∧bl x (su s x.hold).ch∧(x.hold∈(cn s (su s x.hold).ch).recv∨x.hold∈(cn s (su s x.hold).ch).send)∧0≤(su s x.hold).cs):MInv (ah s g x):=by
 have r:=Rest.ff s hg ha;have e:=dR s g;refine h.rest r (V.of r (Inv.self h.v (g:=g) (x:=x) (by omega) (by omega) f.lx ?_ ?_ ?_ ?_ wn f.eP ?_ ?_ ?_) (fun k k0=>mS hg rfl k k0) (fun _ _=>rfl) (fun _ _=>rfl))
 all_goals rw [e]
 ·exact f.hh
 ·exact f.ow
 ·exact f.mt
 ·exact f.qx
 ·exact f.wx
 ·exact f.wg
 ·exact f.cg
end Sx
namespace Sx
def hP (p:Int):Prop:=5≤p∧p≤12∨p=16∨21≤p∧p≤23
structure eY (x x':Gr):Prop where
 ops:x'.ops=x.ops
 at_:x'.at_=x.at_
 status:x'.status=x.status
 token:x'.token=x.token
 param:x'.param=x.param
 an:x'.an=x.an
 ns:¬ SE x
 st:x.status=0
 p0:x.place≠0
 o1:¬ (11≤x.place∧x.place≤15)
 o2:¬ (11≤x'.place∧x'.place≤15)
 ok:bp (aI x).kind x'.place
 q1:x'.place≠0∧x'.place≠27∧(x'.place=17→x.an≠[])∧x'.place≠19
 q2:x'.place=18∨x.place≠18∧x.place≠19
 q3:x.an=[]∨x'.place=16∨x'.place=17∨x'.place=22∨x'.place=23
variable {nc ns n:Int} {x x':Gr}
theorem eY.aI (h:eY x x'):aI x'=aI x:=by unfold Sx.aI;rw [h.ops,h.at_]
theorem eY.loc (h:eY x x') (L:Loc nc ns n x) (hd:x'.place=7∨x'.place=8∨x'.place=23→0≤x'.hold∧x'.hold < ns):Loc nc ns n x':=by
 obtain ⟨a1,a2,a3,a4,a5,a6,a7,a8,a9,jV,kV,kC,kW,kX,kY,kD,mK,mM,lZ,mN,mO,kZ⟩:=L;have ho:=h.aI;obtain ⟨h1,h2,h3,h4,h5,h6,h7,h8,h9,jX,jD,jh,iE,mU,Ib⟩:=h;have hk:¬ (Sx.aI x).kind=9:=h7;have hn:¬ Wt x:=by
  rintro (w | w)
  ·omega
  ·exact h7 w.1
 have ME:x.param=-1:=by grind
 have ou:x.token=false:=by grind
 have Ic:x'.place≠26:=by
  intro e;clear a7 a8 a9 jV kC kD lZ Ib mU;unfold bp at jh;rw [e] at jh;omega
 have iF:=(a5.resolve_left h9).1
 constructor <;> (try simp only [h1,h2,h3,h4,h5,h6,ho]) <;> try assumption
 ·exact .inr ⟨iF,jh⟩
 ·intro _ e1 e2 e3 e4;rcases mU with mU | mU
  ·exact absurd mU e1
  ·exact a6 h9 mU.1 mU.2 e3 e4
 ·rw [h8];simp
 ·omega
 ·rw [h8];simp
 ·rw [ou];simp
 ·grind
 ·exact iE.2.2.1
 ·intro e;rcases e with e | e | e | e | e
  ·exact hd (.inl e)
  ·omega
  ·exact hd (.inr (.inr e))
  ·exact absurd e Ic
  ·omega
 ·omega
 ·omega
 ·omega
 ·omega
 ·intro e;unfold SE at e;rw [ho] at e;exact absurd e hk
theorem eY.own (h:eY x x') (i:Int):¬ Own x i∧¬ Own x' i:=by
 have ho:=h.aI;have hk:¬ (Sx.aI x).kind=9:=h.ns
 constructor
 ·rintro ⟨_,w | w⟩
  ·exact h.o1 ⟨w.2.1,w.2.2.1⟩
  ·exact h.ns w.1
 ·rintro ⟨_,w | w⟩
  ·exact h.o2 ⟨w.2.1,w.2.2.1⟩
  ·grind [Wt,SE,SR]
theorem eY.nq (h:eY x x') (i j:Int):¬ dy x i j:=by
 rintro (w | w)
 ·exact h.o1 (by omega)
 ·exact h.ns w.1
theorem eY.nw (h:eY x x'):¬ Wt x:=by
 rintro (w | w)
 ·exact h.o1 (by omega)
 ·exact h.ns w.1
theorem eY.eP (h:eY x x') (e:x'.place≠8):¬ cB x':=by
 rintro (w | w)
 ·exact e w
 ·exact h.q1.2.1 w
theorem eY.hh (h:eY x x') (e:hP x.place↔hP x'.place) (ch:Int):bl x' ch↔bl x ch:=by
 have ho:=h.aI;have hk:¬ (Sx.aI x).kind=9:=h.ns;unfold bl SE;rw [ho];unfold hP at e
 constructor
 ·omega
 ·omega
theorem eY.sf (h:eY x x') (L:Loc nc ns n x) (hd:x'.place=7∨x'.place=8∨x'.place=23→0≤x'.hold∧x'.hold < ns) (e:hP x.place↔hP x'.place) (n8:x'.place≠8):Sf nc ns n x x':=by
 refine ⟨h.loc L hd,h.hh e,fun i=>⟨fun w=>absurd w (h.own i).2,fun w=>absurd w (h.own i).1⟩,fun i d w=>absurd w (h.own i).2,fun i j w=>absurd w (h.nq i j),h.eP n8,fun q=>by rw [h.an];exact id,fun w=>absurd w.1 h.nw,fun w=>absurd w.1 h.nw⟩
end Sx
namespace Sx
variable {s:ai} {g:Nat}
theorem MInv.loc (h:MInv s) (hg:g < s.gs.length):Loc s.aK.length s.aL.length s.gs.length (aa s g):=by
 have:=Inv.loc h.v (g:Int) (by omega) (by omega);rw [dR] at this;exact this
theorem MInv.BC (h:MInv s) (hg:g < s.gs.length) {x:Gr} (f:eY (aa s g) x) (e:hP (aa s g).place↔hP x.place) (nw:¬ bW x) (n8:x.place≠8):MInv (ah s g x) :=
 h.self hg (f.sf (h.loc hg) (fun q=>absurd (show bW x by unfold bW;omega) nw) e n8) f.at_ (fun w=>absurd w nw)
theorem vj (s:ai) (c:Int) (c':Cn) (h:Nat):aa (aH s c c') h=aa s h:=rfl
theorem Ie (s:ai) (c:Int) (c':Su) (h:Nat):aa (bh s c c') h=aa s h:=rfl
theorem Rest.trans {s t u:ai} (a:Rest s t) (b:Rest t u):Rest s u:=by
 refine ⟨b.gl.trans a.gl,b.cl.trans a.cl,b.sl.trans a.sl,b.sN.trans a.sN,b.cN.trans a.cN,b.ca.trans a.ca,b.md.trans a.md,b.fr.trans a.fr,b.dw.trans a.dw,b.dn.trans a.dn,b.vi.trans a.vi,fun g hg=>?_⟩;rw [b.at_ g (by rw [a.gl];exact hg),a.at_ g hg]
theorem Rest.dI (s:ai) (c:Int) (c':Cn):Rest s (aH s c c'):=⟨rfl,by simp [Sx.aH],rfl,rfl,rfl,rfl,rfl,rfl,rfl,rfl,rfl,fun _ _=>rfl⟩
theorem MInv.chan (h:MInv s) (hg:g < s.gs.length) {x:Gr} {c:Int} {c':Cn} (c0:1≤c) (c1:c≤s.aK.length) (lx:Loc s.aK.length s.aL.length s.gs.length x) (hc:gW s.gs.length (cn s) g (aa s g) x c c') (ow:∀ i,Own x i↔Own (aa s g) i) (mt:∀ i d,Own x i→Match (aa s g) i d→Match x i d)
  (qx:∀ i j,dy (aa s g) i j→(∀ ch:Int,1≤ch→ch≤s.aK.length→i∈(up (cn s) c c' ch).recv∨i∈(up (cn s) c c' ch).send→dy x i j)) (nw:¬ bW x)
  (eP:¬ cB x) (wx:∀ q∈x.an,q∈(aa s g).an) (wg:iS (aa s g)→iS x) (cg:jA (aa s g)→jA x∧(SR x→SR (aa s g))) (ha:x.at_=(aa s g).at_):MInv (ah (aH s c c') g x):=by
 have r:Rest s (Sx.ah (Sx.aH s c c') g x):=(Rest.dI s c c').trans (Rest.ff _ hg ha);have e:=dR s g;refine h.rest r (V.of r (Inv.chan h.v (g:=g) (x:=x) (c:=c) (c':=c') (by omega) (by omega) lx ?_ ?_ ?_ ?_ nw eP ?_ ?_ ?_) (fun k k0=>mS hg rfl k k0) (fun ch q=>jW c0 c1 rfl ch q) (fun _ _=>rfl))
 all_goals rw [e]
 ·exact hc
 ·exact ow
 ·exact mt
 ·exact qx
 ·exact wx
 ·exact wg
 ·exact cg
theorem MInv.qH (h:MInv s) (hg:g < s.gs.length) {x:Gr} (f:eY (aa s g) x) {c:Int} {c':Cn} (c0:1≤c) (c1:c≤s.aK.length) (hc:gW s.gs.length (cn s) g (aa s g) x c c') (nw:¬ bW x) (n8:x.place≠8):MInv (ah (aH s c c') g x):=by
 refine h.chan hg c0 c1 (f.loc (h.loc hg) (fun q=>absurd (show bW x by unfold bW;omega) nw)) hc (fun i=>⟨fun w=>absurd w (f.own i).2,fun w=>absurd w (f.own i).1⟩) (fun i d w=>absurd w (f.own i).2) (fun i j w=>absurd w (f.nq i j)) nw (f.eP n8) (fun q=>by rw [f.an];exact id) (fun w=>absurd w.1 f.nw) (fun w=>absurd w.1 f.nw) f.at_
theorem MInv.mV (h:MInv s) (hg:g < s.gs.length) (e:(aa s g).place≠0∧(aa s g).place≠18∧(aa s g).place≠19) (k:2≤(ag s g).kind∧(ag s g).kind≤6):1≤(ag s g).ch∧(ag s g).ch≤s.aK.length:=(h.loc hg).uZ e.1 e.2.1 e.2.2 k.1 k.2
theorem MInv.fA (h:MInv s) {c:Int} (c0:1≤c) (c1:c≤s.aK.length):0≤(cn s c).cap∧(cn s c).cap≤4∧((cn s c).buf.length:Int)≤(cn s c).cap:=Inv.cap h.v c c0 c1
theorem l5 {c:Int}:Sx.aR s c=true↔1≤c∧c≤s.aK.length:=by unfold Sx.aR;simp
theorem MInv.s4 (h:MInv s) (hg:g < s.gs.length) (st:(aa s g).status=0) (k:2≤(ag s g).kind∧(ag s g).kind≤6) (e:(aa s g).place=4) (p:Int) (hp:(ag s g).kind=6∧p=21∨(ag s g).kind≠6∧p=5) (hl:(cn s (ag s g).ch).lock=-1):MInv (aT (aH s (ag s g).ch { cn s (ag s g).ch with lock:=g }) g p):=by
 obtain ⟨c0,c1⟩:=h.mV hg (by omega) k;have hk:(aI (aa s g)).kind=(ag s g).kind:=rfl;have L:=h.loc hg;refine h.qH hg (x:={ aa s g with place:=p }) ⟨rfl,rfl,rfl,rfl,rfl,rfl,?_,st,?_,?_,?_,?_,?_,?_,?_⟩ c0 c1 ⟨.inr (.inl ⟨hl,rfl,fun ch=>?_⟩),h.fA c0 c1,⟨List.Sublist.refl _,List.Sublist.refl _⟩,.inl ⟨rfl,rfl⟩⟩ ?_ ?_
 ·unfold SE;omega
 ·omega
 ·omega
 ·simp only;omega
 ·unfold bp;simp only;omega
 ·grind
 ·simp only;omega
 ·by_cases w:(aa s g).an=[]
  ·exact .inl w
  ·have:=L.w1 w;omega
 ·have ho:aI { aa s g with place:=p }=aI (aa s g):=rfl;unfold bl SE;rw [ho,hk];simp only [e]
  constructor
  ·rintro (w | w)
   ·exact .inr w.2.2.1
   ·omega
  ·rintro (w | w)
   ·omega
   ·exact .inl ⟨k.1,k.2,w,by omega⟩
 ·unfold bW;simp only;omega
 ·simp only;omega
end Sx
namespace Sx
variable {s:ai} {g:Nat} {nc ns n:Int}
theorem Ig {x y:Gr} (L:Loc nc ns n x) (k:SR x) (e:x.place=12) (st:x.status=0) (hy:y={ x with place:=13 }):Loc nc ns n y:=by
 have ho:aI y=aI x:=by subst hy;rfl
 have h1:y.ops=x.ops∧y.at_=x.at_∧y.place=13∧y.status=x.status∧y.token=x.token∧y.param=x.param∧y.bt=x.bt∧y.an=x.an∧y.aq=x.aq:=by subst hy;simp
 clear hy;obtain ⟨a1,a2,a3,a4,a5,a6,a7,a8,a9,jV,kV,kC,kW,kX,kY,kD,mK,mM,lZ,mN,mO,kZ⟩:=L
 constructor <;> simp only [Wt,SR,SE,e,st,Own,bp,cU,ho,h1] at * <;> grind
theorem Own.sr {x y:Gr} {i:Int} (k:SR x) (ho:aI y=aI x) (hm:y.bt=x.bt) (p:11≤y.place∧y.place≤15) (h:Own x i):Own y i:=by
 rcases h with ⟨h0,h | h⟩
 ·exact ⟨h0,.inl ⟨by unfold SR;rw [ho];exact k,p.1,p.2,hm.trans h.2.2.2⟩⟩
 ·exact absurd h.1 k.ne
theorem Own.vk {x y:Gr} {i:Int} (k:SR x) (ho:aI y=aI x) (hm:y.bt=x.bt) (p:11≤y.place∧y.place≤15) (q:11≤x.place∧x.place≤15):Own y i↔Own x i :=
 ⟨Own.sr (by unfold SR;rw [ho];exact k) ho.symm hm.symm q,Own.sr k ho hm p⟩
theorem MInv.Ih (h:MInv s) (hg:g < s.gs.length) (st:(aa s g).status=0) (e:(aa s g).place=12) (k:2≤(ag s g).kind∧(ag s g).kind≤6):MInv (aT (free s (ag s g).ch) g 13):=by
 have L:=h.loc hg;have ks:SR (aa s g):=by
  have:=(L.pl.resolve_left (by omega)).2;have hk:(aI (aa s g)).kind=(ag s g).kind:=rfl;unfold bp at this;unfold SR;rw [e] at this;omega
 obtain ⟨c0,c1⟩:=h.mV hg (by omega) k;have ho:aI { aa s g with place:=13 }=aI (aa s g):=rfl;have hk:(aI (aa s g)).kind=(ag s g).kind:=rfl;have hh:bl (aa s g) (ag s g).ch:=.inl ⟨k.1,k.2,rfl,by omega⟩;have gG:=ks.ne;have pl:({ aa s g with place:=13 }:Gr).place=13:=rfl;refine h.chan hg c0 c1 (x:={ aa s g with place:=13 }) (Ig L ks e st rfl) ⟨.inr (.inr ⟨hh,rfl,fun ch=>?_⟩),h.fA c0 c1,⟨List.Sublist.refl _,List.Sublist.refl _⟩,.inl ⟨rfl,rfl⟩⟩ ?_ ?_ ?_ ?_ ?_ (fun q=>id) ?_ ?_ rfl
 ·unfold bl;have n1:¬ SE { aa s g with place:=13 }:=gG;simp only [ho,e,gG,n1,false_and,or_false]
  constructor
  ·intro w;omega
  ·intro w;exact absurd w.1.2.2.1 w.2
 ·intro i;exact Own.vk ks rfl rfl (by rw [pl];decide) (by rw [e];decide)
 ·intro i d _ m;rcases m with m | m
  ·exact .inl m
  ·exact absurd m.1 gG
 ·intro i j q _ _ _ _;rcases q with q | q
  ·exact .inl ⟨q.1,by rw [pl];decide,by rw [pl];decide,q.2.2.2⟩
  ·exact absurd q.1 gG
 ·unfold bW;simp
 ·unfold cB;simp
 ·rintro ⟨w1,w2,w3,w4⟩
  exact ⟨.inl ⟨ks,by rw [pl];decide,by rw [pl];decide⟩,w2,w3,by simp⟩
 ·rintro ⟨w1,w2,w3⟩
  exact ⟨⟨.inl ⟨ks,by rw [pl];decide,by rw [pl];decide⟩,w2,fun h=>absurd h gG⟩,fun _=>ks⟩
theorem eN.qI {x:Gr} (e:x.place=13) (b:eN nc ns x) {y:Gr} (h1:aI y=aI x) (h2:y.order=x.order) (h3:y.aE=x.aE) (h4:y.k=x.k) (h5:y.aq=x.aq) (h6:y.res.code=x.res.code) (h7:y.place=14):eN nc ns y:=by
 have hc:∀ j,bJ y j=bJ x j:=fun j=>by unfold bJ;rw [h1]
 obtain ⟨b1,b2,b3,b4,b5,b6,b7,b8,b9,tf,og,oh,tg,tj,tn,qE,tq,qF,qG,tr⟩:=b
 constructor <;> (try simp only [h1,h2,h3,h4,h5,h6,h7,hc]) <;> (try assumption) <;> (try simp)
 ·exact oh (by omega)
 ·exact qE (by omega)
 ·exact qF (by omega)
theorem Sf.qI {x y:Gr} (L:Loc nc ns n x) (e:x.place=13) (st:x.status=0) (h1:y.ops=x.ops) (h2:y.at_=x.at_) (h3:y.bt=x.bt) (h4:y.hold=x.hold) (h5:y.res.code=x.res.code) (h6:y.order=x.order) (h7:y.aE=x.aE) (h8:y.aq=x.aq) (h9:y.an=x.an) (jX:y.k=x.k) (jD:y.param=x.param) (jh:y.br=x.br) (iE:y.place=14)
  (hs:x.token=true∧y.token=false∧y.status=0∨x.token=false∧y.token=false∧y.status=1):Sf nc ns n x y:=by
 have ho:aI y=aI x:=by unfold aI;rw [h1,h2]
 have w0:Wt x:=by
  have:=(L.pl.resolve_left (by omega)).2;unfold bp at this;unfold Wt SR SE;rw [e] at this ⊢;omega
 have oW:SR y↔SR x:=by unfold SR;rw [ho]
 have ia:SE y↔SE x:=by unfold SE;rw [ho]
 have w1:Wt y:=by grind [Wt,SE,SR]
 have ow:∀ i,Own y i↔Own x i:=by
  intro i;unfold Own;rw [oW,ia,iE,e,h3,h8];simp
 refine ⟨?_,?_,ow,?_,?_,?_,fun q=>by rw [h9];exact id,?_,?_⟩
 ·obtain ⟨a1,a2,a3,a4,a5,a6,a7,a8,a9,jV,kV,kC,kW,kX,kY,kD,mK,mM,lZ,mN,mO,kZ⟩:=L
  constructor <;> (try simp only [h1,h2,h3,h4,h9,jD,jh,ho,oW,ia]) <;> (try assumption)
  ·rw [iE];rw [e] at a5;refine .inr ⟨(a5.resolve_left (by decide)).1,?_⟩;have:=(a5.resolve_left (by decide)).2;unfold bp at this ⊢;omega
  ·omega
  ·omega
  ·omega
  ·omega
  ·intro h;omega
  ·grind
  ·grind
  ·omega
  ·intro h;omega
  ·grind
  ·grind
  ·grind
  ·intro h1 _;exact (kZ h1 (by unfold cU;omega)).qI e ho h6 h7 jX h8 h5 iE
 ·intro ch;unfold bl;rw [ia,iE,e,ho,h7,jX];simp
 ·intro i d _ m;unfold Match at m ⊢;have hc:∀ j,bJ y j=bJ x j:=fun j=>by unfold bJ;rw [ho]
  rw [oW,ia,ho,h8,h6,hc];exact m
 ·intro i j q;unfold dy at q ⊢;rw [oW,ia,iE,h3,jD,h8,h6,jX,h5];rcases q with q | q
  ·grind
  ·grind
 ·unfold cB;rw [iE];decide
 ·rintro ⟨v1,v2,v3,v4⟩
  refine ⟨w1,by rw [jD];exact v2,?_,?_⟩
  ·grind
  ·grind
 ·rintro ⟨v1,v2,v3⟩
  exact ⟨⟨w1,by rw [jD];exact v2,fun h=>by rw [jh];exact v3 (ia.1 h)⟩,oW.1⟩
theorem MInv.qI (h:MInv s) (hg:g < s.gs.length) (st:(aa s g).status=0) (e:(aa s g).place=13):MInv (fH (aT s g 14) g):=by
 have L:=h.loc hg;have hs:fH (aT s g 14) g=ah s g (if (aa s g).token=true then { aa s g with place:=14,token:=false } else { aa s g with place:=14,status:=1 }):=by
  unfold fH aT;simp only [gf s g g _ hg,if_true,st,true_and];unfold ah;simp only [List.set_set]
 rw [hs]
 cases ht:(aa s g).token
 ·rw [if_neg (by simp)];exact h.self hg (Sf.qI L e st rfl rfl rfl rfl rfl rfl rfl rfl rfl rfl rfl rfl rfl (.inr ⟨ht,ht,rfl⟩)) rfl (fun w=>by unfold bW at w;simp at w)
 ·rw [if_pos rfl];exact h.self hg (Sf.qI L e st rfl rfl rfl rfl rfl rfl rfl rfl rfl rfl rfl rfl rfl (.inl ⟨ht,rfl,st⟩)) rfl (fun w=>by unfold bW at w;simp at w)
end Sx
namespace Sx
variable {s:ai} {g:Nat} {nc ns n:Int}
theorem Ii {C:List (List Int)} {M:List Int} {f:Nat} {H:List Bool} {x:Int}:x∈M ++ C.flatten↔1≤Po.fh ⟨C,M,f,H⟩ x:=by
 unfold Po.fh;simp only;rw [List.mem_append,← List.count_pos_iff (a:=x) (l:=M),← List.count_pos_iff (a:=x) (l:=C.flatten)];omega
theorem mW {s:ai} {H:List Bool} {f:Nat} (hf:s.fresh=f) {x:Int}:fG s x=true↔0≤x∧x < s.fresh∧Po.fh ⟨s.cache,s.middle,f,H⟩ x=0:=by
 unfold fG uH;simp only [Bool.and_eq_true,decide_eq_true_eq,Bool.not_eq_true',List.contains_eq_mem,decide_eq_false_iff_not];rw [Ii (f:=f) (H:=H)];omega
theorem BD (h:MInv s) (hg:g < s.gs.length):s.cache[g]?=some (s.cache.getD g []):=by
 have:g < s.cache.length:=by rw [h.ca];exact hg
 rw [List.getD_eq_getElem?_getD,List.getElem?_eq_getElem this];rfl
structure BE (s t:ai) (g:Nat) (i:Int):Prop where
 i0:0≤i
 i1:i < s.aL.length
 nl:fG s i=false
 live:∀ j,fG t j=true↔fG s j=true∨j=i
 gs:t.gs=s.gs
 aK:t.aK=s.aK
 aL:t.aL=s.aL
 sN:t.eV=s.eV
 cN:t.cG=s.cG
 cY:t.cY=s.cY
 drawn:t.drawn=s.drawn
 done:t.done=s.done
 step:t.step=s.step
 cl:t.cache.length=s.cache.length
 f0:0≤t.fresh
 po:∃ H,Po.Inv t.eV.toNat t.cG.toNat ⟨t.cache,t.middle,t.fresh.toNat,H⟩
theorem vl (h:MInv s) (hg:g < s.gs.length) (ok:(bw s g).2.2=true):BE s (bw s g).1 g (bw s g).2.1:=by
 obtain ⟨H,I⟩:=h.po;have hf:s.fresh=(s.fresh.toNat:Int):=by have:=h.f0;omega
 have MF:=h.sn;have hc:=BD h hg;have m1:=I.m1;unfold bw at ok ⊢
 split at ok
 ·rename_i e
  split at ok
  ·rename_i e2;rw [if_pos e,if_pos e2];have e0:=Po.Ac m1 e;have nc:Po.fh ⟨s.cache,s.middle,s.fresh.toNat,H⟩ s.fresh=0:=by
    by_cases q:1≤Po.fh ⟨s.cache,s.middle,s.fresh.toNat,H⟩ s.fresh
    ·have:=(I.bound _ q).2;simp only at this;omega
    ·omega
   refine ⟨h.f0,by simp only;omega,?_,?_,rfl,rfl,rfl,rfl,rfl,rfl,rfl,rfl,rfl,rfl,by simp only;have:=h.f0;omega,?_⟩
   ·cases q:fG s s.fresh
    ·rfl
    ·have:=(mW (H:=H) hf).1 q;omega
   ·intro j;rw [mW (H:=H) hf,mW (s:={ s with fresh:=s.fresh + 1 }) (H:=H) (f:=s.fresh.toNat + 1) (by simp only;omega)];simp only;have e3:Po.fh ⟨s.cache,s.middle,s.fresh.toNat + 1,H⟩ j=Po.fh ⟨s.cache,s.middle,s.fresh.toNat,H⟩ j:=rfl;rw [e3]
    constructor
    ·omega
    ·grind
   ·refine ⟨H,?_⟩;simp only;have:(s.fresh + 1).toNat=s.fresh.toNat + 1:=by have:=h.f0;omega
    rw [this];exact I.fresh (by simp only;omega)
  ·cases ok
 ·rename_i e;rw [if_neg e];obtain ⟨b0,b1⟩:0≤(Po.own s.cG.toNat (s.cache.getD g []) s.middle).getLastD 0∧Po.fh ⟨s.cache,s.middle,s.fresh.toNat,H⟩ ((Po.own s.cG.toNat (s.cache.getD g []) s.middle).getLastD 0)=1:=by
   have lf:=Po.xm (size:=0) (s:=⟨s.cache,s.middle,s.fresh.toNat,H⟩) (most:=s.cG.toNat) hc e ((Po.own s.cG.toNat (s.cache.getD g []) s.middle).getLastD 0);have hi:Po.ind ((Po.own s.cG.toNat (s.cache.getD g []) s.middle).getLastD 0) ((Po.own s.cG.toNat (s.cache.getD g []) s.middle).getLastD 0)=1:=by simp [Po.ind]
   simp only at lf;rw [hi] at lf;have h1:1≤Po.fh ⟨s.cache,s.middle,s.fresh.toNat,H⟩ ((Po.own s.cG.toNat (s.cache.getD g []) s.middle).getLastD 0):=by omega
   exact ⟨(I.bound _ h1).1,by have:=I.one ((Po.own s.cG.toNat (s.cache.getD g []) s.middle).getLastD 0);omega⟩
  have lf:=fun a=>Po.xm (size:=0) (s:=⟨s.cache,s.middle,s.fresh.toNat,H⟩) (most:=s.cG.toNat) hc e a
  have vn:=I.p9 hc e;have BF:=(I.bound _ (Nat.le_of_eq b1.symm)).2;simp only at lf BF vn;unfold Po.p9 at lf vn;simp only at lf vn;generalize (Po.own s.cG.toNat (s.cache.getD g []) s.middle).getLastD 0=i at *;generalize Po.own s.cG.toNat (s.cache.getD g []) s.middle=ow at *;refine ⟨b0,?_,?_,?_,rfl,rfl,rfl,rfl,rfl,rfl,rfl,rfl,rfl,by simp,h.f0,?_⟩
  ·have:=I.fl;simp only at this BF ⊢;omega
  ·cases q:fG s i
   ·rfl
   ·have:=((mW (H:=H) hf).1 q).2.2;omega
  ·intro j;have hj:=lf j;rw [mW (H:=H) hf,mW (s:={ s with cache:=s.cache.set g ow.dropLast,middle:=Po.aG s.cG.toNat (s.cache.getD g []) s.middle }) (H:=H.set i.toNat false) (f:=s.fresh.toNat) hf];simp only;unfold Po.ind at hj
   by_cases q:i=j
   ·grind
   ·grind
  ·exact ⟨_,vn⟩
structure Ij (s t:ai) (g:Nat) (i:Int):Prop where
 live:∀ j,fG t j=true↔fG s j=true∧j≠i
 gs:t.gs=s.gs
 aK:t.aK=s.aK
 aL:t.aL=s.aL
 sN:t.eV=s.eV
 cN:t.cG=s.cG
 cY:t.cY=s.cY
 drawn:t.drawn=s.drawn
 done:t.done=s.done
 step:t.step=s.step
 cl:t.cache.length=s.cache.length
 f0:0≤t.fresh
 po:∃ H,Po.Inv t.eV.toNat t.cG.toNat ⟨t.cache,t.middle,t.fresh.toNat,H⟩
theorem Ik (h:MInv s) (hg:g < s.gs.length) {i:Int} (hl:fG s i=true):Ij s (iZ s g i) g i:=by
 obtain ⟨H,I⟩:=h.po;have hf:s.fresh=(s.fresh.toNat:Int):=by have:=h.f0;omega
 have hc:=BD h hg;have Bo:=(mW (H:=H) hf).1 hl;have hL:Po.live s.fresh.toNat H i=true:=by
  have:=I.live i;simp only at this;rw [this];simp;omega
 have yx:=I.oO hc hL;have lf:=fun a=>Po.Ae (most:=s.cG.toNat) (s:=⟨s.cache,s.middle,s.fresh.toNat,H⟩) hc i a
 unfold iZ;rw [if_pos hl];unfold Po.oO at yx lf;simp only at yx lf;refine ⟨?_,rfl,rfl,rfl,rfl,rfl,rfl,rfl,rfl,rfl,by simp,h.f0,_,yx⟩;intro j;have hj:=lf j;rw [mW (H:=H) hf,mW (s:={ s with cache:=s.cache.set g ((s.cache.getD g []).take ((s.cache.getD g []).length - Po.dZ s.cG.toNat (s.cache.getD g [])) ++ [i]),middle:=s.middle ++ (s.cache.getD g []).reverse.take (Po.dZ s.cG.toNat (s.cache.getD g [])) }) (H:=H.set i.toNat true) (f:=s.fresh.toNat) hf];simp only;unfold Po.ind at hj
 by_cases q:i=j
 ·grind
 ·grind
end Sx
namespace Sx
variable {s t:ai} {g:Nat} {nc ns n:Int}
theorem at_sum {s t:ai} {g:Nat} {x:Gr} (hg:g < s.gs.length) (e:t.gs=s.gs.set g x) (ha:x.at_=(aa s g).at_):kE t=kE s:=by
 refine BB (by rw [e,List.length_set]) fun h _=>?_
 rw [yu s s.gs rfl g h x hg t e]
 split
 ·grind
 ·rfl
theorem BG {s t:ai} (e:t.aK=s.aK) (c:Int):cn t c=cn s c:=by unfold cn;rw [e]
theorem MInv.take (h:MInv s) (hg:g < s.gs.length) {i:Int} (T:BE s t g i) {x:Gr} {d:Su} (lx:Loc s.aK.length s.aL.length s.gs.length x) (hh:∀ ch,bl x ch↔bl (aa s g) ch)
  (ow:∀ j,Own x j↔Own (aa s g) j∨j=i) (mt:∀ j,Own (aa s g) j→Match x j (su s j)) (md:Match x i d) (dg:d.g=g) (nq:∀ j k,¬ dy (aa s g) j k) (nw:¬ bW x) (eP:¬ cB x) (wk:x.an=(aa s g).an) (wt:¬ Wt (aa s g)) (ha:x.at_=(aa s g).at_) :
  MInv (ah (bh t i d) g x):=by
 have e:=dR s g;have jE:(ah (bh t i d) g x).gs=s.gs.set g x:=by simp only [ah,bh];rw [T.gs]
 have lp:(ah (bh t i d) g x).aL=s.aL.set i.toNat d:=by simp only [ah,bh];rw [T.aL]
 have oY:(ah (bh t i d) g x).aK=s.aK:=T.aK;have hv:=Inv.take h.v (g:=g) (i:=i) (x:=x) (d:=d) (by omega) (by omega) T.i0 T.i1 (by simp [T.nl]) lx (by rw [e];exact hh) (by rw [e];exact ow) (by rw [e];exact mt) md dg (by rw [e];exact nq) nw eP (by rw [e];exact wk) (by rw [e];exact wt);obtain ⟨H,hH⟩:=T.po;refine ⟨?_,?_,?_,?_,?_,?_,?_,?_,?_,T.f0,⟨H,hH⟩,?_,?_,?_,?_,?_⟩
 ·unfold V;rw [jE,lp,oY,List.length_set,List.length_set];refine hv.oe (fun k k0 _=>mS hg jE k k0) (fun ch _ _=>BG oY ch) (fun j j0 _=>vf T.i0 T.i1 lp j j0) (fun j _ _=>?_);exact T.live j
 ·grind
 ·rw [jE,List.length_set];exact h.n8
 ·rw [oY];exact h.c8
 ·rw [lp,List.length_set];exact h.sn.trans T.sN.symm
 ·rw [lp,List.length_set];exact h.mT
 ·show 1≤t.cG;rw [T.cN];exact h.c1
 ·show t.cG≤16;rw [T.cN];exact h.oq
 ·rw [jE,List.length_set];exact T.cl.trans h.ca
 ·show 0≤t.drawn;rw [T.drawn];exact h.ot
 ·show t.drawn≤t.cY.length;rw [T.drawn,T.cY];exact h.oX
 ·show ∀ x∈t.cY,_;rw [T.cY];exact h.du
 ·show t.cY.length≤1000;rw [T.cY];exact h.d5
 ·rw [at_sum hg jE ha];show (t.done.length:Int)=_;rw [T.done];exact h.dn
theorem MInv.BH (h:MInv s) (hg:g < s.gs.length) {i:Int} (hi:Own (aa s g) i) {x:Gr} (lx:Loc s.aK.length s.aL.length s.gs.length x) (hh:∀ ch,bl x ch↔bl (aa s g) ch)
  (ow:∀ j,Own x j↔Own (aa s g) j∧j≠i) (mt:∀ j d,Own x j→Match (aa s g) j d→Match x j d) (nq:∀ j k,¬ dy (aa s g) j k) (nw:¬ bW x) (eP:¬ cB x) (wk:x.an=(aa s g).an) (wt:¬ Wt (aa s g)) (ha:x.at_=(aa s g).at_) :
  MInv (ah (cL s g i) g x):=by
 have e:=dR s g;have oZ:=Inv.own h.v (g:Int) (by omega) (by omega) i (by rw [e];exact hi);have T:=Ik h hg oZ.2.2.2;have i0:=hi.1;have i1:=oZ.1;unfold cL;generalize iZ s g i=t at *;have jE:(ah (bh t i fF) g x).gs=s.gs.set g x:=by simp only [ah,bh];rw [T.gs]
 have lp:(ah (bh t i fF) g x).aL=s.aL.set i.toNat fF:=by simp only [ah,bh];rw [T.aL]
 have oY:(ah (bh t i fF) g x).aK=s.aK:=T.aK;have hv:=Inv.cL h.v (g:=g) (i:=i) (x:=x) (by omega) (by omega) (by rw [e];exact hi) lx (by rw [e];exact hh) (by rw [e];exact ow) (fun j hj=>mt j _ hj (by
  have:=(Inv.own h.v (g:Int) (by omega) (by omega) j (by rw [e];exact ((ow j).1 hj).1)).2.1;rw [e] at this;exact this)) (by rw [e];exact nq) nw eP (by rw [e];exact wk) (by rw [e];exact wt)
 obtain ⟨H,hH⟩:=T.po;refine ⟨?_,?_,?_,?_,?_,?_,?_,?_,?_,T.f0,⟨H,hH⟩,?_,?_,?_,?_,?_⟩
 ·unfold V;rw [jE,lp,oY,List.length_set,List.length_set];refine hv.oe (fun k k0 _=>mS hg jE k k0) (fun ch _ _=>BG oY ch) (fun j j0 _=>vf i0 i1 lp j j0) (fun j _ _=>?_);exact T.live j
 ·grind
 ·rw [jE,List.length_set];exact h.n8
 ·rw [oY];exact h.c8
 ·rw [lp,List.length_set];exact h.sn.trans T.sN.symm
 ·rw [lp,List.length_set];exact h.mT
 ·show 1≤t.cG;rw [T.cN];exact h.c1
 ·show t.cG≤16;rw [T.cN];exact h.oq
 ·rw [jE,List.length_set];exact T.cl.trans h.ca
 ·show 0≤t.drawn;rw [T.drawn];exact h.ot
 ·show t.drawn≤t.cY.length;rw [T.drawn,T.cY];exact h.oX
 ·show ∀ x∈t.cY,_;rw [T.cY];exact h.du
 ·show t.cY.length≤1000;rw [T.cY];exact h.d5
 ·rw [at_sum hg jE ha];show (t.done.length:Int)=_;rw [T.done];exact h.dn
theorem Il {x y:Gr} (L:Loc nc ns n x) (k:SR x) (e:x.place=15) (st:x.status=0) (hy:y={ x with place:=18,bt:=-1 }):Loc nc ns n y:=by
 have ho:aI y=aI x:=by subst hy;rfl
 have h1:y.ops=x.ops∧y.at_=x.at_∧y.place=18∧y.status=x.status∧y.token=x.token∧y.param=x.param∧y.bt=-1∧y.an=x.an∧y.aq=x.aq:=by subst hy;simp
 clear hy;obtain ⟨a1,a2,a3,a4,a5,a6,a7,a8,a9,jV,kV,kC,kW,kX,kY,kD,mK,mM,lZ,mN,mO,kZ⟩:=L
 constructor <;> simp only [Wt,SR,SE,e,st,Own,bp,cU,ho,h1] at * <;> grind
theorem kF (s:ai) (g:Nat) (x:Gr) (p:Int) (hg:g < s.gs.length):aT (ah s g x) g p=ah s g { x with place:=p }:=by
 unfold aT;rw [gf s g g x hg,if_pos rfl];unfold ah;simp only [List.set_set]
theorem MInv.Im (h:MInv s) (hg:g < s.gs.length) (st:(aa s g).status=0) (e:(aa s g).place=15) (k:2≤(ag s g).kind∧(ag s g).kind≤6):MInv (aT (ah (cL s g (aa s g).bt) g { aa s g with bt:=-1 }) g 18):=by
 have L:=h.loc hg;have ks:SR (aa s g):=by
  have:=(L.pl.resolve_left (by omega)).2;have hk:(aI (aa s g)).kind=(ag s g).kind:=rfl;unfold bp at this;unfold SR;rw [e] at this;omega
 have gG:=ks.ne;have hm:=L.mi ks (by omega) (by omega);have oZ:Own (aa s g) (aa s g).bt:=⟨hm.1,.inl ⟨ks,by omega,by omega,rfl⟩⟩
 have dM:g < (cL s g (aa s g).bt).gs.length:=by
  unfold cL bh;simp only;unfold iZ;split <;> exact hg
 rw [kF _ _ _ _ dM];have ho:aI { aa s g with place:=18,bt:=-1 }=aI (aa s g):=rfl;refine h.BH hg oZ (x:={ aa s g with place:=18,bt:=-1 }) (Il L ks e st rfl) ?_ ?_ ?_ ?_ ?_ ?_ rfl ?_ rfl
 ·intro ch;unfold bl;have n1:¬ SE { aa s g with place:=18,bt:=-1 }:=gG;simp only [ho,e,gG,n1,false_and,or_false];omega
 ·intro j;have n1:¬ SE { aa s g with place:=18,bt:=-1 }:=gG
  constructor
  ·rintro ⟨_,w | w⟩
   ·grind
   ·exact absurd w.1 n1
  ·rintro ⟨⟨_,w | w⟩,w2⟩
   ·omega
   ·exact absurd w.1 gG
 ·intro j d w;rcases w with ⟨_,w | w⟩
  ·grind
  ·exact absurd w.1 gG
 ·rintro i j (q | q)
  ·omega
  ·exact absurd q.1 gG
 ·unfold bW;simp
 ·unfold cB;simp
 ·rintro (w | w)
  ·omega
  ·exact absurd w.1 gG
end Sx
namespace Sx
variable {s t:ai} {g:Nat} {nc ns n:Int}
theorem MInv.Io (h:MInv s) (hg:g < s.gs.length) (st:(aa s g).status=0) (e:(aa s g).place=16) (k:2≤(ag s g).kind∧(ag s g).kind≤6):MInv (an (free s (ag s g).ch) g):=by
 obtain ⟨c0,c1⟩:=h.mV hg (by omega) k;have hk:(aI (aa s g)).kind=(ag s g).kind:=rfl;have hh:bl (aa s g) (ag s g).ch:=.inl ⟨k.1,k.2,rfl,by omega⟩;have key:∀ p:Int,(p=17∧(aa s g).an≠[]∨p=18∧(aa s g).an=[])→MInv (aT (free s (ag s g).ch) g p):=by
  intro p hp;refine h.qH hg (x:={ aa s g with place:=p }) ⟨rfl,rfl,rfl,rfl,rfl,rfl,?_,st,?_,?_,?_,?_,?_,?_,?_⟩ c0 c1 ⟨.inr (.inr ⟨hh,rfl,fun ch=>?_⟩),h.fA c0 c1,⟨List.Sublist.refl _,List.Sublist.refl _⟩,.inl ⟨rfl,rfl⟩⟩ ?_ ?_
  ·unfold SE;omega
  ·omega
  ·omega
  ·simp only;omega
  ·unfold bp;simp only;omega
  ·grind
  ·simp only;omega
  ·grind
  ·have ho:aI { aa s g with place:=p }=aI (aa s g):=rfl;unfold bl SE;rw [ho,hk];simp only [e]
   constructor
   ·intro w;omega
   ·rintro ⟨w | w,w2⟩
    ·exact absurd w.2.2.1 w2
    ·omega
  ·unfold bW;simp only;omega
  ·simp only;omega
 unfold an
 split
 ·rename_i q;refine key 17 (.inl ⟨rfl,fun w=>?_⟩);have:(aa (free s (ag s g).ch) g).an=(aa s g).an:=rfl;rw [this,w] at q;simp at q
 ·rename_i q;refine key 18 (.inr ⟨rfl,?_⟩);have:(aa (free s (ag s g).ch) g).an=(aa s g).an:=rfl;rw [this] at q;exact List.length_eq_zero_iff.1 (by omega)
theorem Rest.two (s:ai) {g p:Nat} {x y:Gr} (hg:g < s.gs.length) (hp:p < s.gs.length) (hx:x.at_=(aa s g).at_) (hy:y.at_=(aa s p).at_) (ck:p≠g):Rest s (Sx.ah (Sx.ah s p y) g x):=by
 refine (Rest.ff s hp hy).trans (Rest.ff _ (by simpa [Sx.ah] using hg) ?_);rw [gf s p g y hp,av];exact hx
theorem Ip {x y:Gr} {p:Int} {l:List Int} (L:Loc nc ns n x) (e:x.place=17) (st:x.status=0) (hw:x.an=p :: l) (h1:y.ops=x.ops) (h2:y.at_=x.at_) (h3:y.status=x.status) (h4:y.token=x.token) (h5:y.param=x.param) (h6:y.an=l) (hp:y.place=17∧l≠[]∨y.place=18∧l=[])
  (nP:x.param=-1) (nT:x.token=false):Loc nc ns n y:=by
 have ho:aI y=aI x:=by unfold aI;rw [h1,h2]
 have BI:=L.w4;have yy:=L.w3;rw [hw] at BI yy;have nh:=List.nodup_cons.1 BI;have hy:y.place=17∨y.place=18:=by omega
 have mz:=(L.pl.resolve_left (by omega))
 have oV:=L.oV;have mk:=L.uZ;have p0:=L.p0
 constructor
 ·rw [h1];exact L.kS
 ·rw [h1];exact L.fy
 ·rw [h2];exact L.a0
 ·grind
 ·rw [h1,h2,ho];refine .inr ⟨mz.1,?_⟩;rcases hp with c | c
  ·grind
  ·rw [c.1];exact .inl rfl
 ·grind
 ·rw [h3];exact oV
 ·rw [h3];omega
 ·omega
 ·rw [h3];omega
 ·rw [h4,nT];simp
 ·grind
 ·grind
 ·grind
 ·rw [h6];exact nh.2
 ·omega
 ·intro _ c1 c2;omega
 ·rw [h5];exact p0
 ·omega
 ·rw [h5];omega
 ·rw [h5];omega
 ·intro _ c;unfold cU at c;omega
theorem MInv.Iq (h:MInv s) (hg:g < s.gs.length) (st:(aa s g).status=0) (e:(aa s g).place=17) :
  MInv (an (ah (ready s ((aa s g).an.headD 0).toNat) g { aa s g with an:=(aa s g).an.tail }) g):=by
 have L:=h.loc hg;have eA:=dR s g;obtain ⟨p,l,hw⟩:∃ p l,(aa s g).an=p :: l:=by
  cases w:(aa s g).an with
  | nil=>exact absurd w (L.w2 e)
  | cons p l=>exact ⟨p,l,rfl⟩
 have hp:=L.w3 p (by rw [hw];simp);obtain ⟨k1,k2,k3,k4,k5⟩:=Inv.wk h.v (g:Int) (by omega) (by omega) p (by rw [eA,hw];simp);obtain ⟨q,rfl⟩:∃ q:Nat,p=q:=⟨p.toNat,by omega⟩
 have hq:q < s.gs.length:=by omega
 have sZ:q≠g:=by omega
 rw [dR] at k2 k3 k4 k5;have Lq:=h.loc hq;have kL:(aa s q).status=0∨(aa s q).status=1:=by
  rcases Lq.oV with w | w | w
  ·exact .inl w
  ·exact .inr w
  ·have:=(Lq.Bu w).1;rcases k2 with k2 | k2 <;> omega
 obtain ⟨y,hy⟩:∃ y,(if (aa s q).status=1 then { aa s q with status:=0 } else if (aa s q).status=0 then { aa s q with token:=true } else aa s q)=y:=⟨_,rfl⟩
 have er:ready s q=ah s q y:=by unfold ready;rw [hy]
 have Ir:((aa s g).an.headD 0).toNat=q:=by rw [hw];simp
 have It:(aa s g).an.tail=l:=by rw [hw];rfl
 rw [Ir,It,er];obtain ⟨pl,mz,hs⟩:∃ pl:Int,(pl=17∧l≠[]∨pl=18∧l=[])∧an (ah (ah s q y) g { aa s g with an:=l }) g=ah (ah s q y) g { aa s g with an:=l,place:=pl }:=by
  have dM:g < (ah s q y).gs.length:=by simpa [ah] using hg
  by_cases c:l=[]
  ·refine ⟨18,.inr ⟨rfl,c⟩,?_⟩;unfold an;rw [gf _ g g _ dM,if_pos rfl,if_neg (by simp [c]),kF _ _ _ _ dM]
  ·refine ⟨17,.inl ⟨rfl,c⟩,?_⟩;unfold an;rw [gf _ g g _ dM,if_pos rfl,if_pos (List.length_pos_iff.2 c),kF _ _ _ _ dM]
 rw [hs];have py:Part (aa s q) y∧y.param=(aa s q).param∧y.br=(aa s q).br∧((aa s q).status=1∧y.status=0∧y.token=(aa s q).token∨(aa s q).status=0∧y.status=0∧y.token=true):=by
  rw [← hy];rcases kL with w | w
  ·rw [av,if_pos w];exact ⟨⟨rfl,rfl,rfl,rfl,rfl,rfl,rfl,rfl,rfl,rfl,rfl⟩,rfl,rfl,.inr ⟨w,w,rfl⟩⟩
  ·rw [if_pos w];exact ⟨⟨rfl,rfl,rfl,rfl,rfl,rfl,rfl,rfl,rfl,rfl,rfl⟩,rfl,rfl,.inl ⟨w,rfl,rfl⟩⟩
 obtain ⟨x,hx⟩:∃ x,({ aa s g with an:=l,place:=pl }:Gr)=x:=⟨_,rfl⟩
 have x1:x.ops=(aa s g).ops∧x.at_=(aa s g).at_∧x.place=pl∧x.status=(aa s g).status∧x.token=(aa s g).token∧x.param=(aa s g).param∧x.bt=(aa s g).bt∧x.aq=(aa s g).aq:=by subst hx;simp
 have x2:x.an=l:=by subst hx;rfl
 have ho:aI x=aI (aa s g):=by subst hx;rfl
 rw [hx];have BJ:x.place=17∨x.place=18:=by omega
 have BK:∀ (z:Gr) i,z.place=17∨z.place=18→¬ Own z i:=by
  rintro z i c ⟨_,w | w⟩
  ·omega
  ·have:=w.2.1;omega
 have nS:∀ i,¬ Own (aa s g) i∧¬ Own x i:=fun i=>⟨BK _ i (.inl e),BK _ i BJ⟩
 have Iu:¬ Wt (aa s g):=by rintro (w | w) <;> omega
 have mX:∀ i j,¬ dy (aa s g) i j:=by rintro i j (w | w) <;> omega
 have me:∀ ch,bl x ch↔bl (aa s g) ch:=by
  have BL:∀ (z:Gr) ch,z.place=17∨z.place=18→¬ bl z ch:=by
   rintro z ch c (w | w)
   ·omega
   ·have:=w.2;omega
  exact fun ch=>⟨fun w=>absurd w (BL _ _ BJ),fun w=>absurd w (BL _ _ (.inl e))⟩
 have nP:(aa s g).param=-1:=by
  have:=L.p0
  by_cases c:0≤(aa s g).param
  ·exact absurd (L.p2 c).2 (nS _).1
  ·omega
 have nT:(aa s g).token=false:=by
  cases c:(aa s g).token
  ·rfl
  ·have:=(L.tk c).2.1;omega
 have lx:Loc s.aK.length s.aL.length s.gs.length x:=Ip L e st hw x1.1 x1.2.1 x1.2.2.2.1 x1.2.2.2.2.1 x1.2.2.2.2.2.1 x2 (by rw [x1.2.2.1];exact mz) nP nT;refine h.rest (by subst hx;exact Rest.two s hg hq rfl py.1.at_ sZ) (V.of (by subst hx;exact Rest.two s hg hq rfl py.1.at_ sZ) (Inv.readies h.v (g:=g) (p:=(q:Int)) (x:=x) (y:=y) (l:=l) (by omega) (by omega) lx ?_ ?_ ?_ ?_ ?_ ?_ ?_ x2 ?_ ?_ ?_ ?_ ?_) (fun k k0=>yw hg hq rfl k k0) (fun _ _=>rfl) (fun _ _=>rfl))
 all_goals (try rw [eA]);(try rw [dR])
 ·exact me
 ·grind
 ·grind
 ·exact mX
 ·unfold bW;omega
 ·unfold cB;omega
 ·exact hw
 ·exact Iu
 ·exact py.1
 ·exact py.2.1
 ·exact py.2.2.1
 ·exact py.2.2.2
theorem MInv.common (h:MInv s) (hg:g < s.gs.length) (st:(aa s g).status=0) (k:2≤(ag s g).kind∧(ag s g).kind≤6∨(aa s g).place=13∨(aa s g).place=17):MInv (common s g).1:=by
 unfold Sx.common;simp only
 by_cases e4:(aa s g).place=4
 ·rw [if_pos e4];have k:=k.resolve_right (by omega);unfold tryLock
  by_cases hl:(cn s (ag s g).ch).lock=-1
  ·simp only [if_pos hl]
   by_cases k6:(ag s g).kind=6
   ·simp only [if_pos k6,if_true];exact h.s4 hg st k e4 21 (.inl ⟨k6,rfl⟩) hl
   ·simp only [if_neg k6,if_true];exact h.s4 hg st k e4 5 (.inr ⟨k6,rfl⟩) hl
  ·grind
 rw [if_neg e4]
 by_cases qA:(aa s g).place=12
 ·rw [if_pos qA];exact h.Ih hg st qA (k.resolve_right (by omega))
 rw [if_neg qA]
 by_cases oQ:(aa s g).place=13
 ·rw [if_pos oQ];exact h.qI hg st oQ
 rw [if_neg oQ]
 by_cases qB:(aa s g).place=15
 ·rw [if_pos qB];exact h.Im hg st qB (k.resolve_right (by omega))
 rw [if_neg qB]
 by_cases qC:(aa s g).place=16
 ·rw [if_pos qC];exact h.Io hg st qC (k.resolve_right (by omega))
 rw [if_neg qC]
 by_cases n9:(aa s g).place=17
 ·rw [if_pos n9];exact h.Iq hg st n9
 rw [if_neg n9];exact h
end Sx
namespace Sx
variable {s t:ai} {g:Nat} {nc ns n:Int}
theorem BM {s:ai} {c:Int} (c0:1≤c) (c1:c≤s.aK.length):aH s c (cn s c)=s:=by
 unfold aH cn;have:(c - 1).toNat < s.aK.length:=by omega
 rw [List.getD_eq_getElem?_getD,List.getElem?_eq_getElem this];simp
structure qJ (s:ai) (g:Nat) (c i:Int) (o:Nat):Prop where
 i0:0≤i
 i1:i < s.aL.length
 ch:(su s i).ch=c
 g_:(su s i).g=o
 o1:o < s.gs.length
 own:Own (aa s o) i
 q:dy (aa s o) i (su s i).cs
 mt:Match (aa s o) i (su s i)
theorem MInv.qK (h:MInv s) {c i:Int} (c0:1≤c) (c1:c≤s.aK.length) (hq:i∈(cn s c).recv∨i∈(cn s c).send):∃ o,qJ s g c i o:=by
 obtain ⟨t1,t2,t3,t4,t5,t6,t7,t8⟩:=Inv.ve h.v c0 c1 hq;refine ⟨(su s i).g.toNat,t1,t2,t3,by omega,by omega,t6,t7,t8⟩
theorem MInv.vq (h:MInv s) (hg:g < s.gs.length) {i:Int} {o:Nat} {x y:Gr} {c:Int} {c':Cn} (q:qJ s g c i o) (lx:Loc s.aK.length s.aL.length s.gs.length x) (hc:gW s.gs.length (cn s) g (aa s g) x c c') (ow:∀ i,Own x i↔Own (aa s g) i) (mt:∀ i d,Own x i→Match (aa s g) i d→Match x i d)
  (nq:∀ i j,¬ dy (aa s g) i j) (nw:¬ bW x) (wx:∀ q∈x.an,q∈(aa s g).an) (jC:¬ Wt (aa s g))
  (hx:cB x) (xi:x.hold=i) (c0:1≤c) (c1:c≤s.aK.length) (xh:bl x c) (hq:i∈(cn s c).recv∨i∈(cn s c).send) (py:Part (aa s o) y) (e1:y.param=(aa s o).param) (e2:y.token=(aa s o).token) (e3:y.status=(aa s o).status)
  (hp:(su s i).cs < 0∧i∉c'.recv∧i∉c'.send∧y.br=(aa s o).br∨0≤(su s i).cs∧(aa s o).br=false∧y.br=true∧bl (aa s g) c) (ha:x.at_=(aa s g).at_) :
  MInv (ah (ah (aH s c c') o y) g x):=by
 have ck:o≠g:=fun e=>nq _ _ (e ▸ q.q)
 have eA:=dR s g;have eO:gA s (su s i).g=aa s o:=by rw [q.g_,dR]
 have r:Rest s (ah (ah (aH s c c') o y) g x):=(Rest.dI s c c').trans (Rest.two (Sx.aH s c c') (g:=g) (p:=o) hg q.o1 ha py.at_ ck);refine h.rest r (V.of r (Inv.H8 h.v (g:=g) (i:=i) (x:=x) (y:=y) (c:=c) (c':=c') (by omega) (by omega) lx (by rw [eA];exact hc) (by rw [eA];exact ow) (by rw [eA];exact mt) (by rw [eA];exact nq) nw (by rw [eA];exact wx) (by rw [eA];exact jC) hx xi q.ch c0 c1 xh hq (by rw [eO];exact py) (by rw [eO];exact e1) (by rw [eO];exact e2) (by rw [eO];exact e3) (by rw [eO,eA];exact hp)) (fun k k0=>?_) (fun ch w=>jW c0 c1 rfl ch w) (fun _ _=>rfl));rw [q.g_];exact yw (s:=s) hg q.o1 rfl k k0
theorem MInv.yz (h:MInv s) (hg:g < s.gs.length) {i:Int} {o:Nat} {x y:Gr} {c:Int} {c':Cn} {d:Su} (c0:1≤c) (c1:c≤s.aK.length) (lx:Loc s.aK.length s.aL.length s.gs.length x) (hc:gW s.gs.length (cn s) g (aa s g) x c c') (ow:∀ i,Own x i↔Own (aa s g) i) (mt:∀ i d,Own x i→Match (aa s g) i d→Match x i d)
  (nq:∀ i j,¬ dy (aa s g) i j) (nw:¬ bW x) (eP:¬ cB x) (wx:∀ q∈x.an,q∈(aa s g).an∨q=(o:Int)) (jC:¬ Wt (aa s g))
  (sc:(su s i).ch=c) (so:(su s i).g=o) (o1:o < s.gs.length) (ck:o≠g) (F1:Wt (aa s o)) (F2:(aa s o).param=-1) (F3:Own (aa s o) i) (F4:SE (aa s o)→y.br=true) (F5:i∉c'.recv∧i∉c'.send)
  (other:∀ k:Nat,k < s.gs.length→k≠g→cB (aa s k)→(su s (aa s k).hold).g=o→False)
  (py:Part (aa s o) y) (e1:y.param=i) (e2:y.token=(aa s o).token) (e3:y.status=(aa s o).status) (ha:x.at_=(aa s g).at_)
  (hd:d.g=(su s i).g∧d.ch=(su s i).ch∧d.cs=(su s i).cs∧d.send=(su s i).send∧d.live=(su s i).live) :
  MInv (ah (bh (ah (aH s c c') o y) i d) g x):=by
 have eA:=dR s g;have eO:gA s (su s i).g=aa s o:=by rw [so,dR]
 have i1:=(Inv.own h.v (o:Int) (by omega) (by omega) i (by rw [dR];exact F3)).1;have i0:=F3.1;have r:Rest s (ah (bh (ah (aH s c c') o y) i d) g x):=by
  have r1:=(Rest.dI s c c').trans (Rest.two (Sx.aH s c c') (g:=g) (p:=o) hg o1 ha py.at_ ck);refine ⟨r1.gl,r1.cl,by simp [Sx.bh,Sx.ah,Sx.aH],r1.sN,r1.cN,r1.ca,r1.md,r1.fr,r1.dw,r1.dn,r1.vi,r1.at_⟩
 have v:=Inv.serve h.v (g:=g) (i:=i) (x:=x) (y:=y) (c:=c) (c':=c') (by omega) (by omega) lx (by rw [eA];exact hc) (by rw [eA];exact ow) (by rw [eA];exact mt) (by rw [eA];exact nq) nw eP (by rw [eA,so];exact wx) (by rw [eA];exact jC) sc (by omega) (by omega) (by omega) (by rw [eO];exact F1) (by rw [eO];exact F2) (by rw [eO];exact F3) (by rw [eO];exact F4) F5 (fun k k0 k1 kg cl e=>by
  refine other k.toNat (by omega) (by omega) cl (by rw [← so];exact e)) (by rw [eO];exact py) e1 (by rw [eO];exact e2) (by rw [eO];exact e3)
 have v2:=v.HY (S':=up (su s) i d) (fun j=>by
  unfold up
  by_cases e:j=i
  ·rw [if_pos e,e];exact hd
  ·rw [if_neg e];exact ⟨rfl,rfl,rfl,rfl,rfl⟩)
 refine h.rest r (V.of r v2 (fun k k0=>?_) (fun ch w=>jW c0 c1 rfl ch w) (fun j j0=>vf i0 i1 rfl j j0));rw [so];exact yw (s:=s) hg o1 rfl k k0
def bQ (c:Cn) (i:Int):Cn:={ c with recv:=fI c.recv i,send:=fI c.send i }
theorem drop_eq {s:ai} {i c:Int} (e:(su s i).ch=c) (c0:1≤c) (c1:c≤s.aK.length):bE s i=aH s c (bQ (cn s c) i):=by
 subst e;unfold bE;rw [if_pos (l5.2 ⟨c0,c1⟩)];rfl
theorem kG {l:List Int} {i:Int}:i∉fI l i:=by unfold fI;simp
theorem gH {l:List Int} {i:Int}:(fI l i).Sublist l:=by unfold fI;exact List.filter_sublist
theorem vr {l:List Gr} {g o:Nat} {a b c:Gr} (h:o≠g):((l.set g a).set o b).set g c=(l.set o b).set g c:=by
 rw [List.set_comm _ _ (by omega:g≠o),List.set_set]
theorem BN {s:ai} {g o:Nat} {i:Int} (hg:g < s.gs.length) (so:(su s i).g=o) (ck:o≠g):pair s g i=ah (ah s o { aa s o with bS:=(aa s g).t,wi:=g,c7:=(su s i).cs }) g { aa s g with bS:=(aa s g).t,wi:=o }:=by
 unfold pair;simp only [so,Int.toNat_natCast]
theorem fT {s:ai} {g h:Nat} {x:Gr} (hg:g < s.gs.length):aa (ah s g x) h=if h=g then x else aa s h:=gf s g h x hg
theorem fB {s:ai} {g:Nat} {x:Gr}:(ah s g x).gs.length=s.gs.length:=by simp [ah]
theorem BO (hg:g < s.gs.length) {i c:Int} {o:Nat} {cR hand:Int} (so:(su s i).g=o) (ck:o≠g) (sc:(su s i).ch=c) (c0:1≤c) (c1:c≤s.aK.length) (hn:¬ 0≤(su s i).cs) :
  taken s g i cR hand=ah (ah (aH s c (bQ (cn s c) i)) o { aa s o with bS:=s.step,wi:=g,c7:=(su s i).cs }) g { aa s g with hold:=i,t:=s.step,bS:=s.step,wi:=o,place:=hand }:=by
 unfold taken;rw [if_neg hn];have e1:bE (ah s g { aa s g with hold:=i,t:=s.step }) i=aH (ah s g { aa s g with hold:=i,t:=s.step }) c (bQ (cn s c) i):=drop_eq (s:=ah s g { aa s g with hold:=i,t:=s.step }) sc c0 c1;have dM:g < (aH (ah s g { aa s g with hold:=i,t:=s.step }) c (bQ (cn s c) i)).gs.length:=by show g < (ah s g _).gs.length;rw [fB];exact hg
 rw [e1,BN dM so ck];have g1:aa (aH (ah s g { aa s g with hold:=i,t:=s.step }) c (bQ (cn s c) i)) g={ aa s g with hold:=i,t:=s.step }:=by rw [vj,fT hg,if_pos rfl]
 have g2:aa (aH (ah s g { aa s g with hold:=i,t:=s.step }) c (bQ (cn s c) i)) o=aa s o:=by rw [vj,fT hg,if_neg ck]
 rw [g1,g2,kF _ _ _ _ (by rw [fB];exact dM)];unfold ah aH;simp only;rw [vr ck];rfl
theorem BP {i:Int} {cR hand:Int} (hg:g < s.gs.length) (hn:0≤(su s i).cs):taken s g i cR hand=ah s g { aa s g with hold:=i,place:=cR }:=by
 unfold taken;rw [if_pos hn,kF _ _ _ _ hg]
theorem qJ.ne (h:MInv s) {c i:Int} {o:Nat} (q:qJ s g c i o) (nq:∀ i j,¬ dy (aa s g) i j):o≠g:=fun e=>nq _ _ (e ▸ q.q)
theorem MInv.s6 (h:MInv s) (hg:g < s.gs.length) (st:(aa s g).status=0) (k:2≤(ag s g).kind∧(ag s g).kind≤5) (e:(aa s g).place=6) {i:Int} (hq:i∈(cn s (ag s g).ch).recv∨i∈(cn s (ag s g).ch).send):MInv (taken s g i 7 8):=by
 obtain ⟨c0,c1⟩:=h.mV hg (by omega) (by omega);have hk:(aI (aa s g)).kind=(ag s g).kind:=rfl;have L:=h.loc hg;obtain ⟨o,q⟩:=h.qK (g:=g) c0 c1 hq;have di:(aa s g).an=[]:=by
  by_cases w:(aa s g).an=[]
  ·exact w
  ·have:=L.w1 w;omega
 have go:∀ (x:Gr) (p:Int),p=7∨p=8→x.ops=(aa s g).ops→x.at_=(aa s g).at_→x.status=(aa s g).status→x.token=(aa s g).token→x.param=(aa s g).param→x.an=(aa s g).an→x.place=p→eY (aa s g) x:=by
  intro x p hp h1 h2 h3 h4 h5 h6 h7;refine ⟨h1,h2,h3,h4,h5,h6,by unfold SE;omega,st,by omega,by omega,by omega,?_,⟨by omega,by omega,by omega,by omega⟩,by omega,.inl di⟩;unfold bp;omega
 have hH:∀ x:Gr,aI x=aI (aa s g)→(x.place=7∨x.place=8)→bl x (ag s g).ch:=fun x ho hp=>.inl ⟨by rw [ho];omega,by rw [ho];omega,by rw [ho];rfl,by omega⟩
 by_cases hn:0≤(su s i).cs
 ·rw [BP hg hn];have G:=go { aa s g with hold:=i,place:=7 } 7 (.inl rfl) rfl rfl rfl rfl rfl rfl rfl;refine h.self hg (G.sf L (fun _=>⟨q.i0,q.i1⟩) ?_ (by simp)) rfl (fun _=>?_)
  ·rw [e];unfold hP;simp
  ·simp only;rw [q.ch];exact ⟨c0,c1,hH _ rfl (.inl rfl),hq,hn⟩
 ·have G:=go { aa s g with hold:=i,t:=s.step,bS:=s.step,wi:=o,place:=8 } 8 (.inr rfl) rfl rfl rfl rfl rfl rfl rfl;rw [BO hg q.g_ (q.ne h (G.nq)) q.ch c0 c1 hn];refine h.vq hg q (G.loc L (fun _=>⟨q.i0,q.i1⟩)) ⟨.inl ⟨rfl,G.hh (by rw [e];unfold hP;simp)⟩,h.fA c0 c1,⟨gH,gH⟩,.inr ?_⟩ (fun i=>⟨fun w=>absurd w (G.own i).2,fun w=>absurd w (G.own i).1⟩) (fun i d w=>absurd w (G.own i).2) G.nq (by unfold bW;simp) (fun q=>id) G.nw (.inl rfl) rfl c0 c1 (hH _ rfl (.inr rfl)) hq ⟨rfl,rfl,rfl,rfl,rfl,rfl,rfl,rfl,rfl,rfl,rfl⟩ rfl rfl rfl (.inl ⟨by omega,kG,kG,rfl⟩) rfl;exact .inl ⟨by omega,by omega,rfl,by omega⟩
end Sx
namespace Sx
variable {s t:ai} {g:Nat} {nc ns n:Int}
theorem MInv.buf (h:MInv s) {c:Int} {c':Cn} (c0:1≤c) (c1:c≤s.aK.length) (e1:c'.lock=(cn s c).lock) (e2:c'.recv=(cn s c).recv) (e3:c'.send=(cn s c).send) (e4:0≤c'.cap∧c'.cap≤4∧(c'.buf.length:Int)≤c'.cap):MInv (aH s c c'):=by
 refine h.rest (Rest.dI s c c') ?_;have I:=h.v;have key:∀ ch,1≤ch→(cn (aH s c c') ch).lock=(cn s ch).lock∧(cn (aH s c c') ch).recv=(cn s ch).recv∧(cn (aH s c c') ch).send=(cn s ch).send:=by
  intro ch a;rw [jW c0 c1 rfl ch a]
  by_cases e:ch=c
  ·subst e;rw [fz];exact ⟨e1,e2,e3⟩
  ·rw [fZ _ _ e];exact ⟨rfl,rfl,rfl⟩
 have J:Inv s.gs.length s.aK.length s.aL.length (gA s) (cn (aH s c c')) (su s) (fun i=>fG s i=true):=by
  constructor
  ·exact I.loc
  ·intro ch a b;rw [(key ch a).1];exact I.iD ch a b
  ·intro k a b ch c d;rw [(key ch c).1];exact I.gV k a b ch c d
  ·intro ch a b;rw [jW c0 c1 rfl ch a]
   by_cases e:ch=c
   ·subst e;rw [fz];exact e4
   ·rw [fZ _ _ e];exact I.cap ch a b
  ·exact I.own
  ·intro ch a b i;rw [(key ch a).2.1,(key ch a).2.2];exact I.q ch a b i
  ·intro ch a b;rw [(key ch a).2.1,(key ch a).2.2];exact I.nd ch a b
  ·intro k a b w;have:=I.cR k a b w;rw [(key _ this.1).2.1,(key _ this.1).2.2];exact this
  ·intro k a b w;have:=I.cl k a b w;rw [(key _ this.1).2.1,(key _ this.1).2.2];exact this
  ·exact I.mJ
  ·exact I.wk
  ·exact I.lY
  ·exact I.su
  ·exact I.lv
 refine V.of (Rest.dI s c c') J (fun _ _=>rfl) (fun _ _=>rfl) (fun _ _=>rfl)
theorem BQ {s:ai} {g:Nat} {back on:Int} (hp:(aa s (su s (aa s g).hold).g.toNat).br=true):cR s g back on=ah (bE s (aa s g).hold) g { aa s g with hold:=-1,place:=back }:=by
 unfold cR;simp only;rw [if_pos hp]
theorem BR {s:ai} {g o:Nat} {back on:Int} (hg:g < s.gs.length) (ho:o < s.gs.length) (so:(su s (aa s g).hold).g=o) (ck:o≠g) (hp:(aa s o).br=false) :
  cR s g back on=ah (ah s o { aa s o with br:=true,bS:=s.step,wi:=g,c7:=(su s (aa s g).hold).cs }) g { aa s g with t:=s.step,bS:=s.step,wi:=o,place:=on }:=by
 unfold cR;simp only [so,Int.toNat_natCast];rw [if_neg (by rw [hp];simp)];have dM:g < (ah (ah s g { aa s g with t:=s.step }) o { aa s o with br:=true }).gs.length:=by rw [fB,fB];exact hg
 have sL:o < (ah s g { aa s g with t:=s.step }).gs.length:=by rw [fB];exact ho
 have Iv:(su (ah (ah s g { aa s g with t:=s.step }) o { aa s o with br:=true }) (aa s g).hold).g=o:=so;rw [BN dM Iv ck];have g1:aa (ah (ah s g { aa s g with t:=s.step }) o { aa s o with br:=true }) g={ aa s g with t:=s.step }:=by rw [fT sL,if_neg (by omega),fT hg,if_pos rfl]
 have g2:aa (ah (ah s g { aa s g with t:=s.step }) o { aa s o with br:=true }) o={ aa s o with br:=true }:=by rw [fT sL,if_pos rfl]
 rw [g1,g2,kF _ _ _ _ (by rw [fB];exact dM)];unfold ah;simp only [List.set_set];rw [vr ck];rfl
theorem MInv.yA (h:MInv s) (hg:g < s.gs.length) (w:bW (aa s g)):∃ o,qJ s g (su s (aa s g).hold).ch (aa s g).hold o∧1≤(su s (aa s g).hold).ch∧(su s (aa s g).hold).ch≤s.aK.length∧bl (aa s g) (su s (aa s g).hold).ch∧((aa s g).hold∈(cn s (su s (aa s g).hold).ch).recv∨(aa s g).hold∈(cn s (su s (aa s g).hold).ch).send)∧0≤(su s (aa s g).hold).cs:=by
 have:=Inv.cR h.v g (by omega) (by omega);rw [dR] at this;obtain ⟨c0,c1,k1,k2,k3⟩:=this w;obtain ⟨o,q⟩:=h.qK (g:=g) c0 c1 k2;exact ⟨o,q,c0,c1,k1,k2,k3⟩
structure yB (s:ai) (g:Nat) (i c:Int) (o:Nat):Prop where
 c0:1≤c
 c1:c≤s.aK.length
 sc:(su s i).ch=c
 so:(su s i).g=o
 o1:o < s.gs.length
 ne:o≠g
 hh:bl (aa s g) c
 wt:Wt (aa s o)
 pm:(aa s o).param=-1
 own:Own (aa s o) i
 se:SE (aa s o)→(aa s o).br=true
 sr:SR (aa s o)→i∉(cn s c).recv∧i∉(cn s c).send
theorem MInv.yC (h:MInv s) (hg:g < s.gs.length) (w:cB (aa s g)):∃ o,yB s g (aa s g).hold (su s (aa s g).hold).ch o∧∀ k:Nat,k < s.gs.length→k≠g→cB (aa s k)→(su s (aa s k).hold).g=o→False:=by
 have:=Inv.cl h.v g (by omega) (by omega);rw [dR] at this;obtain ⟨c0,c1,k1,k2,k3,k4,k5,k6,k7,k8,k9⟩:=this w;refine ⟨(su s (aa s g).hold).g.toNat,⟨c0,c1,rfl,by omega,by omega,by omega,k1,k5,k6,k7,k8,k9⟩,fun k a b cl e=>?_⟩;have:=Inv.mJ h.v k g (by omega) (by omega) (by omega) (by omega) (by rw [dR];exact cl) (by rw [dR];exact w) (by rw [dR,dR];omega);omega
theorem tu {s:ai} {g o:Nat} {i:Int} {d:Bool} (hg:g < s.gs.length) (ho:o < s.gs.length) (so:(su s i).g=o) (ck:o≠g) :
  serve s g i d=ah (bh (ah s o { aa s o with param:=i }) i { su s i with done:=d }) g { aa s g with an:=(aa s g).an ++ [(o:Int)],hold:=-1 }:=by
 have g1:aa (bh (ah s o { aa s o with param:=i }) i { su s i with done:=d }) g=aa s g:=by rw [Ie,fT ho,if_neg (by omega)]
 have e:serve s g i d=ah (bh (ah s (su s i).g.toNat { aa s (su s i).g.toNat with param:=i }) i { su s i with done:=d }) g { aa (bh (ah s (su s i).g.toNat { aa s (su s i).g.toNat with param:=i }) i { su s i with done:=d }) g with an:=(aa (bh (ah s (su s i).g.toNat { aa s (su s i).g.toNat with param:=i }) i { su s i with done:=d }) g).an ++ [(su s i).g],hold:=-1 }:=rfl;rw [e,so,Int.toNat_natCast,g1]
end Sx
namespace Sx
variable {s t:ai} {g:Nat} {nc ns n:Int}
theorem Loc.yD {x:Gr} (L:Loc nc ns n x) {l:List Int} (h1:x.place=16∨x.place=17∨x.place=22∨x.place=23∨x.place=34∨x.place=30∧x.res.code≠0) (h2:∀ p∈l,0≤p∧p < n) (h3:l.Nodup) (h4:l≠[]):Loc nc ns n { x with an:=l } :=
 ⟨L.kS,L.fy,L.a0,L.a1,L.pl,L.uZ,L.oV,L.u6,L.u7,L.Bu,L.tk,fun _=>h1,fun _=>h4,h2,h3,L.hd,L.mi,L.p0,L.p1,L.p2,L.p3,fun a b=>by
  obtain ⟨b1,b2,b3,b4,b5,b6,b7,b8,b9,tf,og,oh,tg,tj,tn,qE,tq,qF,qG,tr⟩:=L.se a b;exact ⟨b1,b2,b3,b4,b5,b6,b7,b8,b9,tf,og,oh,tg,tj,tn,qE,tq,qF,qG,tr⟩⟩
theorem MInv.s7 (h:MInv s) (hg:g < s.gs.length) (st:(aa s g).status=0) (k:2≤(ag s g).kind∧(ag s g).kind≤5) (e:(aa s g).place=7):MInv (cR s g 6 8):=by
 have hk:(aI (aa s g)).kind=(ag s g).kind:=rfl;have L:=h.loc hg;have di:(aa s g).an=[]:=by
  by_cases w:(aa s g).an=[]
  ·exact w
  ·have:=L.w1 w;omega
 have hd:=L.hd (by omega);have go:∀ (x:Gr) (p:Int),p=6∨p=8→x.ops=(aa s g).ops→x.at_=(aa s g).at_→x.status=(aa s g).status→x.token=(aa s g).token→x.param=(aa s g).param→x.an=(aa s g).an→x.place=p→eY (aa s g) x:=by
  intro x p hp h1 h2 h3 h4 h5 h6 h7;refine ⟨h1,h2,h3,h4,h5,h6,by unfold SE;omega,st,by omega,by omega,by omega,?_,⟨by omega,by omega,by omega,by omega⟩,by omega,.inl di⟩;unfold bp;omega
 obtain ⟨o,q,c0,c1,hh,hq,lu⟩:=h.yA hg (.inl e);have ck:o≠g:=q.ne h (go { aa s g with place:=6 } 6 (.inl rfl) rfl rfl rfl rfl rfl rfl rfl).nq
 cases hp:(aa s o).br with
 | true =>
  rw [BQ (by rw [q.g_];exact hp)];rw [drop_eq rfl c0 c1];have G:=go { aa s g with hold:=-1,place:=6 } 6 (.inl rfl) rfl rfl rfl rfl rfl rfl rfl;refine h.qH hg G c0 c1 ⟨.inl ⟨rfl,G.hh (by rw [e];unfold hP;simp)⟩,h.fA c0 c1,⟨gH,gH⟩,.inr hh⟩ (by unfold bW;simp) (by simp)
 | false =>
  rw [BR hg q.o1 q.g_ ck hp];have G:=go { aa s g with t:=s.step,bS:=s.step,wi:=o,place:=8 } 8 (.inr rfl) rfl rfl rfl rfl rfl rfl rfl;have Iw:=(G.hh (by rw [e];unfold hP;simp) (su s (aa s g).hold).ch).2 hh;have:=h.vq hg q (c':=cn s (su s (aa s g).hold).ch) (G.loc L (fun _=>hd)) ⟨.inl ⟨rfl,G.hh (by rw [e];unfold hP;simp)⟩,h.fA c0 c1,⟨List.Sublist.refl _,List.Sublist.refl _⟩,.inr hh⟩ (fun i=>⟨fun w=>absurd w (G.own i).2,fun w=>absurd w (G.own i).1⟩) (fun i d w=>absurd w (G.own i).2) G.nq (by unfold bW;simp) (fun q=>id) G.nw (.inl rfl) rfl c0 c1 Iw hq (y:={ aa s o with br:=true,bS:=s.step,wi:=g,c7:=(su s (aa s g).hold).cs }) ⟨rfl,rfl,rfl,rfl,rfl,rfl,rfl,rfl,rfl,rfl,rfl⟩ rfl rfl rfl (.inr ⟨lu,hp,rfl,hh⟩) rfl;rw [BM c0 c1] at this;exact this
theorem MInv.s8 (h:MInv s) (hg:g < s.gs.length) (st:(aa s g).status=0) (k:2≤(ag s g).kind∧(ag s g).kind≤5) (e:(aa s g).place=8) {o:Nat} {c i:Int} (hi:(aa s g).hold=i) (q:yB s g i c o) (other:∀ k:Nat,k < s.gs.length→k≠g→cB (aa s k)→(su s (aa s k).hold).g=o→False) (r:Md.ak) (d:Su)
  (hd:d.g=(su s i).g∧d.ch=(su s i).ch∧d.cs=(su s i).cs∧d.send=(su s i).send∧d.live=(su s i).live) :
  MInv (ah (bh (ah (aH s c (bQ (cn s c) i)) o { aa s o with param:=i }) i d) g { aa s g with an:=(aa s g).an ++ [(o:Int)],hold:=-1,res:=r,place:=16 }):=by
 have hk:(aI (aa s g)).kind=(ag s g).kind:=rfl;have L:=h.loc hg;have di:(aa s g).an=[]:=by
  by_cases w:(aa s g).an=[]
  ·exact w
  ·have:=L.w1 w;omega
 have G:eY (aa s g) { aa s g with hold:=-1,res:=r,place:=16 }:=by
  refine ⟨rfl,rfl,rfl,rfl,rfl,rfl,by unfold SE;omega,st,by omega,by omega,by simp,?_,?_,?_,.inl di⟩
  ·show bp (aI (aa s g)).kind 16;rw [hk];unfold bp;omega
  ·grind
  ·simp only;omega
 have G1:=G.loc L (by simp);have lx:Loc s.aK.length s.aL.length s.gs.length { aa s g with an:=(aa s g).an ++ [(o:Int)],hold:=-1,res:=r,place:=16 } :=
  G1.yD (.inl rfl) (by rw [di];have:=q.o1;simp;omega) (by rw [di];simp) (by simp)
 have tv:∀ i,¬ Own { aa s g with an:=(aa s g).an ++ [(o:Int)],hold:=-1,res:=r,place:=16 } i:=by
  rintro i ⟨_,w | w⟩
  ·grind
  ·grind
 have me:∀ ch,bl { aa s g with an:=(aa s g).an ++ [(o:Int)],hold:=-1,res:=r,place:=16 } ch↔bl (aa s g) ch:=by
  intro ch;have:=G.hh (by rw [e];unfold hP;simp) ch;exact this
 refine h.yz hg q.c0 q.c1 lx ⟨.inl ⟨rfl,me⟩,h.fA q.c0 q.c1,⟨gH,gH⟩,.inr q.hh⟩ (fun i=>⟨fun w=>absurd w (tv i),fun w=>absurd w (G.own i).1⟩) (fun i d w=>absurd w (tv i)) G.nq (by unfold bW;simp) (by unfold cB;simp) (fun q hq=>?_) G.nw q.sc q.so q.o1 q.ne q.wt q.pm q.own (fun w=>q.se w) ⟨kG,kG⟩ other ⟨rfl,rfl,rfl,rfl,rfl,rfl,rfl,rfl,rfl,rfl,rfl⟩ rfl rfl rfl rfl hd;rcases List.mem_append.1 hq with w | w
 ·exact .inl w
 ·grind
end Sx
namespace Sx
variable {s t:ai} {g:Nat} {nc ns n:Int}
theorem BS {s:ai} {i:Int} {d:Su} (hi:0≤i) (gi:i < s.aL.length):su (bh s i d) i=d:=by
 rw [vf hi gi rfl i hi,fz]
theorem Ix {s:ai} {g o:Nat} {i c:Int} {d:Su} {x:Gr→Gr} {r:Md.ak} {p:Int} (hg:g < s.gs.length) (ho:o < s.gs.length) (so:d.g=o) (ck:o≠g) (i0:0≤i) (i1:i < s.aL.length) :
  ah (serve (bh (aH s c (bQ (cn s c) i)) i d) g i true) g { aa (serve (bh (aH s c (bQ (cn s c) i)) i d) g i true) g with res:=r,place:=p } =
  ah (bh (ah (aH s c (bQ (cn s c) i)) o { aa s o with param:=i }) i { d with done:=true }) g { aa s g with an:=(aa s g).an ++ [(o:Int)],hold:=-1,res:=r,place:=p }:=by
 have s1:su (bh (aH s c (bQ (cn s c) i)) i d) i=d:=BS i0 i1;have e:=tu (s:=bh (aH s c (bQ (cn s c) i)) i d) (g:=g) (o:=o) (i:=i) (d:=true) hg ho (by rw [s1];exact so) ck;rw [e,s1];have g1:aa (bh (aH s c (bQ (cn s c) i)) i d) g=aa s g:=rfl;have g2:aa (bh (aH s c (bQ (cn s c) i)) i d) o=aa s o:=rfl;rw [g1,g2];have g3:∀ y z,aa (ah (bh (ah (bh (aH s c (bQ (cn s c) i)) i d) o y) i { d with done:=true }) g z) g=z:=fun y z=>by
  rw [fT (by show g < (ah _ _ _).gs.length;rw [fB];exact hg),if_pos rfl]
 rw [g3];unfold ah bh aH;simp only [List.set_set]
theorem BT {s:ai} {g o:Nat} {i c:Int} {r:Md.ak} {p:Int} (hg:g < s.gs.length) (ho:o < s.gs.length) (so:(su s i).g=o) (ck:o≠g) :
  ah (serve (aH s c (bQ (cn s c) i)) g i true) g { aa (serve (aH s c (bQ (cn s c) i)) g i true) g with res:=r,place:=p } =
  ah (bh (ah (aH s c (bQ (cn s c) i)) o { aa s o with param:=i }) i { su s i with done:=true }) g { aa s g with an:=(aa s g).an ++ [(o:Int)],hold:=-1,res:=r,place:=p }:=by
 have e:=tu (s:=aH s c (bQ (cn s c) i)) (g:=g) (o:=o) (i:=i) (d:=true) hg ho so ck;rw [e];have g1:aa (aH s c (bQ (cn s c) i)) g=aa s g:=rfl;have g2:aa (aH s c (bQ (cn s c) i)) o=aa s o:=rfl;have g4:su (aH s c (bQ (cn s c) i)) i=su s i:=rfl;rw [g1,g2,g4];have g3:∀ y z,aa (ah (bh (ah (aH s c (bQ (cn s c) i)) o y) i { su s i with done:=true }) g z) g=z:=fun y z=>by
  rw [fT (by show g < (ah _ _ _).gs.length;rw [fB];exact hg),if_pos rfl]
 rw [g3];unfold ah bh aH;simp only [List.set_set]
theorem BU {s:ai} {c c2 i:Int} {b:List Int} (c0:1≤c) (c1:c≤s.aK.length) (d0:1≤c2) (d1:c2≤s.aK.length) :
  aH (aH s c (bQ (cn s c) i)) c2 { cn (aH s c (bQ (cn s c) i)) c2 with buf:=b }=aH (aH s c2 { cn s c2 with buf:=b }) c (bQ (cn (aH s c2 { cn s c2 with buf:=b }) c) i):=by
 have len:∀ (c:Int) (x:Cn),(aH s c x).aK.length=s.aK.length:=fun c x=>by simp [aH]
 have e1:cn (aH s c (bQ (cn s c) i)) c2=up (cn s) c (bQ (cn s c) i) c2:=jW c0 c1 rfl c2 d0;have e2:cn (aH s c2 { cn s c2 with buf:=b }) c=up (cn s) c2 { cn s c2 with buf:=b } c:=jW d0 d1 rfl c c0;rw [e1,e2]
 by_cases q:c2=c
 ·subst q;rw [fz,fz];unfold aH;simp only [List.set_set];rfl
 ·rw [fZ _ _ q,fZ _ _ (Ne.symm q)];unfold aH;simp only;rw [List.set_comm _ _ (by omega)]
theorem BV (l:List Int) (r v:Int):(fj l r v).1.length=l.length:=by
 unfold fj
 split
 ·rfl
 ·grind
theorem MInv.Iy (h:MInv s) (hg:g < s.gs.length) (st:(aa s g).status=0) (k:2≤(ag s g).kind∧(ag s g).kind≤5) (e:(aa s g).place=8) (v:Int):MInv (ah (jO s g v) g { aa (jO s g v) g with res:=kP,place:=16 }):=by
 obtain ⟨o,q,qL⟩:=h.yC hg (.inl e);have L:=h.loc hg;have hd:=L.hd (by omega);unfold jO;simp only;rw [drop_eq q.sc q.c0 q.c1];have e1:su (aH s (su s (aa s g).hold).ch (bQ (cn s (su s (aa s g).hold).ch) (aa s g).hold)) (aa s g).hold=su s (aa s g).hold:=rfl;rw [e1,Ix (x:=id) hg q.o1 (by exact q.so) q.ne hd.1 hd.2];exact h.s8 hg st k e rfl q qL _ _ ⟨rfl,rfl,rfl,rfl,rfl⟩
theorem MInv.Iz (h:MInv s) (hg:g < s.gs.length) (st:(aa s g).status=0) (k:2≤(ag s g).kind∧(ag s g).kind≤5) (e:(aa s g).place=8) :
  MInv (ah (serve (hand (bE s (aa s g).hold) (ag s g).ch (aa s g).hold).1 g (aa s g).hold true) g { aa (serve (hand (bE s (aa s g).hold) (ag s g).ch (aa s g).hold).1 g (aa s g).hold true) g with res:=dA (hand (bE s (aa s g).hold) (ag s g).ch (aa s g).hold).2 true,place:=16 }):=by
 obtain ⟨o,q,qL⟩:=h.yC hg (.inl e);obtain ⟨d0,d1⟩:=h.mV hg (by omega) (by omega);have L:=h.loc hg;have hd:=L.hd (by omega);generalize (dA (hand (bE s (aa s g).hold) (ag s g).ch (aa s g).hold).2 true)=r;unfold hand;simp only;rw [drop_eq q.sc q.c0 q.c1]
 split
 ·rw [BT hg q.o1 q.so q.ne];exact h.s8 hg st k e rfl q qL _ _ ⟨rfl,rfl,rfl,rfl,rfl⟩
 ·simp only;rw [BU q.c0 q.c1 d0 d1];obtain ⟨b,hb,yE⟩:∃ b,(fj (cn (aH s (su s (aa s g).hold).ch (bQ (cn s (su s (aa s g).hold).ch) (aa s g).hold)) (ag s g).ch).buf (cn (aH s (su s (aa s g).hold).ch (bQ (cn s (su s (aa s g).hold).ch) (aa s g).hold)) (ag s g).ch).cap (su (aH s (su s (aa s g).hold).ch (bQ (cn s (su s (aa s g).hold).ch) (aa s g).hold)) (aa s g).hold).v).1=b∧b.length=(cn s (ag s g).ch).buf.length:=by
   refine ⟨_,rfl,?_⟩;rw [BV,jW q.c0 q.c1 rfl _ d0];unfold up
   split
   ·rename_i c;rw [c];rfl
   ·rfl
  rw [hb];have o9:=h.fA d0 d1;have h2:MInv (aH s (ag s g).ch { cn s (ag s g).ch with buf:=b }):=h.buf d0 d1 rfl rfl rfl ⟨o9.1,o9.2.1,by simp only;rw [yE];exact o9.2.2⟩;obtain ⟨s2,gS⟩:∃ s2,aH s (ag s g).ch { cn s (ag s g).ch with buf:=b }=s2:=⟨_,rfl⟩
  have eg:∀ j,aa s2 j=aa s j:=fun j=>by rw [← gS];rfl
  have es:∀ j,su s2 j=su s j:=fun j=>by rw [← gS];rfl
  have el:s2.gs.length=s.gs.length:=by rw [← gS];rfl
  have ec:s2.aK.length=s.aK.length:=by rw [← gS];simp [aH]
  have eq:∀ ch,1≤ch→(cn s2 ch).recv=(cn s ch).recv∧(cn s2 ch).send=(cn s ch).send:=by
   intro ch a;rw [← gS,jW d0 d1 rfl ch a];unfold up
   split
   ·grind
   ·exact ⟨rfl,rfl⟩
  rw [gS] at h2 ⊢;have eo:ag s2 g=ag s g:=by unfold ag;rw [eg]
  rw [← es,← eg];rw [BT (by rw [el];exact hg) (by rw [el];exact q.o1) (by rw [es,eg];exact q.so) q.ne];refine h2.s8 (by rw [el];exact hg) (by rw [eg];exact st) (by rw [eo];exact k) (by rw [eg];exact e) rfl ⟨?_,?_,rfl,?_,?_,q.ne,?_,?_,?_,?_,?_,?_⟩ ?_ _ _ ⟨rfl,rfl,rfl,rfl,rfl⟩
  ·rw [es,eg];exact q.c0
  ·rw [es,eg,ec];exact q.c1
  ·rw [es,eg];exact q.so
  ·rw [el];exact q.o1
  ·rw [es,eg];exact q.hh
  ·rw [eg];exact q.wt
  ·rw [eg];exact q.pm
  ·rw [eg,eg];exact q.own
  ·rw [eg];exact q.se
  ·rw [es,eg,eg,(eq _ q.c0).1,(eq _ q.c0).2];exact q.sr
  ·grind
end Sx
namespace Sx
variable {s t:ai} {g:Nat} {nc ns n:Int}
theorem MInv.qM (h:MInv s) (hg:g < s.gs.length) (e:(aa s g).place≤15∨18≤(aa s g).place∧(aa s g).place≤21∨24≤(aa s g).place∧(aa s g).place≤29):(aa s g).an=[]:=by
 by_cases w:(aa s g).an=[]
 ·exact w
 ·have:=(h.loc hg).w1 w;omega
theorem MInv.yF (h:MInv s) (hg:g < s.gs.length) (st:(aa s g).status=0) (k:(ag s g).kind≤8) (e:1≤(aa s g).place∧(aa s g).place≤10∨(aa s g).place=20∨(aa s g).place=21) {x:Gr} (h1:x.ops=(aa s g).ops) (h2:x.at_=(aa s g).at_) (h3:x.status=(aa s g).status) (h4:x.token=(aa s g).token) (h5:x.param=(aa s g).param) (h6:x.an=(aa s g).an)
  (ok:bp (ag s g).kind x.place) (p:1≤x.place∧x.place≤10∨x.place=16∨x.place=18∨x.place=20∨x.place=22):eY (aa s g) x:=by
 have hk:(aI (aa s g)).kind=(ag s g).kind:=rfl;refine ⟨h1,h2,h3,h4,h5,h6,by unfold SE;omega,st,by omega,by omega,by omega,ok,⟨by omega,by omega,by omega,by omega⟩,by omega,.inl (h.qM hg (by omega))⟩
theorem MInv.fQ (h:MInv s) (hg:g < s.gs.length) (st:(aa s g).status=0) (k:(ag s g).kind≤8) (e:1≤(aa s g).place∧(aa s g).place≤10∨(aa s g).place=20∨(aa s g).place=21) {x:Gr} (h1:x.ops=(aa s g).ops) (h2:x.at_=(aa s g).at_) (h3:x.status=(aa s g).status) (h4:x.token=(aa s g).token) (h5:x.param=(aa s g).param) (h6:x.an=(aa s g).an)
  (ok:bp (ag s g).kind x.place) (p:1≤x.place∧x.place≤6∨x.place=9∨x.place=10∨x.place=16∨x.place=18∨x.place=20∨x.place=22) (hp:hP (aa s g).place↔hP x.place):MInv (ah s g x) :=
 h.BC hg (h.yF hg st k e h1 h2 h3 h4 h5 h6 ok (by omega)) hp (by unfold bW;omega) (by omega)
theorem MInv.s9 (h:MInv s) (hg:g < s.gs.length) (st:(aa s g).status=0) (k:2≤(ag s g).kind∧(ag s g).kind≤5) (e:(aa s g).place=9) {b:List Int} (hb:(b.length:Int)≤(cn s (ag s g).ch).cap) (r:Md.ak):MInv (bG (aH s (ag s g).ch { cn s (ag s g).ch with buf:=b }) g r 16):=by
 obtain ⟨c0,c1⟩:=h.mV hg (by omega) (by omega);have G:=h.yF hg st (by omega) (by omega) (x:={ aa s g with bS:=s.step,res:=r,place:=16 }) rfl rfl rfl rfl rfl rfl (by show bp _ 16;unfold bp;omega) (by simp);have hc:=h.fA c0 c1;exact h.qH hg G c0 c1 ⟨.inl ⟨rfl,G.hh (by rw [e];unfold hP;simp)⟩,⟨hc.1,hc.2.1,hb⟩,⟨List.Sublist.refl _,List.Sublist.refl _⟩,.inl ⟨rfl,rfl⟩⟩ (by unfold bW;simp) (by simp)
theorem MInv.kT (h:MInv s) (hg:g < s.gs.length) (st:(aa s g).status=0) (k:(ag s g).kind=2∨(ag s g).kind=3) (e:(aa s g).place=10) {d:Su} (hd:d.g=g∧d.cs=-1∧d.ch=(ag s g).ch∧(d.send=true↔(ag s g).kind=2)):MInv (bt s g d):=by
 have L:=h.loc hg;have hk:aI (aa s g)=ag s g:=rfl;have ks:SR (aa s g):=k;unfold bt
 split
 ·rename_i ok;have T:=vl h hg ok;obtain ⟨i,hi⟩:∃ i,(bw s g).2.1=i:=⟨_,rfl⟩
  rw [hi] at T ⊢;obtain ⟨x,hx⟩:∃ x,({ aa s g with bt:=i,place:=11 }:Gr)=x:=⟨_,rfl⟩
  rw [hx];have h1:x.ops=(aa s g).ops∧x.at_=(aa s g).at_∧x.place=11∧x.status=(aa s g).status∧x.token=(aa s g).token∧x.param=(aa s g).param∧x.bt=i∧x.an=(aa s g).an∧x.aq=(aa s g).aq:=by subst hx;simp
  have ho:aI x=aI (aa s g):=by subst hx;rfl
  have wk:=h.qM hg (by omega);have i0:=T.i0;have i1:=T.i1;have nO:∀ j,¬ Own (aa s g) j:=by
   rintro j ⟨_,w | w⟩
   ·omega
   ·omega
  have gG:¬ SE x:=by unfold SE;rw [ho];exact ks.ne
  refine h.take hg T (x:=x) (d:=d) ?_ ?_ ?_ (fun j w=>absurd w (nO j)) ?_ hd.1 ?_ ?_ ?_ (by rw [h1.2.2.2.2.2.2.2.1]) ?_ h1.2.1
  ·clear hx;obtain ⟨a1,a2,a3,a4,a5,a6,a7,a8,a9,jV,kV,kC,kW,kX,kY,kD,mK,mM,lZ,mN,mO,kZ⟩:=L
   constructor <;> simp only [Wt,SR,SE,e,st,Own,bp,cU,ho,h1,hk] at * <;> grind
  ·intro ch;unfold bl;rw [ho,h1.2.2.1,e];simp only [gG,ks.ne,false_and,or_false]
   constructor <;> (intro w;exact ⟨w.1,w.2.1,w.2.2.1,by omega⟩)
  ·intro j
   constructor
   ·rintro ⟨_,w | w⟩
    ·omega
    ·exact absurd w.1 gG
   ·rintro (w | w)
    ·exact absurd w (nO j)
    ·subst w;exact ⟨i0,.inl ⟨by unfold SR;rw [ho];exact ks,by omega,by omega,h1.2.2.2.2.2.2.1⟩⟩
  ·exact .inl ⟨by unfold SR;rw [ho];exact ks,hd.2.1,by rw [ho,hk];exact hd.2.2.1,by rw [ho,hk];exact hd.2.2.2⟩
  ·rintro j l (w | w)
   ·omega
   ·omega
  ·unfold bW;omega
  ·unfold cB;omega
  ·rintro (w | w)
   ·omega
   ·omega
 ·rename_i ok;have e1:(bw s g).1=s:=by
   unfold bw at ok ⊢
   split
   ·grind
   ·grind
  rw [e1];exact h.fQ hg st (by omega) (by omega) (x:={ aa s g with res:={ (aa s g).res with code:=6 },place:=16 }) rfl rfl rfl rfl rfl rfl (by show bp _ 16;unfold bp;omega) (by simp) (by rw [e];unfold hP;simp)
theorem MInv.oo (h:MInv s) (hg:g < s.gs.length) (st:(aa s g).status=0) (k:(ag s g).kind=2∨(ag s g).kind=3) (e:(aa s g).place=11) {c':Cn} {a:Int} (e1:c'.lock=(cn s (ag s g).ch).lock) (e2:c'.cap=(cn s (ag s g).ch).cap) (e3:c'.buf=(cn s (ag s g).ch).buf)
  (er:c'.recv=if (ag s g).kind=2 then (cn s (ag s g).ch).recv else (cn s (ag s g).ch).recv ++ [(aa s g).bt]) (es:c'.send=if (ag s g).kind=2 then (cn s (ag s g).ch).send ++ [(aa s g).bt] else (cn s (ag s g).ch).send) :
  MInv (ah (aH s (ag s g).ch c') g { aa s g with fW:=a,place:=12 }):=by
 obtain ⟨c0,c1⟩:=h.mV hg (by omega) (by omega);have L:=h.loc hg;have hk:aI (aa s g)=ag s g:=rfl;have ks:SR (aa s g):=k;have hm:=L.mi ks (by omega) (by omega);have eA:=dR s g;have oZ:Own (aa s g) (aa s g).bt:=⟨hm.1,.inl ⟨ks,by omega,by omega,rfl⟩⟩
 have hO:=Inv.own h.v (g:Int) (by omega) (by omega) (aa s g).bt (by rw [eA];exact oZ);have hM:=hO.2.1;rw [eA] at hM;obtain ⟨m1,m2,m3,m4⟩:SR (aa s g)∧(su s (aa s g).bt).cs=-1∧(su s (aa s g).bt).ch=(ag s g).ch∧((su s (aa s g).bt).send=true↔(ag s g).kind=2):=by
  rcases hM with w | w
  ·exact w
  ·exact absurd w.1 ks.ne
 obtain ⟨x,hx⟩:∃ x,({ aa s g with fW:=a,place:=12 }:Gr)=x:=⟨_,rfl⟩
 have h1:x.ops=(aa s g).ops∧x.at_=(aa s g).at_∧x.place=12∧x.status=(aa s g).status∧x.token=(aa s g).token∧x.param=(aa s g).param∧x.bt=(aa s g).bt∧x.an=(aa s g).an∧x.aq=(aa s g).aq:=by subst hx;simp
 have ho:aI x=aI (aa s g):=by subst hx;rfl
 have wk:=h.qM hg (by omega);have qN:SR x:=by unfold SR;rw [ho];exact ks
 have gG:¬ SE x:=qN.ne;have pm:(aa s g).param=-1:=by
  have:=L.p0
  by_cases c:0≤(aa s g).param
  ·have:=(L.p2 c).1;rcases this with w | w
   ·omega
   ·omega
  ·omega
 rw [hx];have r:Rest s (ah (aH s (ag s g).ch c') g x):=(Rest.dI s _ c').trans (Rest.ff _ hg h1.2.1);refine h.rest r (V.of r (Inv.push h.v (g:=g) (i:=(aa s g).bt) (x:=x) (c:=(ag s g).ch) (c':=c') (by omega) (by omega) (by rw [eA];exact oZ) c0 c1 m3 ?_ ?_ ?_ ?_ ?_ ?_ ?_ ?_ ?_ ?_ ?_ e1 e2 e3 ?_ ?_) (fun j j0=>mS hg rfl j j0) (fun ch q=>jW c0 c1 rfl ch q) (fun _ _=>rfl))
 ·clear hx r;obtain ⟨a1,a2,a3,a4,a5,a6,a7,a8,a9,jV,kV,kC,kW,kX,kY,kD,mK,mM,lZ,mN,mO,kZ⟩:=L
  constructor <;> simp only [Wt,SR,SE,e,st,Own,bp,cU,ho,h1,hk] at * <;> grind
 ·intro ch;rw [eA];unfold bl;rw [ho,h1.2.2.1,e];simp only [gG,ks.ne,false_and,or_false]
  constructor <;> (intro w;exact ⟨w.1,w.2.1,w.2.2.1,by omega⟩)
 ·intro j;rw [eA];exact Own.vk ks ho h1.2.2.2.2.2.2.1 (by omega) (by omega)
 ·intro j w;have w2:=(Own.vk ks ho h1.2.2.2.2.2.2.1 (by omega) (by omega)).1 w;have:j=(aa s g).bt:=by
   rcases w2 with ⟨_,w | w⟩
   ·exact w.2.2.2.symm
   ·omega
  subst this;exact .inl ⟨qN,m2,by rw [ho];exact m3,by rw [ho];exact m4⟩
 ·rw [eA];rintro (w | w)
  ·omega
  ·omega
 ·rw [eA];rintro i j (w | w)
  ·omega
  ·omega
 ·exact .inl ⟨qN,by omega,by omega,h1.2.2.2.2.2.2.1,by rw [h1.2.2.2.2.2.1];exact pm⟩
 ·unfold bW;omega
 ·unfold cB;omega
 ·grind
 ·rw [eA];rintro (w | w)
  ·omega
  ·omega
 ·grind
 ·grind
theorem MInv.BW (h:MInv s) (hg:g < s.gs.length) (st:(aa s g).status=0) (k:(ag s g).kind=2∨(ag s g).kind=3) (e:(aa s g).place=14) (r:Md.ak):MInv (ah s g { aa s g with res:=r,param:=-1,place:=15 }):=by
 have L:=h.loc hg;have hk:aI (aa s g)=ag s g:=rfl;have ks:SR (aa s g):=k;have pm:=L.p1 e st;obtain ⟨x,hx⟩:∃ x,({ aa s g with res:=r,param:=-1,place:=15 }:Gr)=x:=⟨_,rfl⟩
 have h1:x.ops=(aa s g).ops∧x.at_=(aa s g).at_∧x.place=15∧x.status=(aa s g).status∧x.token=(aa s g).token∧x.param=-1∧x.bt=(aa s g).bt∧x.an=(aa s g).an∧x.aq=(aa s g).aq:=by subst hx;simp
 have ho:aI x=aI (aa s g):=by subst hx;rfl
 have wk:=h.qM hg (by omega);have qN:SR x:=by unfold SR;rw [ho];exact ks
 have gG:¬ SE x:=qN.ne;rw [hx];refine h.self hg ⟨?_,?_,?_,?_,?_,?_,?_,?_,?_⟩ h1.2.1 (fun w=>by unfold bW at w;omega)
 ·clear hx;obtain ⟨a1,a2,a3,a4,a5,a6,a7,a8,a9,jV,kV,kC,kW,kX,kY,kD,mK,mM,lZ,mN,mO,kZ⟩:=L
  constructor <;> simp only [Wt,SR,SE,e,st,Own,bp,cU,ho,h1,hk] at * <;> grind
 ·intro ch;unfold bl;rw [ho,h1.2.2.1,e];simp only [gG,ks.ne,false_and,or_false];omega
 ·intro j;exact Own.vk ks ho h1.2.2.2.2.2.2.1 (by omega) (by omega)
 ·intro j d _ w;rcases w with w | w
  ·exact .inl ⟨qN,w.2.1,by rw [ho];exact w.2.2.1,by rw [ho];exact w.2.2.2⟩
  ·exact absurd w.1 ks.ne
 ·rintro i j (w | w)
  ·omega
  ·exact absurd w.1 ks.ne
 ·unfold cB;omega
 ·grind
 ·intro w;exact absurd st (w.2.2.2 e)
 ·intro w;have:=w.2.1;omega
end Sx
end Go.Proofs.YtgjpdogjekmemaaGreat
