/-
  What the laws need, part H5.
  Conditions: none.
-/
import Derived.Test.YtofnbflkhgammaaGreatH4
set_option linter.unusedVariables false
set_option linter.unusedSimpArgs false
set_option linter.unnecessarySimpa false
set_option maxHeartbeats 2000000
namespace Go.Proofs.YtofnbflkhgammaaGreat
open Go.RowKit
namespace Fl
open Sx
set_option maxRecDepth 100000
theorem Zm {s:Sx.St} {g:Nat} (h:Sx.Good s) (hg:g < s.gs.length):Sx.Bd 450 (cD s g).1:=by
 have B:=zE h;have B4:Sx.Bd 450 s:=B.mono (by omega);have cl:∀ {t:Sx.St} {k:Nat},Sx.Bd 200 t→Sx.Bd 450 (Sx.eU t k):=fun {t k} b=>by
  unfold Sx.eU;dsimp only;exact ((Sx.Bd.serve (((Sx.Bd.drop (b.qg)).qg))).mono (by omega))
 have dr:∀ i,Sx.Bd 450 (eB s g i):=fun i=>by
  unfold eB;dsimp only
  split
  ·exact (B4.qg).aE
  ·exact cl B.qg
 unfold cD;dsimp only
 split
 ·exact B4
 ·split
  ·exact (B.common).mono (by omega)
  ·split
   ·exact B4
   ·split
    ·split
     ·exact B4.qg
     ·have B5:Sx.Bd 450 (Sx.av s (Sx.op s g).ch { Sx.cn s (Sx.op s g).ch with closed:=true }):=B4.av ⟨(B4.cn (Sx.op s g).ch).cp,(B4.cn (Sx.op s g).ch).bf,(B4.cn (Sx.op s g).ch).rv,(B4.cn (Sx.op s g).ch).sd⟩;exact B5.qg
    ·split
     ·split
      ·exact dr _
      ·split
       ·exact dr _
       ·exact B4.aE
     ·split
      ·unfold gN;dsimp only
       split
       ·exact Sx.Bd.aa B4.drop ((B4.gr g).as)
       ·exact (cl B.qg).aE
      ·exact B4
theorem Zn (p:List (List Pn.Op)) (sn cn:Int) (d l:List Int) (hd:∀ x∈d,0≤x∧x < 65536) :
  Pure Tryz.prog 6 [.agg (kP p sn cn d),.c (ints l)] (.c (bI true)):=by
 have CR:=Gs p sn cn d l hd;have HG:=Gq (p:=p) (sn:=sn) (cn:=cn) (l:=l) hd;generalize jO p sn cn d l=r at CR HG;obtain ⟨s,o⟩:=r;refine aq.intro Tryz.func6 rfl rfl rfl (fun ok e=>?_)
 cases o with
 | false =>
  repeat (first | (refine K.store ?_;refine JO.ld (Ld.aP rfl rfl rfl (by exact rfl) (by exact rfl)) rfl (fun _=>?_)) | refine ei (NL) ?_ | refine au ?_ | intro _)
  exact az Tryz.func6
 | true =>
 have G:Sx.Good s:=HG rfl;have g8:=G.n8;clear HG
 repeat (first | (refine K.store ?_;refine JO.ld (Ld.aP rfl rfl rfl (by exact rfl) (by exact rfl)) rfl (fun _=>?_)) | refine ei (NL) ?_ | refine au ?_ | intro _)
 rename_i b2 b5 _;refine J.loop (ι:={ k:Nat // k≤s.gs.length }) (fun q=>[(26,.c (nI q.1)),(25,.c (nI s.gs.length)),(24,.c (.r 25 (s.gs.map eG))),(5,.c (.v (pt b5)))]) (fun _=>[.box b5 36 (ay s),.box b2 27 (kP p sn cn d)]) (fun q=>s.gs.length - q.1) ⟨0,Nat.zero_le _⟩ (fun X h=>h.aU ⟨rfl,rfl,rfl,rfl,trivial⟩) (fun q ih=>?_);obtain ⟨g,hk⟩:=q;simp only at hk ih ⊢
 by_cases hg:g < s.gs.length
 ·have t1:(decide ((g:Int) < (s.gs.length:Int)))=true:=by simpa using hg
  cases st:((Sx.gr s g).status != 0) with
  | true =>
   repeat (first | (refine K.store ?_;refine JO.ld (Ld.aP rfl rfl rfl (by exact rfl) (by exact rfl)) rfl (fun _=>?_)) | refine au ?_ | intro _)
   refine J.eF 0 ?_;exact (ih ⟨g + 1,by omega⟩ (by simp only;omega)).aU ⟨rfl,rfl,rfl,rfl,trivial⟩
  | false =>
  have rm:(Sx.gr s g).status=0:=by simpa using st
  have CO:=Cm s (Gp G);have C2:=Zh s g (Nh G hg);have BG:=Zm G hg;have CS:=y8 (cD s g).1 (Bd.fe BG (by omega));have FW:=Bd.fw BG (by omega);have C1:=fun b u hu=>Nw b u s g (Zg G hg) hu
  generalize cD s g=r at C1 C2 CS FW BG;obtain ⟨s2,o2⟩:=r;simp only at C1 C2 CS FW
  repeat (first | (refine K.store ?_;refine JO.ld (Ld.aP rfl rfl rfl (by exact rfl) (by exact rfl)) rfl (fun _=>?_)) | (refine K.binOp ?_;refine jq rfl rfl rfl (Qt.za zb rfl rfl) ?_) | (refine K.call ?_;refine JO.ld (Ld.bU CO (qb rfl) rfl (.cons .refl .nil)) rfl ?_;intro x) | refine au ?_ | intro _)
  obtain ⟨⟨b8,u⟩,hu⟩:=x;simp only at hu ⊢;have C1:=C1 b8 u hu
  repeat (first | (refine K.store ?_;refine JO.ld (Ld.aP rfl rfl rfl (by exact rfl) (by exact rfl)) rfl (fun _=>?_)) | (refine K.call ?_;(refine JO.ld (Ld.bU C1 (qb rfl) rfl (.cons .refl (.cons .refl .nil))) rfl ?_;intro y)) | refine au ?_ | intro _)
  have CT:=uu b8 y.1 s2 FW
  cases o2
  all_goals
   refine J.draw (by kernel_rfl) rfl ?_;refine JW.wh none ?_;refine tk 0 ?_;refine tk 1 ?_;refine tk 2 ?_;refine tk 3 ?_;refine tk 4 ?_;refine JD.cB (i:=5) (j:=6) (by kernel_rfl) ?_ ?_;refine JS.fF rfl rfl rfl (qb rfl) (Ld.bU CT (qb rfl) rfl (.cons .refl .nil)) (eu.aO) (fun _=>?_);refine jk 6 rfl rfl rfl rfl (Qt.fB rfl (by exact rfl)) ?_;refine JD.bk (i:=7) (by kernel_rfl) ?_;refine JS.fF rfl rfl rfl (qb rfl) (Ld.pure (CS) (qb rfl) rfl (by repeat (first | exact aL.nil | refine aL.cons (cQ.agg (by repeat (first | exact .nil | refine .cons .refl ?_))) ?_))) (eu.nil) (fun _=>?_);refine tk 8 ?_;refine jk 9 rfl rfl rfl rfl (Qt.pick rfl rfl) ?_;refine bH ?_
   rotate_left
   (refine JS.q rfl rfl rfl (qb rfl) (Qt.fB rfl (by exact rfl)) ?_)
   refine JD.bk (i:=5) (by kernel_rfl) ?_;refine JS.fF rfl rfl rfl (qb rfl) (Ld.bU CT (qb rfl) rfl (.cons .refl .nil)) (eu.aO) (fun _=>?_);refine JD.bk (i:=7) (by kernel_rfl) ?_;refine JS.fF rfl rfl rfl (qb rfl) (Ld.pure (CS) (qb rfl) rfl (by repeat (first | exact aL.nil | refine aL.cons (cQ.agg (by repeat (first | exact .nil | refine .cons .refl ?_))) ?_))) (eu.nil) (fun _=>?_);refine tk 8 ?_;refine jk 9 rfl rfl rfl rfl (Qt.pick rfl rfl) ?_;refine bH ?_
   rotate_left
   all_goals
    repeat (refine gn ?_)
    refine J.yX b8 ?_;refine J.eF 0 ?_;refine J.eF 0 ?_;exact (ih ⟨g + 1,by omega⟩ (by simp only;omega)).aU ⟨rfl,rfl,rfl,rfl,trivial⟩
 ·have t1:(decide ((g:Int) < (s.gs.length:Int)))=false:=by simpa using hg
  repeat (refine gn ?_)
  exact az Tryz.func6
theorem Zo (w:World) (cs:Array Value) (a:tq) (U:List Nat) (sz:cs.size=4) (he:rN w cs.toList a U) (oc:∀ y∈cs.toList,y.oneCell'=true) (v:Value) (l:List Int) (S:List Nat) (hl:GV (kz .i64) 1 w v l S) :
  Calls Tryz.prog 6 #[.agg cs,v] w fun e w'=>e=.returned (.bool true)∧aj [] w w' :=
 Nr (Zn a.p a.sn a.cn a.d l (Gt he)) he hl
end Fl
end Go.Proofs.YtofnbflkhgammaaGreat
