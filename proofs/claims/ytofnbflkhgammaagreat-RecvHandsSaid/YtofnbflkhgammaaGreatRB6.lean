/-
  What the laws need, part RB6.
  Conditions: none.
-/
import Derived.Test.YtofnbflkhgammaaGreatRB5
set_option linter.unusedVariables false
set_option linter.unusedSimpArgs false
set_option linter.unnecessarySimpa false
set_option maxHeartbeats 2000000
namespace Go.Proofs.YtofnbflkhgammaaGreat
open Go.RowKit
namespace Fl
open Sx Go.Proofs.Tryz
set_option maxRecDepth 100000
theorem abF (p:List (List Pn.Op)) (sn cn:Int) (d l:List Int) (hd:∀ x∈d,0≤x∧x < 65536) :
  Pure prog 13 [.agg (mO p sn cn d),.c (ints l)] (.c (bI true)):=by
 have CR:=Hr p sn cn d l hd;have HG:=Hq (p:=p) (sn:=sn) (cn:=cn) (l:=l) hd;generalize j8 p sn cn d l=r at CR HG;obtain ⟨s,o⟩:=r;refine ax.intro func13 rfl rfl rfl (fun ok e=>?_)
 cases o with
 | false =>
  repeat (first | (refine K.store ?_;refine JO.ld (Ld.aX rfl rfl rfl (by exact rfl) (by exact rfl)) rfl (fun _=>?_)) | refine kU (aaQ) ?_ | refine av ?_ | intro _)
  exact aA func13
 | true =>
 have G:Sx.Good s:=HG rfl;have BG:=xV G;have kJ:=BG.kJ;clear HG
 repeat (first | (refine K.store ?_;refine JO.ld (Ld.aX rfl rfl rfl (by exact rfl) (by exact rfl)) rfl (fun _=>?_)) | refine kU (aaQ) ?_ | refine av ?_ | intro _)
 rename_i b2 b5 _;refine J.loop (ι:={ k:Nat // k≤s.aC.length }) (fun q=>[(26,.c (nI q.1)),(25,.c (nI s.aC.length)),(24,.c (.r 7 (s.aC.map eS))),(5,.c (.v (pt b5)))]) (fun _=>[.box b5 36 (az s),.box b2 27 (mO p sn cn d)]) (fun q=>s.aC.length - q.1) ⟨0,Nat.zero_le _⟩ (fun X h=>h.aW ⟨rfl,rfl,rfl,rfl,trivial⟩) (fun q ih=>?_);obtain ⟨i,hk⟩:=q;simp only at hk ih ⊢
 by_cases hg:i < s.aC.length
 ·have t1:(decide ((i:Int) < (s.aC.length:Int)))=true:=decide_eq_true (by omega);have i0:(0:Int)≤(i:Int):=by omega
  have i1:(i:Int) < s.aC.length:=by omega
  have A1:=iu (s:=s) i0 i1;have CM:=fu s (su s i).ch;have CH:∀ b u,aN s (su s i).ch=true→∃ k,ax prog 46 [.c (.v (pt b)),.c (nI (su s i).ch),.c (nI i)] (wd b u s) (fun _:Unit=>(.c (nI (Sx.hand s ((k:Nat) + 1) i).2),wd b u (Sx.hand s ((k:Nat) + 1) i).1))∧(su s i).ch=(k:Nat) + 1:=fun b u hm=>by
   obtain ⟨k,hC⟩:=abC G hm;exact ⟨k,aaR b u s _ i k hC i0 i1,hC.e⟩
  have C2:=fun hm=>abE s (su s i).ch i hm (by have:=G.c8;omega) i0 i1 (by have:=(BG.cn (su s i).ch).bf;omega)
  generalize hd:su s i=dd at A1 CM CH C2;obtain ⟨lv,gg,ch,cs,sd,v,dn⟩:=dd;simp only at CM CH C2
  cases lv with
  | false =>
   repeat (first | (refine K.store ?_;refine JO.ld (Ld.aX rfl rfl rfl (by exact rfl) (by exact rfl)) rfl (fun _=>?_)) | refine av ?_ | intro _)
   refine J.eP 0 ?_;exact (ih ⟨i + 1,by omega⟩ (by simp only;omega)).aW ⟨rfl,rfl,rfl,rfl,trivial⟩
  | true =>
  cases sd with
  | false =>
   repeat (first | (refine K.store ?_;refine JO.ld (Ld.aX rfl rfl rfl (by exact rfl) (by exact rfl)) rfl (fun _=>?_)) | refine av ?_ | intro _)
   refine J.eP 0 ?_;exact (ih ⟨i + 1,by omega⟩ (by simp only;omega)).aW ⟨rfl,rfl,rfl,rfl,trivial⟩
  | true =>
  cases hm:aN s ch with
  | false =>
   rw [hm] at CM
   repeat (first | (refine K.store ?_;refine JO.ld (Ld.aX rfl rfl rfl (by exact rfl) (by exact rfl)) rfl (fun _=>?_)) | refine av ?_ | intro _)
   refine J.eP 0 ?_;exact (ih ⟨i + 1,by omega⟩ (by simp only;omega)).aW ⟨rfl,rfl,rfl,rfl,trivial⟩
  | true =>
  rw [hm] at CM;have CO:=Dm s (Hp G);have C2:=C2 hm;have CH:=fun b u=>CH b u hm
  have BH:=abD BG (c:=ch) (i:=i);have CS:=Iy (Sx.hand s ch i).1 (Bd.fe BH (by omega));have FW:=Bd.fw BH (by omega)
  repeat (first | (refine K.store ?_;refine JO.ld (Ld.aX rfl rfl rfl (by exact rfl) (by exact rfl)) rfl (fun _=>?_)) | (refine K.binOp ?_;refine jq rfl rfl rfl (Qt.BX BY rfl rfl) ?_) | (refine K.call ?_;(refine JO.ld (Ld.aV CO (qb rfl) rfl (.cons .refl .nil)) rfl ?_;intro x)) | refine av ?_ | intro _)
  obtain ⟨⟨b9,u⟩,hu⟩:=x;simp only at hu ⊢;obtain ⟨k,C1,ek⟩:=CH b9 u;rw [← ek] at C1;generalize Sx.hand s ch i=r at C1 C2 CS FW;obtain ⟨s2,v2⟩:=r;simp only at C1 C2 CS FW
  repeat (first | (refine K.store ?_;refine JO.ld (Ld.aX rfl rfl rfl (by exact rfl) (by exact rfl)) rfl (fun _=>?_)) | (refine K.call ?_;(refine JO.ld (Ld.aV C1 (qb rfl) rfl (.cons .refl (.cons .refl (.cons .refl .nil)))) rfl ?_;intro y)) | refine av ?_ | intro _)
  have CT:=BP b9 u s2 FW;have nv:(v2 != v2)=false:=by simp
  refine J.draw (by kernel_rfl) rfl ?_;refine JW.p7 none ?_;refine tk 0 ?_;refine tk 1 ?_;refine JD.take 2 rfl rfl (by kernel_rfl) rfl (qb rfl) (Qt.cmp rfl rfl (congrArg some nv)) rfl ?_;refine tk 3 ?_;refine tk 4 ?_;refine JD.cU (i:=5) (j:=6) (by kernel_rfl) ?_ ?_;refine JS.sW rfl rfl rfl (qb rfl) (Ld.aV CT (qb rfl) rfl (.cons .refl .nil)) (eW.aT) (fun _=>?_);refine jk 6 rfl rfl rfl rfl (Qt.sZ rfl (by exact rfl)) ?_;refine JD.bJ (i:=7) (by kernel_rfl) ?_;refine JS.sW rfl rfl rfl (qb rfl) (Ld.pure (CS) (qb rfl) rfl (by repeat (first | exact aK.nil | refine aK.cons (dB.agg (by repeat (first | exact .nil | refine .cons .refl ?_))) ?_))) (eW.nil) (fun _=>?_);refine tk 8 ?_;refine jk 9 rfl rfl rfl rfl (Qt.pick rfl rfl) ?_;refine bt ?_
  rotate_left
  (refine JS.q rfl rfl rfl (qb rfl) (Qt.sZ rfl (by exact rfl)) ?_)
  refine JD.bJ (i:=5) (by kernel_rfl) ?_;refine JS.sW rfl rfl rfl (qb rfl) (Ld.aV CT (qb rfl) rfl (.cons .refl .nil)) (eW.aT) (fun _=>?_);refine JD.bJ (i:=7) (by kernel_rfl) ?_;refine JS.sW rfl rfl rfl (qb rfl) (Ld.pure (CS) (qb rfl) rfl (by repeat (first | exact aK.nil | refine aK.cons (dB.agg (by repeat (first | exact .nil | refine .cons .refl ?_))) ?_))) (eW.nil) (fun _=>?_);refine tk 8 ?_;refine jk 9 rfl rfl rfl rfl (Qt.pick rfl rfl) ?_;refine bt ?_
  rotate_left
  all_goals
   repeat (refine gn ?_)
   refine J.CH b9 ?_;refine J.eP 0 ?_;refine J.eP 0 ?_;exact (ih ⟨i + 1,by omega⟩ (by simp only;omega)).aW ⟨rfl,rfl,rfl,rfl,trivial⟩
 ·have t1:(decide ((i:Int) < (s.aC.length:Int)))=false:=decide_eq_false (by omega)
  repeat (refine gn ?_)
  exact aA func13
theorem abH (w:World) (cs:Array Value) (a:sy) (U:List Nat) (sz:cs.size=4) (he:qP w cs.toList a U) (oc:∀ y∈cs.toList,y.oneCell'=true) (v:Value) (l:List Int) (S:List Nat) (hl:GV (kf .i64) 1 w v l S) :
  Calls prog 13 #[.agg cs,v] w fun e w'=>e=.returned (.bool true)∧aq [] w w' :=
 ID (abF a.p a.sn a.cn a.d l (Hs he)) he hl
end Fl
end Go.Proofs.YtofnbflkhgammaaGreat
