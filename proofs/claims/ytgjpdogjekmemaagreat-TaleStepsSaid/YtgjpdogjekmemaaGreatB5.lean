/-
  What the laws need, part B5.
  Conditions: none.
-/
import Derived.Test.YtgjpdogjekmemaaGreatB3
import Derived.Test.YtgjpdogjekmemaaGreatB4
set_option linter.unusedVariables false
set_option linter.unusedSimpArgs false
set_option linter.unnecessarySimpa false
set_option maxHeartbeats 2000000
namespace Go.Proofs.YtgjpdogjekmemaaGreat
open Go.RowKit
namespace Fl
open Sx Go.Proofs.Tryz
set_option maxRecDepth 100000
set_option maxHeartbeats 4000000
theorem Ay (s:ai) (g:Nat) (a b:Bool) (ha:((aa s g).place == 2)=a) (hb:((aa s g).place == 3)=b):Ta.tm s g=if (a || b)=true then { Sx.mark s g 0 with bS:=0 } else Sx.mark s g 0:=by
 unfold Ta.tm;rw [ha,hb];cases a <;> cases b <;> rfl
theorem FQ (s:ai) (hd:s.done.length≤500) (FR:s.gs.length≤8):Pure prog 9 [.agg (aC s)] (.c (.r 13 ((Ta.marks s).map eM))):=by
 have CC:=FO s.done (by omega);have CS:=fun v l hs=>FL (dV.pure FP) (fun _=>rfl) v l hs
 have lt:=Ta.qu s s.gs.length;refine aA.intro func9 rfl rfl rfl (fun ok e=>?_)
 repeat (first | (refine K.call ?_;rename_i b1;refine JO.ld (Ld.Fa (L':=fun x:Value=>[.row x 46 13 (s.done.map eM),.box b1 36 (aC s)]) CC (fun x=>rfl) (qb rfl) rfl (.cons .refl .nil)) rfl ?_;intro v0) | refine au ?_ | intro _)
 refine J.ep 1 ?_;refine J.loop (ι:={ q:Nat × Value // q.1≤s.gs.length }) (fun q=>[(13,.c (nI q.1.1)),(12,.c (nI s.gs.length)),(11,.c (.r 25 (s.gs.map eG))),(3,.c (.v q.1.2))]) (fun q=>[.row q.1.2 46 13 ((Ta.gD s q.1.1).map eM)]) (fun q=>s.gs.length - q.1.1) ⟨(0,v0),Nat.zero_le _⟩ (fun X h=>h.aF ⟨rfl,rfl,rfl,rfl,trivial⟩) (fun q ih=>?_);obtain ⟨⟨k,v⟩,kR⟩:=q;simp only at kR ih ⊢
 by_cases hk:k < s.gs.length
 ·have t1:decide ((k:Int) < (s.gs.length:Int))=true:=decide_eq_true (by omega);have AX:=fM hk;have fe:=Ta.qu s k;have n1:((Ta.gD s k).map eM).length=(Ta.gD s k).length:=List.length_map ..;have fs:Ta.gD s (k + 1)=Ta.gD s k ++ Ta.now s k:=rfl;have ev:Ta.now s k=if ((aa s k).call == 0)=true then [] else [Ta.tm s k]:=rfl
  generalize hE:(Ta.gD s k).map eM=E at n1 ⊢
  cases t2:((aa s k).call == 0) with
  | true =>
   rw [ev,t2,if_pos rfl,List.append_nil] at fs
   repeat (first | (refine K.store ?_;refine JO.ld (Ld.bu rfl rfl rfl (by exact rfl) (by exact rfl)) rfl (fun _=>?_)) | refine au ?_ | intro _)
   refine J.ep 0 ?_;refine J.bq ?_ ((ih ⟨(k + 1,v),by simp only;omega⟩ (by simp only;omega)).aF ⟨rfl,rfl,rfl,rfl,trivial⟩);simp only;rw [fs,hE]
  | false =>
   cases t3:((aa s k).place == 2) <;> cases t4:((aa s k).place == 3)
   all_goals
    rw [ev,t2,if_neg (by simp),Ay s k _ _ t3 t4] at fs
    repeat (first | (refine K.store ?_;first | refine JO.ld (Ld.bu rfl rfl rfl (by exact rfl) (by exact rfl)) rfl (fun _=>?_) | refine JO.ld (Ld.cW rfl rfl (by exact rfl)) rfl (fun _=>?_)) | (refine K.build ?_;refine jq rfl rfl rfl (((Qt.build rfl (by kernel_rfl)).eq (show _=D.agg (eM (Sx.mark s k 0)) from rfl))) ?_) | (refine K.lit ?_;refine JO.ld (Ld.mE (qb rfl) rfl rfl rfl rfl rfl) rfl (fun _=>?_)) | (refine K.bi ?_;refine JO.ld (Ld.bO (qb rfl) rfl rfl .read (by (simp;omega))) rfl (fun _=>?_)) | refine au ?_ | intro _)
    refine J.ep 1 ?_;refine J.ep 1 ?_;refine J.bq ?_ ((ih ⟨(k + 1,_),by simp only;omega⟩ (by simp only;omega)).aF ⟨rfl,rfl,rfl,rfl,trivial⟩);simp only;rw [fs,List.map_append,hE];rfl
 ·obtain rfl:k=s.gs.length:=by omega
  have t1:decide ((s.gs.length:Int) < (s.gs.length:Int))=false:=decide_eq_false (by omega)
  repeat (first | (refine K.call ?_;refine JO.ld (Ld.dP ((CS v (Ta.gD s s.gs.length) (by omega))) (qb rfl) rfl (by (exact bR.cons .refl (.cons .refl .nil)))) rfl ?_;intro _) | refine gn ?_)
  refine J.gy 2 rfl ?_;exact az func9
end Fl
end Go.Proofs.YtgjpdogjekmemaaGreat
