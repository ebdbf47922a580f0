/-
  What the laws need, part D50.
  Conditions: none.
-/
import Derived.Test.YtofnbflkhgammaaGreatD46
import Derived.Test.YtofnbflkhgammaaGreatD49
set_option linter.unusedVariables false
set_option linter.unusedSimpArgs false
set_option linter.unnecessarySimpa false
set_option maxHeartbeats 2000000
namespace Go.Proofs.YtofnbflkhgammaaGreat
open Go.RowKit
namespace Fl
open Sx Go.Proofs.Tryz
set_option maxRecDepth 100000
theorem Hx (b:Nat) (u:U) (s:ah) (g:Nat) (h:Dq s g) (hu:dG u s) :
  ax prog 38 [.c (.v (pt b)),.c (nI g)] (wd b u s) (fun x:{ u':U // dG u' (bu s g).1 }=>(.c (bI (bu s g).2),wd b x.1 (bu s g).1)):=by
 have hg:=h.cp.lt;haveI:Sx.bT g s:=⟨hg⟩
 have c8:=h.cp.c8;have O:=Hl b u s g hg h.cp.dh h.cp.oc;have CC:=Zf b u s g h.cp hu;refine ax.intro func38 rfl rfl rfl (fun ok e=>?_)
 by_cases hk:(ag s g).kind=2∨(ag s g).kind=4
 case neg =>
  have k2:((ag s g).kind != 2)=true:=by simp;omega
  have k4:((ag s g).kind != 4)=true:=by simp;omega
  have er:bu s g=(s,false):=by unfold bu;dsimp only;rw [if_pos (by omega)]
  rw [er]
  repeat (first | (refine K.call ?_;refine JO.ld (Ld.aV (O) (qb rfl) rfl (by (exact aK.cons .refl (.cons .refl .nil)))) rfl ?_;intro _) | refine av ?_ | intro _)
  (exact J.iN [_] rfl func38 rfl (.cons (.tmp rfl) .nil) ⟨u,hu⟩ (by exact .refl) rfl)
 have K:((ag s g).kind != 2)=false∨((ag s g).kind != 2)=true∧((ag s g).kind != 4)=false:=by
  rcases hk with k | k
  ·exact .inl (by rw [k];rfl)
  ·exact .inr ⟨by rw [k];rfl,by rw [k];rfl⟩
 by_cases hp:∀ p∈([1,2,5,6,7,8,9,10,11,14]:List Int),(aa s g).place≠p
 ·rw [OV hk hp];have N:∀ p,p∈([1,2,5,6,7,8,9,10,11,14]:List Int)→((aa s g).place == p)=false:=fun p m=>by simpa using hp p m
  have n1:=N 1 (by simp);have n2:=N 2 (by simp);have n5:=N 5 (by simp);have n6:=N 6 (by simp);have n7:=N 7 (by simp);have n8:=N 8 (by simp);have n9:=N 9 (by simp);have n10:=N 10 (by simp);have n11:=N 11 (by simp);have n14:=N 14 (by simp);rcases K with k2 | ⟨k2,k4⟩
  all_goals
   repeat (first | (refine K.load ?_;((refine jq rfl rfl rfl (Qt.cE rfl (bX) (by exact rfl)) ?_))) | (refine K.indexAddr ?_;refine jq rfl rfl rfl (Qt.bM rfl rfl eB eD) ?_) | (refine K.call ?_;first | (refine JO.ld (Ld.aV (O) (qb rfl) rfl (by (exact aK.cons .refl (.cons .refl .nil)))) rfl ?_;intro _) | (refine JO.ld (Ld.aV CC (qb rfl) rfl (.cons .refl (.cons .refl .nil))) rfl ?_;intro y)) | refine av ?_ | intro _)
   (exact J.iN [_,_] rfl func38 rfl (.cons (.tmp rfl) .nil) y (by exact .refl) rfl)
 have hq:(aa s g).place=1∨(aa s g).place=2∨(aa s g).place=5∨(aa s g).place=6∨(aa s g).place=7∨(aa s g).place=8∨(aa s g).place=9∨(aa s g).place=10∨(aa s g).place=11∨(aa s g).place=14:=by
  false_or_by_contra
  exact hp fun p m=>by simp only [List.mem_cons,List.not_mem_nil,or_false] at m;omega
 obtain ⟨k,hC⟩:=h.ch hk (by omega) (by omega) (by omega);have hm:aN s (ag s g).ch=true:=by
  have:=hC.e;have:=hC.k1;unfold aN;simp only [decide_eq_true_eq];omega
 have he:=hC.e;have me:common s g=(s,false):=OU fun p m=>by simp only [List.mem_cons,List.not_mem_nil,or_false] at m;omega
 have k8:=hC.k8;have er:=ZR hk me hm he;rcases hq with e | e | e | e | e | e | e | e | e | e
 all_goals
  simp only [e,Int.reduceEq,if_true,if_false] at er;rw [er]
 ·have P:∀ c,((aa s g).place == c)=((1:Int) == c):=fun c=>by rw [e]
  have C1:=ZK b u s g k (ag s g) hg hC;have hv:dG u (if Sx.room (cn s ((k:Int) + 1))=true then Sx.aI s g 4 else bH s g (aa s g).res 2):=by unfold bH;split <;> exact hu.to
  rcases K with k2 | ⟨k2,k4⟩
  all_goals
   repeat (first | (refine K.load ?_;((refine jq rfl rfl rfl (Qt.cE rfl (bX) (by exact rfl)) ?_))) | (refine K.indexAddr ?_;refine jq rfl rfl rfl (Qt.bM rfl rfl eB eD) ?_) | refine aL (P _) ?_ | (refine K.call ?_;first | (refine JO.ld (Ld.aV (O) (qb rfl) rfl (by (exact aK.cons .refl (.cons .refl .nil)))) rfl ?_;intro _) | (refine JO.ld (Ld.aV (C1) (qb rfl) rfl (aK.cons .refl .nil)) rfl ?_;intro _)) | refine av ?_ | intro _)
   (exact J.iN [_,_] rfl func38 rfl (.cons (.tmp rfl) .nil) ⟨u,hv⟩ (by exact .refl) rfl)
 ·have P:∀ c,((aa s g).place == c)=((2:Int) == c):=fun c=>by rw [e]
  have C1:=ZL b u s g k (ag s g) hg hC;have hv:dG u (if (cn s ((k:Int) + 1)).closed=true then ai s g { aa s g with bQ:=0,place:=4 } else ai s g { aa s g with res:={ (aa s g).res with code:=2 },place:=18 }):=by split <;> exact hu.to
  rcases K with k2 | ⟨k2,k4⟩
  all_goals
   repeat (first | (refine K.load ?_;((refine jq rfl rfl rfl (Qt.cE rfl (bX) (by exact rfl)) ?_))) | (refine K.indexAddr ?_;refine jq rfl rfl rfl (Qt.bM rfl rfl eB eD) ?_) | refine aL (P _) ?_ | (refine K.call ?_;first | (refine JO.ld (Ld.aV (O) (qb rfl) rfl (by (exact aK.cons .refl (.cons .refl .nil)))) rfl ?_;intro _) | (refine JO.ld (Ld.aV (C1) (qb rfl) rfl (aK.cons .refl .nil)) rfl ?_;intro _)) | refine av ?_ | intro _)
   (exact J.iN [_,_] rfl func38 rfl (.cons (.tmp rfl) .nil) ⟨u,hv⟩ (by exact .refl) rfl)
 ·have P:∀ c,((aa s g).place == c)=((5:Int) == c):=fun c=>by rw [e]
  have C1:=ZM b u s g k (ag s g) hg hC;have hv:dG u (if (cn s ((k:Int) + 1)).closed=true then bH s g (Sx.res 3) 16 else Sx.aI s g 6):=by unfold bH;split <;> exact hu.to
  rcases K with k2 | ⟨k2,k4⟩
  all_goals
   repeat (first | (refine K.load ?_;((refine jq rfl rfl rfl (Qt.cE rfl (bX) (by exact rfl)) ?_))) | (refine K.indexAddr ?_;refine jq rfl rfl rfl (Qt.bM rfl rfl eB eD) ?_) | refine aL (P _) ?_ | (refine K.call ?_;first | (refine JO.ld (Ld.aV (O) (qb rfl) rfl (by (exact aK.cons .refl (.cons .refl .nil)))) rfl ?_;intro _) | (refine JO.ld (Ld.aV (C1) (qb rfl) rfl (aK.cons .refl .nil)) rfl ?_;intro _)) | refine av ?_ | intro _)
   (exact J.iN [_,_] rfl func38 rfl (.cons (.tmp rfl) .nil) ⟨u,hv⟩ (by exact .refl) rfl)
 ·have P:∀ c,((aa s g).place == c)=((6:Int) == c):=fun c=>by rw [e]
  have l6:=h.l6 hk e;rw [he] at l6;have RC:=OQ b g k (ag s g) he (by omega);have C1:=OP b u s g (2 * ((k:Int) + 1) - 2) 7 8 (cn s ((k:Int) + 1)).recv hg h.qs (BO (by omega)) l6;have CG:=nN b u s g (ag s g) 9;unfold rj at C1
  cases hl:(cn s ((k:Int) + 1)).recv with
  | nil =>
   rw [hl,if_pos (show ([]:List Int).length=0 from rfl)] at C1;rw [if_pos (show ([]:List Int).length=0 from rfl)];have hv:dG u (Sx.aI s g 9):=hu.to;rcases K with k2 | ⟨k2,k4⟩
   all_goals
    repeat (first | (refine K.load ?_;((refine jq rfl rfl rfl (Qt.cE rfl (bX) (by exact rfl)) ?_))) | (refine K.indexAddr ?_;refine jq rfl rfl rfl (Qt.bM rfl rfl eB eD) ?_) | refine aL (P _) ?_ | (refine K.call ?_;first | (refine JO.ld (Ld.aV (O) (qb rfl) rfl (by (exact aK.cons .refl (.cons .refl .nil)))) rfl ?_;intro _) | (refine JO.pure RC rfl (qb rfl) rfl (.cons .refl .nil) ?_) | (refine JO.ld (Ld.aV C1 (qb rfl) rfl (.cons .refl (.cons .refl (.cons .refl (.cons .refl (.cons .refl .nil)))))) rfl ?_;intro _) | (refine JO.ld (Ld.aV (CG) (qb rfl) rfl (by (exact aK.cons .refl (.cons .refl .nil)))) rfl ?_;intro _)) | refine av ?_ | intro _)
    (exact J.iN [_,_] rfl func38 rfl (.cons (.tmp rfl) .nil) ⟨u,hv⟩ (by exact .refl) rfl)
  | cons i r =>
   rw [hl,if_neg (by simp)] at C1;rw [if_neg (by simp)];have hv:dG u (taken s g ((i :: r).headD 0) 7 8):=by unfold taken;split <;> exact hu.to
   rcases K with k2 | ⟨k2,k4⟩
   all_goals
    repeat (first | (refine K.load ?_;((refine jq rfl rfl rfl (Qt.cE rfl (bX) (by exact rfl)) ?_))) | (refine K.indexAddr ?_;refine jq rfl rfl rfl (Qt.bM rfl rfl eB eD) ?_) | refine aL (P _) ?_ | (refine K.call ?_;first | (refine JO.ld (Ld.aV (O) (qb rfl) rfl (by (exact aK.cons .refl (.cons .refl .nil)))) rfl ?_;intro _) | (refine JO.pure RC rfl (qb rfl) rfl (.cons .refl .nil) ?_) | (refine JO.ld (Ld.aV C1 (qb rfl) rfl (.cons .refl (.cons .refl (.cons .refl (.cons .refl (.cons .refl .nil)))))) rfl ?_;intro _)) | refine av ?_ | intro _)
    (exact J.iN [_,_] rfl func38 rfl (.cons (.tmp rfl) .nil) ⟨u,hv⟩ (by exact .refl) rfl)
 ·have P:∀ c,((aa s g).place == c)=((7:Int) == c):=fun c=>by rw [e]
  obtain ⟨o,ho⟩:=h.l7 hk (.inl e);have C1:=ZB b u s g o 6 8 hg ho h.qs;have hv:dG u (cQ s g 6 8):=by unfold cQ;dsimp only;split <;> exact hu.to
  rcases K with k2 | ⟨k2,k4⟩
  all_goals
   repeat (first | (refine K.load ?_;((refine jq rfl rfl rfl (Qt.cE rfl (bX) (by exact rfl)) ?_))) | (refine K.indexAddr ?_;refine jq rfl rfl rfl (Qt.bM rfl rfl eB eD) ?_) | refine aL (P _) ?_ | (refine K.call ?_;first | (refine JO.ld (Ld.aV (O) (qb rfl) rfl (by (exact aK.cons .refl (.cons .refl .nil)))) rfl ?_;intro _) | (refine JO.ld (Ld.aV (C1) (qb rfl) rfl (by (exact aK.cons .refl (.cons .refl (.cons .refl (.cons .refl .nil)))))) rfl ?_;intro _)) | refine av ?_ | intro _)
   (exact J.iN [_,_] rfl func38 rfl (.cons (.tmp rfl) .nil) ⟨u,hv⟩ (by exact .refl) rfl)
 ·have P:∀ c,((aa s g).place == c)=((8:Int) == c):=fun c=>by rw [e]
  obtain ⟨o,ho⟩:=h.l7 hk (.inr e);have C1:=ZN b u s g o (ag s g) hg ho h.qs h.wk;have hv:∀ v,dG (kM u g v) (ai (gL s g (ag s g).v) g { aa (gL s g (ag s g).v) g with res:=jG,place:=16 }):=fun v=>dG.wk (by unfold gL;exact hu.to)
  rcases K with k2 | ⟨k2,k4⟩
  all_goals
   repeat (first | (refine K.load ?_;((refine jq rfl rfl rfl (Qt.cE rfl (bX) (by exact rfl)) ?_))) | (refine K.indexAddr ?_;refine jq rfl rfl rfl (Qt.bM rfl rfl eB eD) ?_) | refine aL (P _) ?_ | (refine K.call ?_;first | (refine JO.ld (Ld.aV (O) (qb rfl) rfl (by (exact aK.cons .refl (.cons .refl .nil)))) rfl ?_;intro _) | (refine JO.ld (Ld.aV C1 (qb rfl) rfl (.cons .refl .nil)) rfl ?_;intro v)) | refine av ?_ | intro _)
   (exact J.iN [_,_] rfl func38 rfl (.cons (.tmp rfl) .nil) ⟨kM u g v,hv v⟩ (by exact .refl) rfl)
 ·have P:∀ c,((aa s g).place == c)=((9:Int) == c):=fun c=>by rw [e]
  have C1:=ZO b u s g k (ag s g) hg hC;have hv:dG u (qf s g (ag s g) ((k:Int) + 1)):=by unfold qf bH;split;exact hu.to;split <;> exact hu.to
  rcases K with k2 | ⟨k2,k4⟩
  all_goals
   repeat (first | (refine K.load ?_;((refine jq rfl rfl rfl (Qt.cE rfl (bX) (by exact rfl)) ?_))) | (refine K.indexAddr ?_;refine jq rfl rfl rfl (Qt.bM rfl rfl eB eD) ?_) | refine aL (P _) ?_ | (refine K.call ?_;first | (refine JO.ld (Ld.aV (O) (qb rfl) rfl (by (exact aK.cons .refl (.cons .refl .nil)))) rfl ?_;intro _) | (refine JO.ld (Ld.aV (C1) (qb rfl) rfl (aK.cons .refl .nil)) rfl ?_;intro _)) | refine av ?_ | intro _)
   (exact J.iN [_,_] rfl func38 rfl (.cons (.tmp rfl) .nil) ⟨u,hv⟩ (by exact .refl) rfl)
 ·have P:∀ c,((aa s g).place == c)=((10:Int) == c):=fun c=>by rw [e]
  have uj:=h.uj e;rw [← he];have C1:=ZC b u s g ⟨true,g,(ag s g).ch,-1,true,(ag s g).v,false⟩ hg hu h.cp.fr uj.1 uj.2;rcases K with k2 | ⟨k2,k4⟩
  all_goals
   repeat (first | (refine K.load ?_;((refine jq rfl rfl rfl (Qt.cE rfl (bX) (by exact rfl)) ?_))) | (refine K.indexAddr ?_;refine jq rfl rfl rfl (Qt.bM rfl rfl eB eD) ?_) | refine aL (P _) ?_ | (refine K.call ?_;first | (refine JO.ld (Ld.aV (O) (qb rfl) rfl (by (exact aK.cons .refl (.cons .refl .nil)))) rfl ?_;intro _) | (refine JO.ld (Ld.aV C1 (qb rfl) rfl (.cons .refl (.cons .refl (.cons .refl .nil)))) rfl ?_;intro y)) | refine av ?_ | intro _)
   (exact J.iN [_,_] rfl func38 rfl (.cons (.tmp rfl) .nil) y (by exact .refl) rfl)
 ·have P:∀ c,((aa s g).place == c)=((11:Int) == c):=fun c=>by rw [e]
  obtain ⟨m0,m1,mn⟩:=h.ZQ hk e;have C1:=W1 b u h.qs hC.k1 (aa s g).aH m0 m1 mn;have w1:IntKind.i64.wrap (2 * (ag s g).ch)=2 * ((k:Int) + 1):=by rw [he];exact eL (by omega) (by omega)
  have w2:IntKind.i64.wrap (2 * ((k:Int) + 1) - 1)=2 * ((k:Int) + 1) - 1:=eL (by omega) (by omega);have hv:dG u (ai (aE s ((k:Int) + 1) { cn s ((k:Int) + 1) with send:=(cn s ((k:Int) + 1)).send ++ [(aa s g).aH] }) g { aa s g with ic:=s.step,place:=12 }):=hu.to;have e3:ai (aE s ((k:Int) + 1) { cn s ((k:Int) + 1) with send:=(cn s ((k:Int) + 1)).send ++ [(aa s g).aH] }) g { aa s g with ic:=s.step,place:=12 }=bg (bg (aE s ((k:Int) + 1) { cn s ((k:Int) + 1) with send:=(cn s ((k:Int) + 1)).send ++ [(aa s g).aH] }) g fun x=>{ x with ic:=(aE s ((k:Int) + 1) { cn s ((k:Int) + 1) with send:=(cn s ((k:Int) + 1)).send ++ [(aa s g).aH] }).step }) g fun x=>{ x with place:=12 }:=by
   rw [kL Sx.bT.h];rfl
  rw [e3] at hv ⊢;have sq:g < (aE s ((k:Int) + 1) { cn s ((k:Int) + 1) with send:=(cn s ((k:Int) + 1)).send ++ [(aa s g).aH] }).gs.length:=hg;generalize aE s ((k:Int) + 1) { cn s ((k:Int) + 1) with send:=(cn s ((k:Int) + 1)).send ++ [(aa s g).aH] }=S1 at C1 hv sq ⊢;haveI:Sx.bT g S1:=⟨sq⟩
  have CG:=nN b u (bg S1 g fun x=>{ x with ic:=S1.step }) g (ag s g) 12;rcases K with k2 | ⟨k2,k4⟩
  all_goals
   repeat (first | (refine K.load ?_;((refine jq rfl rfl rfl (Qt.cE rfl (bX) (by exact rfl)) ?_))) | (refine K.indexAddr ?_;refine jq rfl rfl rfl (Qt.bM rfl rfl eB eD) ?_) | refine aL (P _) ?_ | (refine K.call ?_;refine JO.ld (Ld.aV (O) (qb rfl) rfl (by (exact aK.cons .refl (.cons .refl .nil)))) rfl ?_;intro _) | refine av ?_ | intro _)
   refine J.oQ 6 rfl ?_;refine J.oQ 5 rfl ?_;refine J.draw (by kernel_rfl) rfl ?_;refine JW.p7 none ?_;refine tk 0 ?_;refine tk 1 ?_;refine tk 2 ?_;refine tk 4 ?_;refine tk 5 ?_;refine JD.take 6 rfl rfl (by kernel_rfl) rfl (qb rfl) (Qt.dj rfl rfl rfl w1) rfl ?_;refine JD.take 7 rfl rfl (by kernel_rfl) rfl (qb rfl) (Qt.dj rfl rfl rfl w2) rfl ?_;refine tk 8 ?_;refine tk 9 ?_;refine tk 10 ?_;refine tk 12 ?_;refine JD.cU (i:=3) (j:=11) (by kernel_rfl) ?_ ?_
   (refine JS.qB rfl rfl rfl (qb rfl) (Qt.fR rfl (by exact rfl)) ?_)
   refine JD.bJ (i:=11) (by kernel_rfl) ?_
   (refine JS.qB rfl rfl rfl (qb rfl) (Qt.fR rfl (by exact rfl)) ?_)
   refine JD.bJ (i:=13) (by kernel_rfl) ?_;refine JS.qB rfl rfl rfl (qb rfl) (Qt.bM rfl rfl eB eD) ?_;refine tk 14 ?_;refine JD.bJ (i:=15) (by kernel_rfl) ?_;refine JS.qB rfl rfl rfl (qb rfl) (Qt.cE rfl bX rfl) ?_;refine JD.bJ (i:=16) (by kernel_rfl) ?_;refine JS.jS rfl rfl rfl (qb rfl) (Ld.aV C1 (qb rfl) rfl (.cons .refl (.cons .refl (.cons .refl .nil)))) (eW.aT) (fun _=>?_);refine bt ?_
   rotate_left
   (refine JS.qB rfl rfl rfl (qb rfl) (Qt.fR rfl (by exact rfl)) ?_)
   refine JD.cU (i:=3) (j:=13) (by kernel_rfl) ?_ ?_
   (refine JS.qB rfl rfl rfl (qb rfl) (Qt.fR rfl (by exact rfl)) ?_)
   refine JD.bJ (i:=13) (by kernel_rfl) ?_;refine JS.qB rfl rfl rfl (qb rfl) (Qt.bM rfl rfl eB eD) ?_;refine tk 14 ?_;refine JD.bJ (i:=15) (by kernel_rfl) ?_;refine JS.qB rfl rfl rfl (qb rfl) (Qt.cE rfl bX rfl) ?_;refine JD.bJ (i:=16) (by kernel_rfl) ?_;refine JS.jS rfl rfl rfl (qb rfl) (Ld.aV C1 (qb rfl) rfl (.cons .refl (.cons .refl (.cons .refl .nil)))) (eW.aT) (fun _=>?_);refine bt ?_
   rotate_left
   refine JS.qB rfl rfl rfl (qb rfl) (Qt.bM rfl rfl eB eD) ?_;refine tk 14 ?_;refine JD.cU (i:=3) (j:=15) (by kernel_rfl) ?_ ?_
   (refine JS.qB rfl rfl rfl (qb rfl) (Qt.fR rfl (by exact rfl)) ?_)
   refine JD.bJ (i:=15) (by kernel_rfl) ?_;refine JS.qB rfl rfl rfl (qb rfl) (Qt.cE rfl bX rfl) ?_;refine JD.bJ (i:=16) (by kernel_rfl) ?_;refine JS.jS rfl rfl rfl (qb rfl) (Ld.aV C1 (qb rfl) rfl (.cons .refl (.cons .refl (.cons .refl .nil)))) (eW.aT) (fun _=>?_);refine bt ?_
   rotate_left
   refine JS.qB rfl rfl rfl (qb rfl) (Qt.cE rfl bX rfl) ?_;refine JD.bJ (i:=3) (by kernel_rfl) ?_
   (refine JS.qB rfl rfl rfl (qb rfl) (Qt.fR rfl (by exact rfl)) ?_)
   refine JD.bJ (i:=16) (by kernel_rfl) ?_;refine JS.jS rfl rfl rfl (qb rfl) (Ld.aV C1 (qb rfl) rfl (.cons .refl (.cons .refl (.cons .refl .nil)))) (eW.aT) (fun _=>?_);refine bt ?_
   rotate_left
   all_goals
    repeat ((refine J.seq ?_))
    refine J.draw (by kernel_rfl) rfl ?_;refine JW.base (some 11) ?_;refine tk 0 ?_;refine tk 1 ?_;refine tk 2 ?_;refine tk 3 ?_;refine tk 4 ?_;refine tk 5 ?_;refine tk 6 ?_;refine tk 7 ?_;refine tk 8 ?_;refine JD.qv 9 rfl rfl (by kernel_rfl) rfl (qb rfl) (Qt.bM rfl rfl eB eD) rfl ?_;refine tk 10 ?_;refine jt 11 rfl rfl (Ld.dK rfl rfl (by exact rfl) bX) (fun _=>?_);refine bS ?_;refine J.eK b g (fun x=>{ x with ic:=S1.step }) (by exact rfl) ?_
    repeat (first | (refine K.call ?_;refine JO.ld (Ld.aV (CG) (qb rfl) rfl (by (exact aK.cons .refl (.cons .refl .nil)))) rfl ?_;intro _) | refine gn ?_)
    (exact J.iG func38 rfl (.cons (.tmp rfl) .nil) ⟨u,hv⟩ (by exact .refl) rfl)
 ·have P:∀ c,((aa s g).place == c)=((14:Int) == c):=fun c=>by rw [e]
  have qX:=h.qX hk e;have C1:=ZP b u s g (ag s g) hg qX.1 qX.2;have hv:dG u (ai s g { aa s g with res:=if (su s (aa s g).param).done=true then jG else Sx.res 3,param:=-1,place:=15 }):=hu.to;rcases K with k2 | ⟨k2,k4⟩
  all_goals
   repeat (first | (refine K.load ?_;((refine jq rfl rfl rfl (Qt.cE rfl (bX) (by exact rfl)) ?_))) | (refine K.indexAddr ?_;refine jq rfl rfl rfl (Qt.bM rfl rfl eB eD) ?_) | refine aL (P _) ?_ | (refine K.call ?_;first | (refine JO.ld (Ld.aV (O) (qb rfl) rfl (by (exact aK.cons .refl (.cons .refl .nil)))) rfl ?_;intro _) | (refine JO.ld (Ld.aV (C1) (qb rfl) rfl (aK.cons .refl .nil)) rfl ?_;intro _)) | refine av ?_ | intro _)
   (exact J.iN [_,_] rfl func38 rfl (.cons (.tmp rfl) .nil) ⟨u,hv⟩ (by exact .refl) rfl)
end Fl
open Go.RowKit
namespace Sx
def gj:Pn.Op:=⟨2,1,0,9,[],false⟩
def OX:Gr:=⟨[gj],0,4,0,false,1,false,-1,-1,-1,0,0,0,-1,-1,⟨0,-1,0,false,0⟩,[],[],[],[],0⟩
def OY:Cn:=⟨1,[],false,-1,[],[]⟩
def ZT:ah:=⟨0,1,1,[OX],[OY],[],[[]],[],0,[],0,[]⟩
def se:Nat→ah
 | 0=>ZT
 | n + 1=>(bu (se n) 0).1
end Sx
namespace Fl
open Sx Go.Proofs.Tryz
set_option maxRecDepth 100000
def AL (s:ah) (g:Nat):Bool :=
 Dp s g && uo s && decide ((aa s g).an.length≤1000∧1≤(ag s g).ch∧(ag s g).ch≤s.au.length∧0≤(cn s (ag s g).ch).cap∧((cn s (ag s g).ch).buf.length:Int)≤(cn s (ag s g).ch).cap∧(cn s (ag s g).ch).recv=[])
  && ([7,8,10,11,14]:List Int).all (fun p=>decide ((aa s g).place≠p))
theorem AL.ok {s:ah} {g:Nat} (h:AL s g=true):Dq s g:=by
 unfold AL at h;simp only [Bool.and_eq_true,decide_eq_true_eq,List.all_eq_true] at h;obtain ⟨⟨⟨h1,h2⟩,a1,a2,a3,a4,a5,a6⟩,h4⟩:=h;have C:=Dp.ok h1;have c8:=C.c8;have n:∀ p,p∈([7,8,10,11,14]:List Int)→(aa s g).place≠p:=h4;refine ⟨C,uo.qs h2,a1,fun _ _ _ _=>⟨((ag s g).ch - 1).toNat,by omega,by omega,by omega,?_,?_⟩,fun _ _ i r hr=>(by rw [a6] at hr;cases hr),fun _ e=>?_,fun e=>absurd e (n 10 (by simp)),fun _ e=>absurd e (n 11 (by simp)),fun _ e=>absurd e (n 14 (by simp))⟩
 ·rw [show ((((ag s g).ch - 1).toNat:Nat):Int) + 1=(ag s g).ch by omega];exact a4
 ·rw [show ((((ag s g).ch - 1).toNat:Nat):Int) + 1=(ag s g).ch by omega];exact a5
 ·rcases e with e | e
  ·exact absurd e (n 7 (by simp))
  ·exact absurd e (n 8 (by simp))
theorem ZU:∀ n:Nat,n < 5→AL (se n) 0=true∧(bu (se n) 0).2=true∧(aa (se (n + 1)) 0).place=([5,6,9,16,18]:List Int).getD n 0∧(se (n + 1)).gs.length=1:=by
 intro n hn
 match n,hn with
 | 0,_=>decide +kernel
 | 1,_=>decide +kernel
 | 2,_=>decide +kernel
 | 3,_=>decide +kernel
 | 4,_=>decide +kernel
theorem ZV:∀ n:Nat,n < 5→(([5,6,9,16,18]:List Int).map fun n=>[nI n])[((n:Nat):Int).toNat]?=some [nI (([5,6,9,16,18]:List Int).getD n 0)]:=by
 intro n hn
 match n,hn with
 | 0,_=>rfl
 | 1,_=>rfl
 | 2,_=>rfl
 | 3,_=>rfl
 | 4,_=>rfl
theorem xX:Pure prog 37 [] (.c (bI true)):=by
 have CO:=Dm (se 0) (Dn.ok (by decide +kernel));refine ax.intro func37 rfl rfl rfl (fun ok e=>?_)
 repeat (first | (refine K.binOp ?_;first | refine jq rfl rfl rfl (Qt.BX BY rfl rfl) ?_ | refine aL (show ((((fB x.1.2 (se 0)).length:Nat):Int) != 1)=false from rfl) ?_) | (refine K.call ?_;refine JO.ld (Ld.aV CO (qb rfl) rfl (.cons (.agg (.of (by kernel_rfl))) .nil)) rfl ?_;intro x) | (refine K.lit ?_;first | (refine JO.ld (Ld.w9 (mm:=[dH gj]) (qb rfl) rfl rfl rfl rfl rfl rfl (.of (by exact rfl))) rfl (fun _=>?_)) | (refine JO.ld (Ld.w9 (mm:=[eG OX]) (qb rfl) rfl rfl rfl rfl rfl rfl (.of (by exact rfl))) rfl (fun _=>?_)) | (refine JO.ld (Ld.w9 (mm:=[eC OY]) (qb rfl) rfl rfl rfl rfl rfl rfl (.of (by exact rfl))) rfl (fun _=>?_)) | (refine JO.ld (Ld.w9 (mm:=[[ints []]]) (qb rfl) rfl rfl rfl rfl rfl rfl (.of (by exact rfl))) rfl (fun _=>?_)) | (refine JO.ld (Ld.w9 (mm:=([5,6,9,16,18]:List Int).map fun n=>[nI n]) (qb rfl) rfl rfl rfl rfl rfl rfl (.of (by exact rfl))) rfl (fun _=>?_))) | refine av ?_ | intro _)
 obtain ⟨⟨b3,u⟩,hu⟩:=x;simp only at hu ⊢;refine J.eP 0 ?_;refine J.loop (ι:={ q:Nat × U // q.1≤5∧dG q.2 (se q.1)∧(se q.1).gs.length=1 }) (fun q=>[(30,.c (nI q.1.1)),(29,.c (nI 5)),(28,.c (ints [5,6,9,16,18])),(2,.c (.v (pt b3)))]) (fun q=>wd b3 q.1.2 (se q.1.1)) (fun q=>5 - q.1.1) ⟨(0,u),by omega,hu,rfl⟩ (fun X h=>h.aW ⟨rfl,rfl,rfl,rfl,trivial⟩) (fun q ih=>?_);obtain ⟨⟨n,v⟩,hn,hv,hl⟩:=q;simp only at hn hv hl ih ⊢
 by_cases h5:n < 5
 ·have t1:(decide ((n:Int) < 5))=true:=decide_eq_true (by omega);obtain ⟨f1,f2,f3,f4⟩:=ZU n h5;have C1:=Hx b3 v (se n) 0 (AL.ok f1) hv;rw [f2] at C1;have A1:=ZV n h5;haveI:Sx.bT 0 (se (n + 1)):=⟨by omega⟩
  have t2:((aa (se (n + 1)) 0).place != ([5,6,9,16,18]:List Int).getD n 0)=false:=by rw [f3];simp
  repeat (first | (refine K.load ?_;((refine jq rfl rfl rfl (Qt.cE rfl (bX (g:=0) (s:=se (n + 1))) (by exact rfl)) ?_))) | (refine K.indexAddr ?_;refine jq rfl rfl rfl (Qt.bM rfl rfl (eB (g:=0)) (eD (g:=0) (s:=se (n + 1)))) ?_) | (refine K.call ?_;refine JO.ld (Ld.aV C1 (qb rfl) rfl (.cons .refl (.cons .refl .nil))) rfl ?_;intro y) | refine gn ?_)
  exact (ih ⟨(n + 1,y.1),by omega,y.2,f4⟩ (by simp only;omega)).aW ⟨rfl,rfl,rfl,rfl,trivial⟩
 ·have t1:(decide ((n:Int) < 5))=false:=decide_eq_false (by omega);have e5:n=5:=by omega
  subst e5;have CT:=BP b3 v (se 5) (AK.fw (by decide +kernel));have q1:(((se 5).au.length:Int) == 1)=true:=by decide +kernel
  have A2:((se 5).au.map eC)[((0:Int)).toNat]?=some (eC ⟨1,[9],false,-1,[],[]⟩):=by kernel_rfl
  have er:(aa (se 5) 0).res=⟨1,-1,0,true,0⟩:=by kernel_rfl
  have A3:((se 5).gs.map eG)[((0:Int)).toNat]?=some (eG { aa (se 5) 0 with res:=⟨1,-1,0,true,0⟩ }):=by rw [← er];exact iz (by decide +kernel)
  have A4:(([9]:List Int).map fun n=>[nI n])[((0:Int)).toNat]?=some [nI 9]:=rfl;have q2:(((9:Int)) == 9)=true:=rfl;have q3:(((([9]:List Int).length:Nat):Int) == 1)=true:=rfl
  repeat (first | (refine K.binOp ?_;refine jq rfl rfl rfl (Qt.FA [.int .i64 1,.int .i64 (-1),.int .i64 0,.bool true,.int .i64 0] rfl rfl (fun w=>FF w _ _ _ _ _) FD) ?_) | (refine K.call ?_;refine JO.ld (Ld.aV CT (qb rfl) rfl (.cons .refl .nil)) rfl ?_;intro _) | refine av ?_ | intro _)
  exact aA func37
end Fl
end Go.Proofs.YtofnbflkhgammaaGreat
