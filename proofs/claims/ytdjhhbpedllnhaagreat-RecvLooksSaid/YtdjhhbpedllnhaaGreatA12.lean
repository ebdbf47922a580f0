/-
  What the laws need, part A12.
  Conditions: none.
-/
import Derived.Test.YtdjhhbpedllnhaaGreatA11
set_option linter.unusedVariables false
set_option linter.unusedSimpArgs false
set_option linter.unnecessarySimpa false
set_option maxHeartbeats 2000000
namespace Go.Proofs.YtdjhhbpedllnhaaGreat
open Go.RowKit
namespace Fl
open Sx
set_option maxRecDepth 100000
theorem Fy (b:Nat) (u:U) (s:ah) (F:Fw s) :
  av Tryz.prog 15 [.c (.v (pt b))] (wd b u s) (fun _:Unit=>(.agg (aD s),wd b u s)):=by
 have f1:=F.su;have f2:=F.dn;have f3:=F.dr;have f4:=F.fr;have z:((s.fresh.toNat:Nat):Int)=s.fresh:=by omega
 have CM:=TD u.pP s.dh.toNat s.bP.toNat (ez u s) u.TP F.mb;have CF:=TF u.pP s.dh.toNat s.bP.toNat (ez u s) u.TP;rw [show (((ez u s).f:Nat):Int)=s.fresh from z] at CF;have CD:av Tryz.prog 55 [.c (.v (pt u.bD))] [.box u.bD 130 [dW s,nI s.drawn]] (fun _:Unit=>(.c (nI s.drawn),[.box u.bD 130 [dW s,nI s.drawn]])):=TM u.bD s.dG s.drawn;refine av.intro Tryz.func15 rfl rfl rfl (fun ok e=>?_)
 repeat (first | refine J.seq ?_ | (refine J.region ?_;refine JO.alloc rfl (qb rfl) ?_;intro b2;refine JO.nil ?_))
 refine J.join (ι:=Nat) (fun b3=>[(3,.c (.v (pt b3))),(2,.c (.v (pt b2))),(0,.c (.v (pt b)))]) (fun b3=>.box b3 36 (Fx s (.v (.slice none 0 0)) (.v (.slice none 0 0)) (.v (.slice none 0 0))) :: .box b2 36 rQ :: wd b u s) (fun b3=>?rest) (fun rest=>?_)
 case rest =>
  repeat (first | (refine K.bi ?_;refine jq rfl rfl rfl (Qt.BP 3 rfl rfl (wS u s)) ?_) | refine gn ?_)
  refine J.oG 47 25 ?_;refine J.oG 28 1 ?_;refine J.loop (ι:={ q:Nat × Value × Value // q.1≤s.gs.length }) (fun q=>[(52,.c (nI q.1.1)),(51,.c (nI s.gs.length)),(50,.c (.v u.vG)),(3,.c (.v (pt b3))),(2,.c (.v (pt b2))),(0,.c (.v (pt b)))]) (fun q=>.row q.1.2.1 28 1 ((s.cache.take q.1.1).map fun l=>[ints l]) :: .row q.1.2.2 47 25 ((s.gs.take q.1.1).map eG) :: .box b3 36 (Fx s (.v q.1.2.2) (.v (.slice none 0 0)) (.v q.1.2.1)) :: .box b2 36 rQ :: wd b u s) (fun q=>s.gs.length - q.1.1) ⟨(0,.slice none 0 0,.slice none 0 0),Nat.zero_le _⟩ (fun X h=>h.bO ⟨rfl,rfl,rfl,rfl,rfl,rfl,trivial⟩) (fun q ih=>?_);obtain ⟨⟨k,vc,vg⟩,hk⟩:=q;simp only at hk ih ⊢
  by_cases bZ:k < s.gs.length
  ·have t1:(decide ((k:Int) < (s.gs.length:Int)))=true:=by simpa using bZ
   have OW:∀ x:Int,x=k→0≤x∧x < (fI u s).length:=fun x hx=>by rw [wS];omega
   have hx:s.gs[k]?=some (aa s k):=by unfold aa;rw [List.getD_eq_getElem?_getD,List.getElem?_eq_getElem bZ];rfl
   have hm:=List.mem_of_getElem? hx;have BS:=Tq u.pB (s.gs.map fun x=>(x.status,x.token)) u.TB (k:Int);have BT:=Tr u.pB (s.gs.map fun x=>(x.status,x.token)) u.TB (k:Int);rw [Fu bZ] at BS;rw [TS bZ] at BT;have CC:=TE u.pP s.dh.toNat s.bP.toNat (ez u s) u.TP (k:Int) F.cb;obtain ⟨o1,o2⟩:=F.op _ hm;obtain ⟨o3,o4,o5,o6⟩:=F.KI _ hm;have bY:(s.cache.take k).length=k:=by rw [List.length_take,F.cl];omega
   have DK:(s.gs.take k).length=k:=by rw [List.length_take];omega
   have g8:=F.gs
   repeat (first | (refine K.load ?_;((refine jq rfl rfl rfl (Qt.IC rfl ((wT bZ)) (by exact rfl)) ?_))) | (refine K.store ?_;refine JO.ld (Ld.bh rfl rfl rfl (by exact rfl) (by exact rfl)) rfl (fun _=>?_)) | (refine K.indexAddr ?_;refine jq rfl rfl rfl (Qt.aV rfl rfl (OW _ rfl).1 (OW _ rfl).2) ?_) | (refine K.call ?_;refine JO.ld (Ld.Tp (TO _ (aa s k) (u.sg k) (u.wk k) (i:=k + 17) (j:=s.gs.length + k + 17) (TI bZ) (zl bZ) o1 o2 o3 o4 o5 o6) (qb rfl) rfl (aW.cons .refl .nil)) rfl ?_;intro _) | refine ay ?_ | intro _)
   refine J.draw (by kernel_rfl) rfl ?_;refine JW.iU [12] (some 13) ?_;refine tk 0 ?_;refine tk 1 ?_;refine tk 2 ?_;refine tk 3 ?_;refine tk 4 ?_;refine JD.tf 6 rfl rfl (by kernel_rfl) rfl (qb rfl) (Qt.move rfl) rfl ?_;refine JD.tf 7 rfl rfl (by kernel_rfl) rfl (qb rfl) (Qt.nilCheck rfl rfl) rfl ?_;refine JD.tf 8 rfl rfl (by kernel_rfl) rfl (qb rfl) (Qt.fieldAddr rfl rfl) rfl ?_
   (refine JD.tf 9 rfl rfl (by kernel_rfl) rfl (qb rfl) (Qt.lf rfl (by exact rfl)) rfl ?_)
   refine JD.tf 10 rfl rfl (by kernel_rfl) rfl (qb rfl) (Qt.move rfl) rfl ?_;refine jl 5 rfl rfl rfl rfl (Ld.eN BS (qb rfl) rfl (.cons .refl (.cons .refl .nil))) (.iT rfl) (fun _=>?_);refine tk 12 ?_;refine jl 11 rfl rfl rfl rfl (Ld.eN BT (qb rfl) rfl (.cons .refl (.cons .refl .nil))) (.iT rfl) (fun _=>?_);refine jt 13 rfl rfl (Ld.di rfl rfl (by exact rfl)) (fun _=>?_);refine JW.iU [12] (some 15) ?_;refine jk 14 rfl rfl rfl rfl (Qt.fieldAddr rfl rfl) ?_;refine jt 15 rfl rfl (Ld.di rfl rfl (by exact rfl)) (fun _=>?_);refine cu ?_
   repeat (first | (refine K.store ?_;refine JO.ld (Ld.di rfl rfl (by exact rfl)) rfl (fun _=>?_)) | (refine K.bi ?_;refine JO.ld (Ld.cB (qb rfl) rfl rfl .de (by (simp;omega))) rfl (fun _=>?_)) | refine ay ?_ | intro _)
   refine J.dF 1 ?_;refine J.dF 1 ?_;refine J.draw (by kernel_rfl) rfl ?_;refine JW.iU [14,1] (some 11) ?_;refine tk 0 ?_;refine tk 1 ?_;refine tk 2 ?_;refine tk 3 ?_;refine tk 4 ?_;refine tk 5 ?_;refine tk 6 ?_;refine jl 7 rfl rfl rfl rfl (Ld.eN CC (qb rfl) rfl (.cons .refl (.cons .refl .nil))) (.iT rfl) (fun _=>?_);refine jl 8 rfl rfl rfl rfl (Ld.oW (qb rfl) rfl rfl rfl rfl rfl) .none (fun _=>?_);refine jl 9 rfl rfl rfl rfl (Ld.cB (qb rfl) rfl rfl .read (by (simp;omega))) (.uM rfl) (fun _=>?_);refine jk 10 rfl rfl rfl rfl (Qt.fieldAddr rfl rfl) ?_;refine jt 11 rfl rfl (Ld.di rfl rfl (by exact rfl)) (fun _=>?_);refine cu ?_
   repeat (refine gn ?_)
   rename_i Fz _ _ _ FA _;refine J.fQ ?_ ((ih ⟨(k + 1,FA,Fz),by simp only;omega⟩ (by simp only;omega)).bO ⟨rfl,rfl,rfl,rfl,rfl,rfl,trivial⟩);have cP:=TU (s:=s) (k:=k) (by rw [F.cl];exact bZ);rw [List.take_add_one,List.take_add_one,hx,cP,List.map_append,List.map_append];rfl
  ·have t1:(decide ((k:Int) < (s.gs.length:Int)))=false:=by simpa using bZ
   obtain rfl:k=s.gs.length:=by omega
   refine J.nF 0 2 6 rfl rfl rfl ?_;refine J.nF 0 1 3 rfl rfl rfl ?_
   repeat (first | (refine K.bi ?_;refine jq rfl rfl rfl (Qt.BP 4 (n:=s.au.length) rfl rfl (by simp)) ?_) | refine gn ?_)
   refine J.oG 59 6 ?_;rw [List.take_of_length_le (by rw [F.cl];exact Nat.le_refl _),List.take_of_length_le (Nat.le_refl _)];refine J.loop (ι:={ q:Nat × Value // q.1≤s.au.length }) (fun q=>[(96,.c (nI q.1.1)),(95,.c (nI s.au.length)),(94,.c (.v u.vR)),(3,.c (.v (pt b3))),(2,.c (.v (pt b2))),(0,.c (.v (pt b)))]) (fun q=>.row q.1.2 59 6 ((s.au.take q.1.1).map eC) :: .box b3 36 (Fx s (.r 25 (s.gs.map eG)) (.v q.1.2) (.r 1 (s.cache.map fun l=>[ints l]))) :: .box b2 36 rQ :: wd b u s) (fun q=>s.au.length - q.1.1) ⟨(0,.slice none 0 0),Nat.zero_le _⟩ (fun X h=>h.bO ⟨rfl,rfl,rfl,rfl,rfl,rfl,trivial⟩) (fun q ih=>?_);obtain ⟨⟨k,vh⟩,hk⟩:=q;simp only at hk ih ⊢
   by_cases bZ:k < s.au.length
   ·have t1:(decide ((k:Int) < (s.au.length:Int)))=true:=by simpa using bZ
    have hx:=lH bZ;have hm:=List.mem_of_getElem? hx;have c8:=F.ch;have BU:=F.cp _ hm;have bY:(s.au.take k).length=k:=by rw [List.length_take];omega
    have RR:=Kw (kW u s) u.TR (vl (u:=u) bZ);rw [show (((cn s ((k:Int) + 1)).cap.toNat:Nat):Int)=(cn s ((k:Int) + 1)).cap by omega] at RR;have RA:=TH (kW u s) u.TR (vl (u:=u) bZ);have LO:=Tw u.pL (s.au.map (·.lock)) u.TL (k:Int);rw [TT bZ] at LO;have QR:=Kv u.pQ s.aB.length (qW s) u.TQ (2 * ((k:Int) + 1) - 2);rw [Fv (by omega)] at QR;have QS:=Kv u.pQ s.aB.length (qW s) u.TQ (2 * ((k:Int) + 1) - 1);rw [BQ (by omega)] at QS;have w1:IntKind.i64.wrap ((k:Int) + 1)=(k:Int) + 1:=eK (by omega) (by omega);have OR:∀ x:Int,x=k→0≤x∧x < ((List.range s.au.length).map fun i=>[A.v (u.rs i)]).length:=fun x hx=>by simp;omega
    have OC:∀ x:Int,x=k→0≤x∧x < (s.au.map fun c=>[bI c.closed]).length:=fun x hx=>by simp;omega
    have AR:((List.range s.au.length).map fun i=>[A.v (u.rs i)])[((k:Int)).toNat]?=some [A.v (u.rs k)]:=by rw [Int.toNat_natCast,List.getElem?_map,List.getElem?_range bZ];rfl
    have AC:(s.au.map fun c=>[bI c.closed])[((k:Int)).toNat]?=some [bI (cn s ((k:Int) + 1)).closed]:=by rw [Int.toNat_natCast,List.getElem?_map,hx];rfl
    repeat (first | (refine K.load ?_;refine jq rfl rfl rfl (Qt.bM rfl (AR) (by exact rfl)) ?_) | (refine K.indexAddr ?_;refine jq rfl rfl rfl (Qt.aV rfl rfl (OR _ rfl).1 (OR _ rfl).2) ?_) | refine gn ?_)
    refine J.draw (by kernel_rfl) rfl ?_;refine JW.iU [0,11,12,14] (some 39) ?_;refine tk 0 ?_;refine tk 1 ?_;refine tk 2 ?_;refine tk 4 ?_;refine tk 6 ?_;refine tk 7 ?_;refine tk 8 ?_;refine tk 9 ?_;refine tk 10 ?_;refine JD.take 11 rfl rfl (by kernel_rfl) rfl (qb rfl) (Qt.aV rfl rfl (OC _ rfl).1 (OC _ rfl).2) rfl ?_;refine JD.take 12 rfl rfl (by kernel_rfl) rfl (qb rfl) (Qt.bM rfl AC rfl) rfl ?_;refine tk 13 ?_;refine tk 14 ?_;refine tk 15 ?_;refine tk 16 ?_;refine tk 17 ?_;refine tk 19 ?_;refine tk 20 ?_;refine tk 21 ?_;refine tk 22 ?_;refine tk 23 ?_;refine JD.take 24 rfl rfl (by kernel_rfl) rfl (qb rfl) (Qt.cI rfl rfl rfl w1) rfl ?_;refine tk 27 ?_;refine tk 28 ?_;refine tk 29 ?_;refine tk 30 ?_;refine tk 31 ?_;refine JD.take 32 rfl rfl (by kernel_rfl) rfl (qb rfl) (Qt.cI rfl rfl rfl w1) rfl ?_;refine jl 3 rfl rfl rfl rfl (Ld.eN RR (qb rfl) rfl (.cons .refl .nil)) (.iT rfl) (fun _=>?_);refine jl 5 rfl rfl rfl rfl (Ld.eN RA (qb rfl) rfl (.cons .refl .nil)) (.iT rfl) (fun _=>?_);refine jl 18 rfl rfl rfl rfl (Ld.eN LO (qb rfl) rfl (.cons .refl (.cons .refl .nil))) (.iT rfl) (fun _=>?_);refine jl 25 rfl rfl rfl rfl (Ld.pure (KJ ((k:Int) + 1) (by omega) (by omega)) (qb rfl) rfl lq) .none (fun _=>?_);refine jl 26 rfl rfl rfl rfl (Ld.eN QR (qb rfl) rfl (.cons .refl (.cons .refl .nil))) (.iT rfl) (fun _=>?_);refine jl 33 rfl rfl rfl rfl (Ld.pure (KK ((k:Int) + 1) (by omega) (by omega)) (qb rfl) rfl lq) .none (fun _=>?_);refine jl 34 rfl rfl rfl rfl (Ld.eN QS (qb rfl) rfl (.cons .refl (.cons .refl .nil))) (.iT rfl) (fun _=>?_);refine jk 35 rfl rfl rfl rfl (Qt.build rfl (by kernel_rfl)) ?_;refine jl 36 rfl rfl rfl rfl (Ld.oW (qb rfl) rfl rfl rfl rfl rfl) .none (fun _=>?_);refine jl 37 rfl rfl rfl rfl (Ld.cB (qb rfl) rfl rfl .read (by (simp;omega))) (.uM rfl) (fun _=>?_);refine jk 38 rfl rfl rfl rfl (Qt.fieldAddr rfl rfl) ?_;refine jt 39 rfl rfl (Ld.di rfl rfl (by exact rfl)) (fun _=>?_);refine cu ?_
    repeat (refine gn ?_)
    rename_i TV _;refine J.fQ ?_ ((ih ⟨(k + 1,TV),by simp only;omega⟩ (by simp only;omega)).bO ⟨rfl,rfl,rfl,rfl,rfl,rfl,trivial⟩);rw [List.take_add_one,hx,List.map_append];rfl
   ·have t1:(decide ((k:Int) < (s.au.length:Int)))=false:=by simpa using bZ
    obtain rfl:k=s.au.length:=by omega
    rw [List.take_of_length_le (Nat.le_refl _)];refine J.nF 0 1 4 rfl rfl rfl ?_
    repeat (first | (refine K.store ?_;refine JO.ld (Ld.bh rfl rfl rfl (by exact rfl) (by exact rfl)) rfl (fun _=>?_)) | refine gn ?_)
    (exact J.jR [_,_] rfl Tryz.func15 rfl (.cons (.cell 1 rfl rfl rfl) .nil) () la rfl)
 refine J.draw (by kernel_rfl) rfl ?_;refine JW.iU [11,7] (some 40) ?_;refine tk 0 ?_;refine tk 1 ?_;refine tk 2 ?_;refine tk 3 ?_;refine tk 4 ?_;refine tk 5 ?_;refine tk 6 ?_;refine tk 7 ?_;refine tk 8 ?_;refine tk 9 ?_;refine tk 10 ?_;refine tk 11 ?_;refine tk 13 ?_;refine tk 14 ?_;refine tk 15 ?_;refine tk 16 ?_;refine tk 18 ?_;refine tk 19 ?_;refine tk 20 ?_;refine tk 21 ?_;refine tk 23 ?_;refine tk 24 ?_;refine tk 25 ?_;refine tk 26 ?_;refine tk 28 ?_;refine tk 29 ?_;refine tk 30 ?_;refine tk 31 ?_;refine tk 33 ?_;refine tk 34 ?_;refine tk 35 ?_;refine tk 36 ?_;refine JD.dA (i:=12) (j:=39) (by kernel_rfl) ?_ ?_;refine JS.cK rfl rfl rfl (qb rfl) (Ld.iV (qb rfl) rfl rfl .de (by (simp;omega))) .none (fun _=>?_);refine JD.dA (i:=17) (j:=39) (by kernel_rfl) ?_ ?_;refine JS.cK rfl rfl rfl (qb rfl) (Ld.eN CM (qb rfl) rfl (.cons .refl .nil)) (.iT rfl) (fun _=>?_);refine JD.dA (i:=22) (j:=39) (by kernel_rfl) ?_ ?_;refine JS.cK rfl rfl rfl (qb rfl) (Ld.eN CF (qb rfl) rfl (.cons .refl .nil)) (.iT rfl) (fun _=>?_);refine JD.dA (i:=27) (j:=39) (by kernel_rfl) ?_ ?_;refine JS.cK rfl rfl rfl (qb rfl) (Ld.iV (qb rfl) rfl rfl .read (by (simp;omega))) .none (fun _=>?_);refine JD.dA (i:=32) (j:=39) (by kernel_rfl) ?_ ?_;refine JS.cK rfl rfl rfl (qb rfl) (Ld.eN CD (qb rfl) rfl (.cons .refl .nil)) (.nu rfl) (fun _=>?_);refine JD.dA (i:=37) (j:=39) (by kernel_rfl) ?_ ?_;refine JS.cK rfl rfl rfl (qb rfl) (Ld.iV (qb rfl) rfl rfl .de (by (simp;omega))) .none (fun _=>?_);refine JD.nA ?_;refine tk 38 ?_;refine jl 39 rfl rfl rfl rfl (Ld.alloc (qb rfl)) .none (fun _=>?_);refine jt 40 rfl rfl (Ld.bh rfl rfl rfl (by exact rfl) (by exact rfl)) (fun _=>?_);refine cu ?_
 rotate_left
 refine JS.cK rfl rfl rfl (qb rfl) (Ld.alloc (qb rfl)) .none (fun _=>?_);refine jl 37 rfl rfl rfl rfl (Ld.iV (qb rfl) rfl rfl .de (by (simp;omega))) .none (fun _=>?_);refine jk 38 rfl rfl rfl rfl (Qt.build rfl (by kernel_rfl)) ?_;refine jt 40 rfl rfl (Ld.bh rfl rfl rfl (by exact rfl) (by exact rfl)) (fun _=>?_);refine cu ?_
 rotate_left
 refine JS.cK rfl rfl rfl (qb rfl) (Ld.alloc (qb rfl)) .none (fun _=>?_);refine jl 32 rfl rfl rfl rfl (Ld.eN CD (qb rfl) rfl (.cons .refl .nil)) (.nu rfl) (fun _=>?_);refine jl 37 rfl rfl rfl rfl (Ld.iV (qb rfl) rfl rfl .de (by (simp;omega))) .none (fun _=>?_);refine jk 38 rfl rfl rfl rfl (Qt.build rfl (by kernel_rfl)) ?_;refine jt 40 rfl rfl (Ld.bh rfl rfl rfl (by exact rfl) (by exact rfl)) (fun _=>?_);refine cu ?_
 rotate_left
 refine JS.cK rfl rfl rfl (qb rfl) (Ld.alloc (qb rfl)) .none (fun _=>?_);refine jl 27 rfl rfl rfl rfl (Ld.iV (qb rfl) rfl rfl .read (by (simp;omega))) .none (fun _=>?_);refine jl 32 rfl rfl rfl rfl (Ld.eN CD (qb rfl) rfl (.cons .refl .nil)) (.nu rfl) (fun _=>?_);refine jl 37 rfl rfl rfl rfl (Ld.iV (qb rfl) rfl rfl .de (by (simp;omega))) .none (fun _=>?_);refine jk 38 rfl rfl rfl rfl (Qt.build rfl (by kernel_rfl)) ?_;refine jt 40 rfl rfl (Ld.bh rfl rfl rfl (by exact rfl) (by exact rfl)) (fun _=>?_);refine cu ?_
 rotate_left
 refine JS.cK rfl rfl rfl (qb rfl) (Ld.alloc (qb rfl)) .none (fun _=>?_);refine jl 22 rfl rfl rfl rfl (Ld.eN CF (qb rfl) rfl (.cons .refl .nil)) (.iT rfl) (fun _=>?_);refine jl 27 rfl rfl rfl rfl (Ld.iV (qb rfl) rfl rfl .read (by (simp;omega))) .none (fun _=>?_);refine jl 32 rfl rfl rfl rfl (Ld.eN CD (qb rfl) rfl (.cons .refl .nil)) (.nu rfl) (fun _=>?_);refine jl 37 rfl rfl rfl rfl (Ld.iV (qb rfl) rfl rfl .de (by (simp;omega))) .none (fun _=>?_);refine jk 38 rfl rfl rfl rfl (Qt.build rfl (by kernel_rfl)) ?_;refine jt 40 rfl rfl (Ld.bh rfl rfl rfl (by exact rfl) (by exact rfl)) (fun _=>?_);refine cu ?_
 rotate_left
 refine JS.cK rfl rfl rfl (qb rfl) (Ld.alloc (qb rfl)) .none (fun _=>?_);refine jl 17 rfl rfl rfl rfl (Ld.eN CM (qb rfl) rfl (.cons .refl .nil)) (.iT rfl) (fun _=>?_);refine jl 22 rfl rfl rfl rfl (Ld.eN CF (qb rfl) rfl (.cons .refl .nil)) (.iT rfl) (fun _=>?_);refine jl 27 rfl rfl rfl rfl (Ld.iV (qb rfl) rfl rfl .read (by (simp;omega))) .none (fun _=>?_);refine jl 32 rfl rfl rfl rfl (Ld.eN CD (qb rfl) rfl (.cons .refl .nil)) (.nu rfl) (fun _=>?_);refine jl 37 rfl rfl rfl rfl (Ld.iV (qb rfl) rfl rfl .de (by (simp;omega))) .none (fun _=>?_);refine jk 38 rfl rfl rfl rfl (Qt.build rfl (by kernel_rfl)) ?_;refine jt 40 rfl rfl (Ld.bh rfl rfl rfl (by exact rfl) (by exact rfl)) (fun _=>?_);refine cu ?_
 rotate_left
 refine JS.cK rfl rfl rfl (qb rfl) (Ld.alloc (qb rfl)) .none (fun _=>?_);refine jl 12 rfl rfl rfl rfl (Ld.iV (qb rfl) rfl rfl .de (by (simp;omega))) .none (fun _=>?_);refine jl 17 rfl rfl rfl rfl (Ld.eN CM (qb rfl) rfl (.cons .refl .nil)) (.iT rfl) (fun _=>?_);refine jl 22 rfl rfl rfl rfl (Ld.eN CF (qb rfl) rfl (.cons .refl .nil)) (.iT rfl) (fun _=>?_);refine jl 27 rfl rfl rfl rfl (Ld.iV (qb rfl) rfl rfl .read (by (simp;omega))) .none (fun _=>?_);refine jl 32 rfl rfl rfl rfl (Ld.eN CD (qb rfl) rfl (.cons .refl .nil)) (.nu rfl) (fun _=>?_);refine jl 37 rfl rfl rfl rfl (Ld.iV (qb rfl) rfl rfl .de (by (simp;omega))) .none (fun _=>?_);refine jk 38 rfl rfl rfl rfl (Qt.build rfl (by kernel_rfl)) ?_;refine jt 40 rfl rfl (Ld.bh rfl rfl rfl (by exact rfl) (by exact rfl)) (fun _=>?_);refine cu ?_
 rotate_left
 all_goals
  exact (rest _).bO ⟨rfl,rfl,rfl,trivial⟩
end Fl
open Go.RowKit Go.ChangeShapes Go.WideShapes Go.Deep
def mS (w:World) (cs:List Value) (c:Pn.Cs) (U:List Nat):Prop:=cs=[.bool c.send,.int .i64 c.ch,.int .i64 c.v]∧U=[]
def wU (w:World) (cs:List Value) (o:Pn.Op) (U:List Nat):Prop :=
 ∃ vc,cs=[.int .i64 o.kind,.int .i64 o.ch,.int .i64 o.n,.int .i64 o.v,vc,.bool o.dR]∧GV mS 3 w vc o.cases U
theorem zo:Kept mS:=⟨fun h _ _=>h,fun h x hx=>by obtain ⟨_,rfl⟩:=h;simp at hx⟩
theorem FB:Kept wU :=
 ⟨fun h k hn=>by obtain ⟨vc,h1,h2⟩:=h;exact ⟨vc,h1,h2.aY zo k hn⟩,fun h=>by obtain ⟨vc,h1,h2⟩:=h;exact h2.lt⟩
def tM:World→List Value→List Pn.Op→List Nat→Prop:=qd wU 6
theorem KL:Kept tM:=Iz FB
section
variable {w:World} {ao:Option Addr} {m cap k:Nat} {S:List Nat}
theorem GV.case {l:List Pn.Cs} {c:Pn.Cs} (h:GV mS 3 w (.slice ao m cap) l S) (hk:l[k]?=some c) :
  ∃ g off,ao=some ⟨g,off,none⟩∧g∈S∧g < w.heap.size∧w.cell? ⟨g,off + k * 3,none⟩=some (.bool c.send)∧w.cell? ⟨g,off + k * 3 + 1,none⟩=some (.int .i64 c.ch)∧w.cell? ⟨g,off + k * 3 + 2,none⟩=some (.int .i64 c.v):=by
 obtain ⟨g,off,cs,U,h1,h2,h3,h4,h5,⟨rfl,_⟩,_⟩:=h.get hk;exact ⟨g,off,h1,h2,h3,h5 0 (by omega),h5 1 (by omega),h5 2 (by omega)⟩
theorem GV.op {l:List Pn.Op} {o:Pn.Op} (h:GV wU 6 w (.slice ao m cap) l S) (hk:l[k]?=some o) :
  ∃ g off vc U,ao=some ⟨g,off,none⟩∧g∈S∧g < w.heap.size∧(w.cell? ⟨g,off + k * 6,none⟩=some (.int .i64 o.kind)∧w.cell? ⟨g,off + k * 6 + 1,none⟩=some (.int .i64 o.ch)∧w.cell? ⟨g,off + k * 6 + 2,none⟩=some (.int .i64 o.n) ∧
   w.cell? ⟨g,off + k * 6 + 3,none⟩=some (.int .i64 o.v)∧w.cell? ⟨g,off + k * 6 + 4,none⟩=some vc∧w.cell? ⟨g,off + k * 6 + 5,none⟩=some (.bool o.dR))∧GV mS 3 w vc o.cases U∧∀ x∈U,x∈S:=by
 obtain ⟨g,off,cs,U,h1,h2,h3,h4,h5,⟨vc,rfl,h6⟩,h7⟩:=h.get hk;exact ⟨g,off,vc,U,h1,h2,h3,⟨h5 0 (by omega),h5 1 (by omega),h5 2 (by omega),h5 3 (by omega),h5 4 (by omega),h5 5 (by omega)⟩,h6,h7⟩
theorem GV.one {α:Type} {E:World→List Value→α→List Nat→Prop} {l:List α} {a:α} (h:GV E 1 w (.slice ao m cap) l S) (hk:l[k]?=some a) :
  ∃ g off v U,ao=some ⟨g,off,none⟩∧g∈S∧g < w.heap.size∧w.cell? ⟨g,off + k,none⟩=some v∧E w [v] a U∧∀ x∈U,x∈S:=by
 obtain ⟨g,off,cs,U,h1,h2,h3,h4,h5,h6,h7⟩:=h.get hk;obtain ⟨v,rfl⟩:=PA h4;exact ⟨g,off,v,U,h1,h2,h3,by have:=h5 0 (by omega);simpa using this,h6,h7⟩
end
theorem BV:gi Tryz.prog 3 (mC .i64) 1:=A0 Tryz.underlying3 (by kernel_rfl)
theorem KM:gi Tryz.prog 2 (mC .i64) 1:=A0 Tryz.underlying2 (by kernel_rfl)
theorem KO:gi Tryz.prog 4 DJ 1:=PG Tryz.underlying4 (by kernel_rfl)
theorem TW:gi Tryz.prog 72 mS 3:=by
 refine ⟨by omega,zo,by kernel_rfl,?_⟩;intro H enc W fuel cs x h;obtain ⟨xs,n,_,_,hl,kB,hf⟩:=DataW.trod_struct Tryz.underlying72 h;have TX:cs.length=3:=hl.trans (by kernel_rfl);obtain ⟨v0,v1,v2,rfl⟩:=PC TX;have yF:xs.length=3:=kB.trans (by kernel_rfl);have hs:∀ i,i < 3→(xs[i]?).isSome=true:=fun i hi=>by simp [yF,hi]
 obtain ⟨_,_,a0,U0,e0,_⟩:=KO.field rfl rfl (hs 0 (by omega)) (hf 0 _ rfl);obtain ⟨_,_,a1,U1,e1,_⟩:=BV.field rfl rfl (hs 1 (by omega)) (hf 1 _ rfl);obtain ⟨_,_,a2,U2,e2,_⟩:=KM.field rfl rfl (hs 2 (by omega)) (hf 2 _ rfl);simp at e0 e1 e2;subst e0 e1 e2;exact ⟨rfl,(by intro y hy;simp at hy;rcases hy with rfl | rfl | rfl <;> rfl),⟨a0,a1,a2⟩,[],rfl,rfl⟩
theorem TY:gi Tryz.prog 48 (qd mS 3) 1:=yb Tryz.underlying48 (by kernel_rfl) TW
theorem TZ:gi Tryz.prog 50 wU 6:=by
 refine ⟨by omega,FB,by kernel_rfl,?_⟩;intro H enc W fuel cs x h;obtain ⟨xs,n,_,_,hl,kB,hf⟩:=DataW.trod_struct Tryz.underlying50 h;have vn:cs.length=6:=hl.trans (by kernel_rfl);obtain ⟨v0,v1,v2,v3,v4,v5,rfl⟩:=PE vn;have T0:xs.length=6:=kB.trans (by kernel_rfl);have hs:∀ i,i < 6→(xs[i]?).isSome=true:=fun i hi=>by simp [T0,hi]
 obtain ⟨_,_,a0,U0,e0,_⟩:=BV.field rfl rfl (hs 0 (by omega)) (hf 0 _ rfl);obtain ⟨_,_,a1,U1,e1,_⟩:=BV.field rfl rfl (hs 1 (by omega)) (hf 1 _ rfl);obtain ⟨_,_,a2,U2,e2,_⟩:=BV.field rfl rfl (hs 2 (by omega)) (hf 2 _ rfl);obtain ⟨_,_,a3,U3,e3,_⟩:=KM.field rfl rfl (hs 3 (by omega)) (hf 3 _ rfl);obtain ⟨o4,_,a4,U4,vc,e4,h4⟩:=TY.field rfl rfl (hs 4 (by omega)) (hf 4 _ rfl);obtain ⟨_,_,a5,U5,e5,_⟩:=KO.field rfl rfl (hs 5 (by omega)) (hf 5 _ rfl);simp at e0 e1 e2 e3 e4 e5 o4;subst e0 e1 e2 e3 e4 e5;exact ⟨rfl,(by intro y hy;simp at hy;rcases hy with rfl | rfl | rfl | rfl | rfl | rfl <;> first | rfl | assumption),⟨a0,a1,a2,a3,a4,a5⟩,U4,v4,rfl,h4⟩
theorem T3:gi Tryz.prog 43 tM 1:=yb Tryz.underlying43 (by kernel_rfl) TZ
theorem T4:gi Tryz.prog 22 (qd tM 1) 1:=yb Tryz.underlying22 (by kernel_rfl) T3
open Go.RowKit
theorem tN (w:World) (k:Int):Calls Tryz.prog 220 #[.int .i64 k] w fun e w'=>e=.returned (.bool (Pn.jN k))∧w=w':=by
 go_enter Tryz.func220,Tryz.ntmps220
 go_wp2_with fail
 all_goals
  go_ret
  exact ⟨eW (by simp [Pn.jN, *] <;> omega),rfl⟩
theorem tO (w:World) (k:Int):Calls Tryz.prog 221 #[.int .i64 k] w fun e w'=>e=.returned (.bool (Pn.jO k))∧w=w':=by
 go_enter Tryz.func221,Tryz.ntmps221
 go_wp2_with fail
 all_goals
  go_ret
  exact ⟨eW (by simp [Pn.jO, *]),rfl⟩
def Pn.within (has:Bool) (n most:Int):Bool:=if has then decide (0≤n) && decide (n≤most) else n == 0
open Go.RowKit
namespace Pn
def FC (c:Cs):Bool:=within true c.ch 8 && within c.send c.v 255
theorem KP (c:Cs):FC c=lA c:=by
 obtain ⟨s,ch,v⟩:=c;unfold FC lA within;rw [Bool.eq_iff_iff]
 cases s <;> simp <;> omega
theorem T5 {o:Op} {j:Nat} {c:Cs} (h:o.cases[j]?=some c) (hc:FC c=false):fu o=false:=by
 unfold fu;rw [decide_eq_false_iff_not];rintro ⟨h1,h2,h3,h4,h5,h6,h7,h8,h9,mU,lI,lJ,iq,qM⟩;have:=qM c (List.mem_of_getElem? h);rw [← KP,hc] at this;cases this
end Pn
open Go.RowKit
namespace Pn
end Pn
set_option maxRecDepth 100000 in
set_option maxHeartbeats 3200000 in
theorem T8 (w:World) (o:Pn.Op) (va:Value) (SA:List Nat) (ha:GV mS 3 w va o.cases SA) (hb:¬ (1≤o.kind∧o.kind≤9∧0≤o.ch∧o.ch≤8∧0≤o.n∧o.n≤4∧0≤o.v∧o.v≤255∧o.cases.length≤6)) :
  Calls Tryz.prog 169 #[.agg #[.int .i64 o.kind,.int .i64 o.ch,.int .i64 o.n,.int .i64 o.v,va,.bool o.dR]] w fun e w'=>e=.returned (.bool (Pn.fu o))∧aq [] w w':=by
 have ju:=ha.le;unfold maxLen at ju;obtain ⟨ao,cap,rfl⟩:=ha.shape;have HA:=Lib.hid ha;obtain ⟨q,iN⟩:∃ q,Pn.fu o=q:=⟨_,rfl⟩
 rw [iN];have HQ:=Lib.hid iN;have KA:Hid (aq [] w (w.alloc (.cells #[.int .i64 o.kind,.int .i64 o.ch,.int .i64 o.n,.int .i64 o.v,.slice ao o.cases.length cap,.bool o.dR] 50))):=Lib.hid ((aq.refl [] w).alloc _);clear ha iN;have HN:Hid (false=q):=Lib.hid (by
  rw [← HQ.out,eq_comm];unfold Pn.fu;rw [decide_eq_false_iff_not];rintro ⟨h1,h2,h3,h4,h5,h6,h7,h8,h9,_⟩;exact hb ⟨h1,h2,h3,h4,h5,h6,h7,h8,h9⟩)
 have HB:=Lib.hid hb;clear hb
 go_enter Tryz.func169,Tryz.ntmps169
 go_upto_if 48 with fail
 all_goals
  go_wp2_with fail
  all_goals
   first
    | (exfalso;have h:=HB.out;omega)
    | (go_ret;exact ⟨eW HN.out,(aq.refl [] w).alloc _⟩)
open Go.RowKit
namespace Pn
end Pn
set_option maxRecDepth 100000 in
set_option maxHeartbeats 3200000 in
theorem T9 (w:World) (o:Pn.Op) (va:Value) (SA:List Nat) (ha:GV mS 3 w va o.cases SA) (hb:1≤o.kind∧o.kind≤9∧0≤o.ch∧o.ch≤8∧0≤o.n∧o.n≤4∧0≤o.v∧o.v≤255∧o.cases.length≤6) (hk:o.kind=1) :
  Calls Tryz.prog 169 #[.agg #[.int .i64 o.kind,.int .i64 o.ch,.int .i64 o.n,.int .i64 o.v,va,.bool o.dR]] w fun e w'=>e=.returned (.bool (Pn.fu o))∧aq [] w w':=by
 have ju:=ha.le;unfold maxLen at ju;obtain ⟨ao,cap,rfl⟩:=ha.shape;have HA:=Lib.hid ha;obtain ⟨q,iN⟩:∃ q,Pn.fu o=q:=⟨_,rfl⟩
 rw [iN];have HQ:=Lib.hid iN;have KA:Hid (aq [] w (w.alloc (.cells #[.int .i64 o.kind,.int .i64 o.ch,.int .i64 o.n,.int .i64 o.v,.slice ao o.cases.length cap,.bool o.dR] 50))):=Lib.hid ((aq.refl [] w).alloc _);clear ha iN;obtain ⟨b1,b2,b3,b4,b5,b6,b7,b8,b9⟩:=hb;obtain ⟨k,ch,n,v,cs,dR⟩:=o;simp only at *;have HS:Hid ((Pn.jN k=false→ch=0)→(Pn.jO k=false→v=0)→(k≠1→n=0)→(k≠9→cs=[]∧dR=false)→(∀ (j:Nat) (c:Pn.Cs),cs[j]?=some c→Pn.lA c=true)→true=q):=Lib.hid (fun d1 d2 d3 d4 h=>by
  rw [← HQ.out,eq_comm];unfold Pn.fu;rw [decide_eq_true_iff];refine ⟨b1,b2,b3,b4,b5,b6,b7,b8,b9,d1,d2,d3,d4,fun c hc=>?_⟩;obtain ⟨j,hj,rfl⟩:=List.getElem_of_mem hc;exact h j _ (List.getElem?_eq_getElem hj))
 have HF:Hid (¬ ((Pn.jN k=false→ch=0)∧(Pn.jO k=false→v=0)∧(k≠1→n=0)∧(k≠9→cs=[]∧dR=false))→false=q):=Lib.hid (fun hn=>by
  rw [← HQ.out,eq_comm];unfold Pn.fu;rw [decide_eq_false_iff_not];rintro ⟨h1,h2,h3,h4,h5,h6,h7,h8,h9,mU,lI,lJ,iq,_⟩;exact hn ⟨mU,lI,lJ,iq⟩)
 subst hk;have gw:Hid (Pn.jN 1=false∧Pn.jO 1=false):=Lib.hid (by constructor <;> simp [Pn.jN,Pn.jO] <;> omega)
 by_cases bY:ch=0∧v=0∧dR=false∧cs.length=0
 ·obtain ⟨e0,e1,e2,e3⟩:=bY;subst e0 e1 e2;have e9:cs.length≤0:=by omega
  have kU:=Lib.hid (HS.out (fun _=>rfl) (fun _=>rfl) (fun h=>absurd rfl h) (fun _=>⟨List.eq_nil_of_length_eq_zero (by omega),rfl⟩));clear HS HF
  try clear e3
  try clear e2
  go_enter Tryz.func169,Tryz.ntmps169
  go_wp2_with fail
  refine (tN _ _).mono ?_
  rintro e w3 ⟨rfl,rfl⟩
  rw [gw.out.1]
  go_wp2_with (go_at_call 221;refine (tO _ _).mono ?_;rintro e w4 ⟨rfl,rfl⟩;rw [gw.out.2])
  go_loopw [97] (fun u wr=>∃ j:Nat,j≤cs.length∧u=.int .i64 j∧Hid (aq [] w wr∧∀ (i:Nat) (c:Pn.Cs),i < j→cs[i]?=some c→Pn.lA c=true)) (fun u _=>cs.length - (intOf u).toNat)
  case atStart=>exact ⟨0,Nat.zero_le _,rfl,Lib.hid ⟨KA.out,fun i c hi=>by omega⟩⟩
  case round =>
   obtain ⟨j,hj,rfl,HI⟩:=hrel;obtain ⟨wo,rfl⟩:∃ wo:World,wo=wr:=⟨_,rfl⟩
   obtain rfl:j=cs.length:=by omega
   have HN:Hid (true=q):=Lib.hid (kU.out fun i c hc=>HI.out.2 i c (List.getElem?_eq_some_iff.1 hc).1 hc)
   go_wp2_with fail
   go_ret
   exact ⟨eW HN.out,HI.out.1⟩
 ·have HN:Hid (false=q):=Lib.hid (HF.out (by rintro ⟨d1,d2,d3,d4⟩;have q1:=gw.out.1;have q2:=gw.out.2;exact bY ⟨d1 q1,d2 q2,(d4 (by omega)).2,by simp [(d4 (by omega)).1]⟩));have HC:Hid (ch=0→v=0→dR=false→cs.length=0→False):=Lib.hid (fun e0 e1 e2 e3=>bY ⟨e0,e1,e2,e3⟩);clear bY
  go_enter Tryz.func169,Tryz.ntmps169
  go_wp2_with fail
  refine (tN _ _).mono ?_
  rintro e w3 ⟨rfl,rfl⟩
  rw [gw.out.1]
  go_upto_if 93 with (go_at_call 221;refine (tO _ _).mono ?_;rintro e w4 ⟨rfl,rfl⟩;rw [gw.out.2])
  all_goals
   go_wp2_with fail
   all_goals
    first
     | (exfalso;refine HC.out ?_ ?_ ?_ ?_ <;> (first | assumption | omega | (simpa using ‹¬dR=true›));done)
     | (go_ret;exact ⟨eW HN.out,(aq.refl [] w).alloc _⟩)
open Go.RowKit
namespace Pn
end Pn
set_option maxRecDepth 100000 in
set_option maxHeartbeats 3200000 in
theorem Ua (w:World) (o:Pn.Op) (va:Value) (SA:List Nat) (ha:GV mS 3 w va o.cases SA) (hb:1≤o.kind∧o.kind≤9∧0≤o.ch∧o.ch≤8∧0≤o.n∧o.n≤4∧0≤o.v∧o.v≤255∧o.cases.length≤6) (hv:o.kind=2∨o.kind=4) (hk:¬ o.kind=1) :
  Calls Tryz.prog 169 #[.agg #[.int .i64 o.kind,.int .i64 o.ch,.int .i64 o.n,.int .i64 o.v,va,.bool o.dR]] w fun e w'=>e=.returned (.bool (Pn.fu o))∧aq [] w w':=by
 have ju:=ha.le;unfold maxLen at ju;obtain ⟨ao,cap,rfl⟩:=ha.shape;have HA:=Lib.hid ha;obtain ⟨q,iN⟩:∃ q,Pn.fu o=q:=⟨_,rfl⟩
 rw [iN];have HQ:=Lib.hid iN;have KA:Hid (aq [] w (w.alloc (.cells #[.int .i64 o.kind,.int .i64 o.ch,.int .i64 o.n,.int .i64 o.v,.slice ao o.cases.length cap,.bool o.dR] 50))):=Lib.hid ((aq.refl [] w).alloc _);clear ha iN;obtain ⟨b1,b2,b3,b4,b5,b6,b7,b8,b9⟩:=hb;obtain ⟨k,ch,n,v,cs,dR⟩:=o;simp only at *;have HS:Hid ((Pn.jN k=false→ch=0)→(Pn.jO k=false→v=0)→(k≠1→n=0)→(k≠9→cs=[]∧dR=false)→(∀ (j:Nat) (c:Pn.Cs),cs[j]?=some c→Pn.lA c=true)→true=q):=Lib.hid (fun d1 d2 d3 d4 h=>by
  rw [← HQ.out,eq_comm];unfold Pn.fu;rw [decide_eq_true_iff];refine ⟨b1,b2,b3,b4,b5,b6,b7,b8,b9,d1,d2,d3,d4,fun c hc=>?_⟩;obtain ⟨j,hj,rfl⟩:=List.getElem_of_mem hc;exact h j _ (List.getElem?_eq_getElem hj))
 have HF:Hid (¬ ((Pn.jN k=false→ch=0)∧(Pn.jO k=false→v=0)∧(k≠1→n=0)∧(k≠9→cs=[]∧dR=false))→false=q):=Lib.hid (fun hn=>by
  rw [← HQ.out,eq_comm];unfold Pn.fu;rw [decide_eq_false_iff_not];rintro ⟨h1,h2,h3,h4,h5,h6,h7,h8,h9,mU,lI,lJ,iq,_⟩;exact hn ⟨mU,lI,lJ,iq⟩)
 have q1:(k != 1)=true:=by simp;omega
 have q9:(k != 9)=true:=by simp;omega
 have gw:Hid (Pn.jN k=true∧Pn.jO k=true):=Lib.hid (by constructor <;> simp [Pn.jN,Pn.jO] <;> omega)
 by_cases bY:n=0∧dR=false∧cs.length=0
 ·obtain ⟨e0,e1,e2⟩:=bY;subst e0 e1;have e9:cs.length≤0:=by omega
  have kU:=Lib.hid (HS.out (fun h=>by rw [gw.out.1] at h;cases h) (fun h=>by rw [gw.out.2] at h;cases h) (fun _=>rfl) (fun _=>⟨List.eq_nil_of_length_eq_zero (by omega),rfl⟩));clear HS HF
  try clear e3
  try clear e2
  go_enter Tryz.func169,Tryz.ntmps169
  go_wp2_with fail
  refine (tN _ _).mono ?_
  rintro e w3 ⟨rfl,rfl⟩
  rw [gw.out.1]
  go_wp2_with (go_at_call 221;refine (tO _ _).mono ?_;rintro e w4 ⟨rfl,rfl⟩;rw [gw.out.2])
  go_loopw [97] (fun u wr=>∃ j:Nat,j≤cs.length∧u=.int .i64 j∧Hid (aq [] w wr∧∀ (i:Nat) (c:Pn.Cs),i < j→cs[i]?=some c→Pn.lA c=true)) (fun u _=>cs.length - (intOf u).toNat)
  case atStart=>exact ⟨0,Nat.zero_le _,rfl,Lib.hid ⟨KA.out,fun i c hi=>by omega⟩⟩
  case round =>
   obtain ⟨j,hj,rfl,HI⟩:=hrel;obtain ⟨wo,rfl⟩:∃ wo:World,wo=wr:=⟨_,rfl⟩
   obtain rfl:j=cs.length:=by omega
   have HN:Hid (true=q):=Lib.hid (kU.out fun i c hc=>HI.out.2 i c (List.getElem?_eq_some_iff.1 hc).1 hc)
   go_wp2_with fail
   go_ret
   exact ⟨eW HN.out,HI.out.1⟩
 ·have HN:Hid (false=q):=Lib.hid (HF.out (by rintro ⟨d1,d2,d3,d4⟩;have q1:=gw.out.1;have q2:=gw.out.2;exact bY ⟨d3 (by omega),(d4 (by omega)).2,by simp [(d4 (by omega)).1]⟩));have HC:Hid (n=0→dR=false→cs.length=0→False):=Lib.hid (fun e0 e1 e2=>bY ⟨e0,e1,e2⟩);clear bY
  go_enter Tryz.func169,Tryz.ntmps169
  go_wp2_with fail
  refine (tN _ _).mono ?_
  rintro e w3 ⟨rfl,rfl⟩
  rw [gw.out.1]
  go_upto_if 93 with (go_at_call 221;refine (tO _ _).mono ?_;rintro e w4 ⟨rfl,rfl⟩;rw [gw.out.2])
  all_goals
   go_wp2_with fail
   all_goals
    first
     | (exfalso;refine HC.out ?_ ?_ ?_ <;> (first | assumption | omega | (simpa using ‹¬dR=true›));done)
     | (go_ret;exact ⟨eW HN.out,(aq.refl [] w).alloc _⟩)
open Go.RowKit
namespace Pn
theorem Ub {o:Op} {j:Nat} {c:Cs} (h:o.cases[j]?=some c) (hc:lA c=false):fu o=false:=T5 h (by rw [KP];exact hc)
end Pn
set_option maxRecDepth 100000 in
set_option maxHeartbeats 3200000 in
theorem Uc (w:World) (o:Pn.Op) (va:Value) (SA:List Nat) (ha:GV mS 3 w va o.cases SA) (hb:1≤o.kind∧o.kind≤9∧0≤o.ch∧o.ch≤8∧0≤o.n∧o.n≤4∧0≤o.v∧o.v≤255∧o.cases.length≤6) (hk:o.kind=9) :
  Calls Tryz.prog 169 #[.agg #[.int .i64 o.kind,.int .i64 o.ch,.int .i64 o.n,.int .i64 o.v,va,.bool o.dR]] w fun e w'=>e=.returned (.bool (Pn.fu o))∧aq [] w w':=by
 have ju:=ha.le;unfold maxLen at ju;obtain ⟨ao,cap,rfl⟩:=ha.shape;have HA:=Lib.hid ha;obtain ⟨q,iN⟩:∃ q,Pn.fu o=q:=⟨_,rfl⟩
 rw [iN];have HQ:=Lib.hid iN;have KA:Hid (aq [] w (w.alloc (.cells #[.int .i64 o.kind,.int .i64 o.ch,.int .i64 o.n,.int .i64 o.v,.slice ao o.cases.length cap,.bool o.dR] 50))):=Lib.hid ((aq.refl [] w).alloc _);clear ha iN;obtain ⟨b1,b2,b3,b4,b5,b6,b7,b8,b9⟩:=hb;obtain ⟨k,ch,n,v,cs,dR⟩:=o;simp only at *;have HS:Hid ((Pn.jN k=false→ch=0)→(Pn.jO k=false→v=0)→(k≠1→n=0)→(k≠9→cs=[]∧dR=false)→(∀ (j:Nat) (c:Pn.Cs),cs[j]?=some c→Pn.lA c=true)→true=q):=Lib.hid (fun d1 d2 d3 d4 h=>by
  rw [← HQ.out,eq_comm];unfold Pn.fu;rw [decide_eq_true_iff];refine ⟨b1,b2,b3,b4,b5,b6,b7,b8,b9,d1,d2,d3,d4,fun c hc=>?_⟩;obtain ⟨j,hj,rfl⟩:=List.getElem_of_mem hc;exact h j _ (List.getElem?_eq_getElem hj))
 have HF:Hid (¬ ((Pn.jN k=false→ch=0)∧(Pn.jO k=false→v=0)∧(k≠1→n=0)∧(k≠9→cs=[]∧dR=false))→false=q):=Lib.hid (fun hn=>by
  rw [← HQ.out,eq_comm];unfold Pn.fu;rw [decide_eq_false_iff_not];rintro ⟨h1,h2,h3,h4,h5,h6,h7,h8,h9,mU,lI,lJ,iq,_⟩;exact hn ⟨mU,lI,lJ,iq⟩)
 subst hk;have gw:Hid (Pn.jN 9=false∧Pn.jO 9=false):=Lib.hid (by constructor <;> simp [Pn.jN,Pn.jO] <;> omega)
 by_cases bY:ch=0∧v=0∧n=0
 ·obtain ⟨e0,e1,e2⟩:=bY;subst e0 e1 e2;have kU:=Lib.hid (HS.out (fun _=>rfl) (fun _=>rfl) (fun _=>rfl) (fun h=>absurd rfl h));clear HS HF
  try clear e3
  try clear e2
  go_enter Tryz.func169,Tryz.ntmps169
  go_wp2_with fail
  refine (tN _ _).mono ?_
  rintro e w3 ⟨rfl,rfl⟩
  rw [gw.out.1]
  go_wp2_with (go_at_call 221;refine (tO _ _).mono ?_;rintro e w4 ⟨rfl,rfl⟩;rw [gw.out.2])
  go_loopw [97] (fun u wr=>∃ j:Nat,j≤cs.length∧u=.int .i64 j∧Hid (aq [] w wr∧∀ (i:Nat) (c:Pn.Cs),i < j→cs[i]?=some c→Pn.lA c=true)) (fun u _=>cs.length - (intOf u).toNat)
  case atStart=>exact ⟨0,Nat.zero_le _,rfl,Lib.hid ⟨KA.out,fun i c hi=>by omega⟩⟩
  case round =>
   obtain ⟨j,hj,rfl,HI⟩:=hrel;obtain ⟨wo,rfl⟩:∃ wo:World,wo=wr:=⟨_,rfl⟩
   by_cases cJ:j < cs.length
   ·obtain ⟨x,hx⟩:∃ x,cs[j]?=some x:=⟨_,List.getElem?_eq_getElem cJ⟩
    obtain ⟨g1,Ud,rfl,_,oE,a0,a1,a2⟩:=(HA.out.then zo HI.out.1).case hx;have HX:=Lib.hid hx;clear hx;obtain ⟨xs,xc,xv⟩:=x;simp only at a0 a1 a2;have KR:Hid (aq [] w (wo.alloc (.cells #[.bool xs,.int .i64 xc,.int .i64 xv] 72))):=Lib.hid (HI.out.1.alloc _)
    by_cases hr:0≤xc∧xc≤8∧0≤xv∧xv≤255∧(xs=false→xv=0)
    ·have HO:Hid (Pn.lA ⟨xs,xc,xv⟩=true):=Lib.hid (by unfold Pn.lA;rw [decide_eq_true_iff];exact hr);obtain ⟨e1,e2,e3,e4,e5⟩:=hr
     cases xs with
     | true =>
      clear e5
      go_wp2_with fail
      go_roundw
      case rel=>exact ⟨j + 1,by omega,by go_num,Lib.hid ⟨KR.out,fun i c hi hc=>by
       by_cases e:i=j
       ·subst e;rw [HX.out] at hc;cases hc;exact HO.out
       ·exact HI.out.2 i c (by omega) hc⟩⟩
      case measure=>simp [intOf];omega
     | false =>
      have e6:=e5 rfl;subst e6;clear e5
      go_wp2_with fail
      go_roundw
      case rel=>exact ⟨j + 1,by omega,by go_num,Lib.hid ⟨KR.out,fun i c hi hc=>by
       by_cases e:i=j
       ·subst e;rw [HX.out] at hc;cases hc;exact HO.out
       ·exact HI.out.2 i c (by omega) hc⟩⟩
      case measure=>simp [intOf];omega
    ·have HN:Hid (false=q):=Lib.hid (by rw [← HQ.out,Pn.Ub HX.out (by unfold Pn.lA;rw [decide_eq_false_iff_not];exact hr)]);have HR:=Lib.hid hr;clear hr
     cases xs with
     | true =>
      have qJ:Hid (0≤xc→xc≤8→0≤xv→xv≤255→False):=Lib.hid (fun a b c d=>HR.out ⟨a,b,c,d,fun h=>by cases h⟩);clear HR
      go_upto_if 128 with fail
      all_goals
       go_wp2_with fail
       all_goals
        first
         | (exfalso;refine qJ.out ?_ ?_ ?_ ?_ <;> omega)
         | (go_ret;exact ⟨eW HN.out,HI.out.1.alloc _⟩)
     | false =>
      have qJ:Hid (0≤xc→xc≤8→0≤xv→xv≤255→xv≠0):=Lib.hid (fun a b c d e=>HR.out ⟨a,b,c,d,fun _=>e⟩);clear HR
      go_upto_if 128 with fail
      all_goals
       go_wp2_with fail
       all_goals
        first
         | (exfalso;refine qJ.out ?_ ?_ ?_ ?_ ?_ <;> (first | omega | (have h:=(show ((((0≤xc∧xc≤8)∧0≤xv)∧xv≤255)∧(xv != 0)=false) by assumption).2;simpa using h)))
         | (go_ret;exact ⟨eW HN.out,HI.out.1.alloc _⟩)
   ·obtain rfl:j=cs.length:=by omega
    have HN:Hid (true=q):=Lib.hid (kU.out fun i c hc=>HI.out.2 i c (List.getElem?_eq_some_iff.1 hc).1 hc)
    go_wp2_with fail
    go_ret
    exact ⟨eW HN.out,HI.out.1⟩
 ·have HN:Hid (false=q):=Lib.hid (HF.out (by rintro ⟨d1,d2,d3,d4⟩;have q1:=gw.out.1;have q2:=gw.out.2;exact bY ⟨d1 q1,d2 q2,d3 (by omega)⟩));have HC:Hid (ch=0→v=0→n=0→False):=Lib.hid (fun e0 e1 e2=>bY ⟨e0,e1,e2⟩);clear bY
  go_enter Tryz.func169,Tryz.ntmps169
  go_wp2_with fail
  refine (tN _ _).mono ?_
  rintro e w3 ⟨rfl,rfl⟩
  rw [gw.out.1]
  go_upto_if 93 with (go_at_call 221;refine (tO _ _).mono ?_;rintro e w4 ⟨rfl,rfl⟩;rw [gw.out.2])
  all_goals
   go_wp2_with fail
   all_goals
    first
     | (exfalso;refine HC.out ?_ ?_ ?_ <;> (first | assumption | omega | (simpa using ‹¬dR=true›));done)
     | (go_ret;exact ⟨eW HN.out,(aq.refl [] w).alloc _⟩)
open Go.RowKit
namespace Pn
end Pn
set_option maxRecDepth 100000 in
set_option maxHeartbeats 3200000 in
theorem Ue (w:World) (o:Pn.Op) (va:Value) (SA:List Nat) (ha:GV mS 3 w va o.cases SA) (hb:1≤o.kind∧o.kind≤9∧0≤o.ch∧o.ch≤8∧0≤o.n∧o.n≤4∧0≤o.v∧o.v≤255∧o.cases.length≤6) (hk:¬ o.kind=1) (hv:¬ (o.kind=2∨o.kind=4)) (FD:¬ o.kind=9) :
  Calls Tryz.prog 169 #[.agg #[.int .i64 o.kind,.int .i64 o.ch,.int .i64 o.n,.int .i64 o.v,va,.bool o.dR]] w fun e w'=>e=.returned (.bool (Pn.fu o))∧aq [] w w':=by
 have ju:=ha.le;unfold maxLen at ju;obtain ⟨ao,cap,rfl⟩:=ha.shape;have HA:=Lib.hid ha;obtain ⟨q,iN⟩:∃ q,Pn.fu o=q:=⟨_,rfl⟩
 rw [iN];have HQ:=Lib.hid iN;have KA:Hid (aq [] w (w.alloc (.cells #[.int .i64 o.kind,.int .i64 o.ch,.int .i64 o.n,.int .i64 o.v,.slice ao o.cases.length cap,.bool o.dR] 50))):=Lib.hid ((aq.refl [] w).alloc _);clear ha iN;obtain ⟨b1,b2,b3,b4,b5,b6,b7,b8,b9⟩:=hb;obtain ⟨k,ch,n,v,cs,dR⟩:=o;simp only at *;have HS:Hid ((Pn.jN k=false→ch=0)→(Pn.jO k=false→v=0)→(k≠1→n=0)→(k≠9→cs=[]∧dR=false)→(∀ (j:Nat) (c:Pn.Cs),cs[j]?=some c→Pn.lA c=true)→true=q):=Lib.hid (fun d1 d2 d3 d4 h=>by
  rw [← HQ.out,eq_comm];unfold Pn.fu;rw [decide_eq_true_iff];refine ⟨b1,b2,b3,b4,b5,b6,b7,b8,b9,d1,d2,d3,d4,fun c hc=>?_⟩;obtain ⟨j,hj,rfl⟩:=List.getElem_of_mem hc;exact h j _ (List.getElem?_eq_getElem hj))
 have HF:Hid (¬ ((Pn.jN k=false→ch=0)∧(Pn.jO k=false→v=0)∧(k≠1→n=0)∧(k≠9→cs=[]∧dR=false))→false=q):=Lib.hid (fun hn=>by
  rw [← HQ.out,eq_comm];unfold Pn.fu;rw [decide_eq_false_iff_not];rintro ⟨h1,h2,h3,h4,h5,h6,h7,h8,h9,mU,lI,lJ,iq,_⟩;exact hn ⟨mU,lI,lJ,iq⟩)
 have q1:(k != 1)=true:=by simp;omega
 have q9:(k != 9)=true:=by simp;omega
 have gw:Hid (Pn.jN k=true∧Pn.jO k=false):=Lib.hid (by constructor <;> simp [Pn.jN,Pn.jO] <;> omega)
 by_cases bY:v=0∧n=0∧dR=false∧cs.length=0
 ·obtain ⟨e0,e1,e2,e3⟩:=bY;subst e0 e1 e2;have e9:cs.length≤0:=by omega
  have kU:=Lib.hid (HS.out (fun h=>by rw [gw.out.1] at h;cases h) (fun _=>rfl) (fun _=>rfl) (fun _=>⟨List.eq_nil_of_length_eq_zero (by omega),rfl⟩));clear HS HF
  try clear e3
  try clear e2
  go_enter Tryz.func169,Tryz.ntmps169
  go_wp2_with fail
  refine (tN _ _).mono ?_
  rintro e w3 ⟨rfl,rfl⟩
  rw [gw.out.1]
  go_wp2_with (go_at_call 221;refine (tO _ _).mono ?_;rintro e w4 ⟨rfl,rfl⟩;rw [gw.out.2])
  go_loopw [97] (fun u wr=>∃ j:Nat,j≤cs.length∧u=.int .i64 j∧Hid (aq [] w wr∧∀ (i:Nat) (c:Pn.Cs),i < j→cs[i]?=some c→Pn.lA c=true)) (fun u _=>cs.length - (intOf u).toNat)
  case atStart=>exact ⟨0,Nat.zero_le _,rfl,Lib.hid ⟨KA.out,fun i c hi=>by omega⟩⟩
  case round =>
   obtain ⟨j,hj,rfl,HI⟩:=hrel;obtain ⟨wo,rfl⟩:∃ wo:World,wo=wr:=⟨_,rfl⟩
   obtain rfl:j=cs.length:=by omega
   have HN:Hid (true=q):=Lib.hid (kU.out fun i c hc=>HI.out.2 i c (List.getElem?_eq_some_iff.1 hc).1 hc)
   go_wp2_with fail
   go_ret
   exact ⟨eW HN.out,HI.out.1⟩
 ·have HN:Hid (false=q):=Lib.hid (HF.out (by rintro ⟨d1,d2,d3,d4⟩;have q1:=gw.out.1;have q2:=gw.out.2;exact bY ⟨d2 q2,d3 (by omega),(d4 (by omega)).2,by simp [(d4 (by omega)).1]⟩));have HC:Hid (v=0→n=0→dR=false→cs.length=0→False):=Lib.hid (fun e0 e1 e2 e3=>bY ⟨e0,e1,e2,e3⟩);clear bY
  go_enter Tryz.func169,Tryz.ntmps169
  go_wp2_with fail
  refine (tN _ _).mono ?_
  rintro e w3 ⟨rfl,rfl⟩
  rw [gw.out.1]
  go_upto_if 93 with (go_at_call 221;refine (tO _ _).mono ?_;rintro e w4 ⟨rfl,rfl⟩;rw [gw.out.2])
  all_goals
   go_wp2_with fail
   all_goals
    first
     | (exfalso;refine HC.out ?_ ?_ ?_ ?_ <;> (first | assumption | omega | (simpa using ‹¬dR=true›));done)
     | (go_ret;exact ⟨eW HN.out,(aq.refl [] w).alloc _⟩)
open Go.RowKit
set_option maxRecDepth 100000 in
set_option maxHeartbeats 3200000 in
theorem KQ (w:World) (o:Pn.Op) (va:Value) (SA:List Nat) (ha:GV mS 3 w va o.cases SA) :
  Calls Tryz.prog 169 #[.agg #[.int .i64 o.kind,.int .i64 o.ch,.int .i64 o.n,.int .i64 o.v,va,.bool o.dR]] w fun e w'=>e=.returned (.bool (Pn.fu o))∧aq [] w w':=by
 by_cases hb:1≤o.kind∧o.kind≤9∧0≤o.ch∧o.ch≤8∧0≤o.n∧o.n≤4∧0≤o.v∧o.v≤255∧o.cases.length≤6
 ·by_cases hk:o.kind=1
  ·exact T9 w o va SA ha hb hk
  by_cases hv:o.kind=2∨o.kind=4
  ·exact Ua w o va SA ha hb hv hk
  by_cases FD:o.kind=9
  ·exact Uc w o va SA ha hb FD
  ·exact Ue w o va SA ha hb hk hv FD
 ·exact T8 w o va SA ha hb
open Go.RowKit
namespace Pn
theorem Uf {l:List Op} {j:Nat} {o:Op} (h:l[j]?=some o) (ho:fu o=false):mK l=false:=by
 unfold mK;rw [decide_eq_false_iff_not];rintro ⟨_,h2⟩;have:=h2 o (List.mem_of_getElem? h);rw [ho] at this;cases this
theorem Ug {l:List Op} (h:16 < l.length):mK l=false:=by
 unfold mK;rw [decide_eq_false_iff_not];rintro ⟨h1,_⟩;omega
theorem Uh {l:List Op} (h:l.length≤16) (ho:∀ (j:Nat) (o:Op),j < l.length→l[j]?=some o→fu o=true):mK l=true:=by
 unfold mK;rw [decide_eq_true_iff];refine ⟨h,fun o hm=>?_⟩;obtain ⟨j,hj,rfl⟩:=List.getElem_of_mem hm;exact ho j _ hj (List.getElem?_eq_getElem hj)
theorem KS {p:List (List Op)} {k:Nat} {l:List Op} (h:p[k]?=some l) (hl:mK l=false):right p=false:=by
 unfold right;rw [decide_eq_false_iff_not];rintro ⟨_,_,h2⟩;have:=h2 l (List.mem_of_getElem? h);rw [hl] at this;cases this
theorem Ui {p:List (List Op)} (h:p.length < 1∨8 < p.length):right p=false:=by
 unfold right;rw [decide_eq_false_iff_not];rintro ⟨h1,h2,_⟩;omega
theorem Uj {p:List (List Op)} (h1:1≤p.length) (h2:p.length≤8) (ho:∀ (j:Nat) (l:List Op),j < p.length→p[j]?=some l→mK l=true):right p=true:=by
 unfold right;rw [decide_eq_true_iff];refine ⟨h1,h2,fun o hm=>?_⟩;obtain ⟨j,hj,rfl⟩:=List.getElem_of_mem hm;exact ho j _ hj (List.getElem?_eq_getElem hj)
end Pn
set_option maxHeartbeats 1600000 in
theorem Uk (w:World) (v:Value) (p:List (List Pn.Op)) (S:List Nat) (h:GV tM 1 w v p S) :
  Calls Tryz.prog 92 #[v] w fun e w'=>e=.returned (.bool (Pn.right p))∧aq [] w w':=by
 have hle:=h.le;unfold maxLen at hle;obtain ⟨ao,cap,rfl⟩:=h.shape;have HP:=Lib.hid h;obtain ⟨q,iN⟩:∃ q,Pn.right p=q:=⟨_,rfl⟩
 rw [iN];have HQ:=Lib.hid iN;clear h iN
 go_enter Tryz.func92,Tryz.ntmps92
 go_wp2_with fail
 go_loopw [9] (fun u wr=>∃ k:Nat,k≤p.length∧u=.int .i64 k∧Hid (aq [] w wr∧∀ (j:Nat) (l:List Pn.Op),j < k→p[j]?=some l→Pn.mK l=true)) (fun u _=>p.length - (intOf u).toNat)
 case atStart=>exact ⟨0,Nat.zero_le _,rfl,Lib.hid ⟨aq.refl _ _,fun j l hj=>by omega⟩⟩
 case round =>
  obtain ⟨k,hk,rfl,HI⟩:=hrel;obtain ⟨wo,rfl⟩:∃ wo:World,wo=wr:=⟨_,rfl⟩
  by_cases cJ:k < p.length
  ·obtain ⟨l,hx⟩:∃ l,p[k]?=some l:=⟨_,List.getElem?_eq_getElem cJ⟩
   obtain ⟨g1,Ud,_,U1,rfl,_,_,a0,⟨v1,Ek,BW⟩,_⟩:=(HP.out.then KL HI.out.1).one hx
   cases Ek;have rG:=BW.le;unfold maxLen at rG;obtain ⟨am,cm,rfl⟩:=BW.shape;have HU:=Lib.hid BW;have HX:=Lib.hid hx;clear hx BW
   go_wp2_with fail
   go_loopw [15] (fun u wr=>∃ j:Nat,j≤l.length∧u=.int .i64 j∧Hid (aq [] w wr∧aq [] wo wr∧∀ (i:Nat) (o:Pn.Op),i < j→l[i]?=some o→Pn.fu o=true)) (fun u _=>l.length - (intOf u).toNat)
   case atStart=>exact ⟨0,Nat.zero_le _,rfl,Lib.hid ⟨HI.out.1,aq.refl _ _,fun i o hi=>by omega⟩⟩
   case round =>
    obtain ⟨j,hj,rfl,HJ⟩:=hrel;obtain ⟨wi,rfl⟩:∃ wi:World,wi=wr:=⟨_,rfl⟩
    by_cases uZ:j < l.length
    ·obtain ⟨o,ho⟩:∃ o,l[j]?=some o:=⟨_,List.getElem?_eq_getElem uZ⟩
     obtain ⟨g2,vq,vc,U2,rfl,_,_,⟨b0,b1,b2,b3,b4,b5⟩,hu,_⟩:=(HU.out.then FB HJ.out.2.1).op ho;obtain ⟨ac,cc,rfl⟩:=hu.shape;have HO:=Lib.hid ho;have HG:=Lib.hid hu;clear ho hu
     cases hr:Pn.fu o with
     | false =>
      have HN:Hid (false=q):=Lib.hid (by rw [← HQ.out,Pn.KS HX.out (Pn.Uf HO.out hr)])
      go_wp2_with fail
      refine (KQ _ o _ U2 (HG.out.then zo ((aq.refl [] wi).alloc _))).mono ?_
      rintro e w3 ⟨rfl,k3⟩
      rw [hr];have K3:=Lib.hid ((HJ.out.1.alloc _).then k3);have K4:=Lib.hid ((HJ.out.2.1.alloc _).then k3);clear k3
      go_wp2_with fail
      go_ret
      exact ⟨eW HN.out,K3.out⟩
     | true =>
      go_wp2_with fail
      refine (KQ _ o _ U2 (HG.out.then zo ((aq.refl [] wi).alloc _))).mono ?_
      rintro e w3 ⟨rfl,k3⟩
      rw [hr];have K3:=Lib.hid ((HJ.out.1.alloc _).then k3);have K4:=Lib.hid ((HJ.out.2.1.alloc _).then k3);have Ul:=Lib.hid hr;clear k3 hr
      go_wp2_with fail
      go_roundw
      case rel=>exact ⟨j + 1,by omega,by go_num,Lib.hid ⟨K3.out,K4.out,fun i o2 hi h2=>by
       by_cases e:i=j
       ·subst e;rw [HO.out] at h2;cases h2;exact Ul.out
       ·exact HJ.out.2.2 i o2 (by omega) h2⟩⟩
      case measure=>simp [intOf];omega
    ·obtain rfl:j=l.length:=by omega
     by_cases KT:16 < l.length
     ·have HN:Hid (false=q):=Lib.hid (by rw [← HQ.out,Pn.KS HX.out (Pn.Ug KT)])
      go_wp2_with fail
      go_ret
      exact ⟨eW HN.out,HJ.out.1⟩
     have Um:l.length≤16:=by omega
     clear KT;have Un:Hid (Pn.mK l=true):=Lib.hid (Pn.Uh Um HJ.out.2.2)
     go_wp2_with fail
     go_roundw
     case rel=>exact ⟨k + 1,by omega,by go_num,Lib.hid ⟨HJ.out.1,fun i l2 hi h2=>by
      by_cases e:i=k
      ·subst e;rw [HX.out] at h2;cases h2;exact Un.out
      ·exact HI.out.2 i l2 (by omega) h2⟩⟩
     case measure=>simp [intOf];omega
  ·obtain rfl:k=p.length:=by omega
   by_cases hlen:p.length < 1∨8 < p.length
   ·have HN:Hid (false=q):=Lib.hid (by rw [← HQ.out,Pn.Ui hlen]);rcases hlen with hl | hl
    ·go_wp2_with fail
     all_goals
      go_ret
      exact ⟨eW (by have h:=HN.out;subst h;first | rfl | (simp <;> omega)),HI.out.1⟩
    ·have rL:1≤p.length:=by omega
     go_wp2_with fail
     all_goals
      go_ret
      exact ⟨eW (by have h:=HN.out;subst h;first | rfl | (simp <;> omega)),HI.out.1⟩
   ·have rL:1≤p.length:=by omega
    have Uo:p.length≤8:=by omega
    have HN:Hid (true=q):=Lib.hid (by rw [← HQ.out,Pn.Uj rL Uo HI.out.2])
    go_wp2_with fail
    all_goals
     go_ret
     exact ⟨eW (by have h:=HN.out;subst h;first | rfl | (simp <;> omega)),HI.out.1⟩
end Go.Proofs.YtdjhhbpedllnhaaGreat
