/-
  What the laws need, part D12.
  Conditions: none.
-/
import Derived.Test.YtofnbflkhgammaaGreatD11
import Derived.Laws.StructEq
set_option linter.unusedVariables false
set_option linter.unusedSimpArgs false
set_option linter.unnecessarySimpa false
set_option maxHeartbeats 2000000
namespace Go.Proofs.YtofnbflkhgammaaGreat
open Go.RowKit
namespace Fl
open Sx
set_option maxRecDepth 100000
theorem BP (b:Nat) (u:U) (s:ah) (F:Fw s) :
  ax Tryz.prog 17 [.c (.v (pt b))] (wd b u s) (fun _:Unit=>(.agg (az s),wd b u s)):=by
 have f1:=F.su;have f2:=F.dn;have f3:=F.dr;have f4:=F.fr;have z:((s.fresh.toNat:Nat):Int)=s.fresh:=by omega
 have CM:=TG u.pP s.cV.toNat s.bN.toNat (ee u s) u.TP F.mb;have CF:=TI u.pP s.cV.toNat s.bN.toNat (ee u s) u.TP;rw [show (((ee u s).f:Nat):Int)=s.fresh from z] at CF;have CD:ax Tryz.prog 62 [.c (.v (pt u.bD))] [.box u.bD 145 [dW s,nI s.drawn]] (fun _:Unit=>(.c (nI s.drawn),[.box u.bD 145 [dW s,nI s.drawn]])):=TU u.bD s.cG s.drawn;refine ax.intro Tryz.func17 rfl rfl rfl (fun ok e=>?_)
 repeat (first | refine J.seq ?_ | (refine J.region ?_;refine JO.alloc rfl (qb rfl) ?_;intro b2;refine JO.nil ?_))
 refine J.join (ι:=Nat) (fun b3=>[(3,.c (.v (pt b3))),(2,.c (.v (pt b2))),(0,.c (.v (pt b)))]) (fun b3=>.box b3 36 (Ft s (.v (.slice none 0 0)) (.v (.slice none 0 0)) (.v (.slice none 0 0))) :: .box b2 36 rP :: wd b u s) (fun b3=>?rest) (fun rest=>?_)
 case rest =>
  repeat (first | (refine K.bi ?_;refine jq rfl rfl rfl (Qt.BN 3 rfl rfl (wS u s)) ?_) | refine gn ?_)
  refine J.oB 47 25 ?_;refine J.oB 28 1 ?_;refine J.loop (ι:={ q:Nat × Value × Value // q.1≤s.gs.length }) (fun q=>[(52,.c (nI q.1.1)),(51,.c (nI s.gs.length)),(50,.c (.v u.vG)),(3,.c (.v (pt b3))),(2,.c (.v (pt b2))),(0,.c (.v (pt b)))]) (fun q=>.row q.1.2.1 28 1 ((s.cache.take q.1.1).map fun l=>[ints l]) :: .row q.1.2.2 47 25 ((s.gs.take q.1.1).map eG) :: .box b3 36 (Ft s (.v q.1.2.2) (.v (.slice none 0 0)) (.v q.1.2.1)) :: .box b2 36 rP :: wd b u s) (fun q=>s.gs.length - q.1.1) ⟨(0,.slice none 0 0,.slice none 0 0),Nat.zero_le _⟩ (fun X h=>h.aW ⟨rfl,rfl,rfl,rfl,rfl,rfl,trivial⟩) (fun q ih=>?_);obtain ⟨⟨k,vc,vg⟩,hk⟩:=q;simp only at hk ih ⊢
  by_cases aQ:k < s.gs.length
  ·have t1:(decide ((k:Int) < (s.gs.length:Int)))=true:=by simpa using aQ
   have OW:∀ x:Int,x=k→0≤x∧x < (fB u s).length:=fun x hx=>by rw [wS];omega
   have hx:s.gs[k]?=some (aa s k):=by unfold aa;rw [List.getD_eq_getElem?_getD,List.getElem?_eq_getElem aQ];rfl
   have hm:=List.mem_of_getElem? hx;have BS:=Tq u.pB (s.gs.map fun x=>(x.status,x.token)) u.TB (k:Int);have BT:=Tr u.pB (s.gs.map fun x=>(x.status,x.token)) u.TB (k:Int);rw [Fq aQ] at BS;rw [TX aQ] at BT;have CC:=TH u.pP s.cV.toNat s.bN.toNat (ee u s) u.TP (k:Int) F.cb;obtain ⟨o1,o2⟩:=F.op _ hm;obtain ⟨o3,o4,o5,o6⟩:=F.Lz _ hm;have bZ:(s.cache.take k).length=k:=by rw [List.length_take,F.cl];omega
   have DB:(s.gs.take k).length=k:=by rw [List.length_take];omega
   have g8:=F.gs
   repeat (first | (refine K.load ?_;((refine jq rfl rfl rfl (Qt.PF rfl ((wT aQ)) (by exact rfl)) ?_))) | (refine K.store ?_;refine JO.ld (Ld.aX rfl rfl rfl (by exact rfl) (by exact rfl)) rfl (fun _=>?_)) | (refine K.indexAddr ?_;refine jq rfl rfl rfl (Qt.bM rfl rfl (OW _ rfl).1 (OW _ rfl).2) ?_) | (refine K.call ?_;refine JO.ld (Ld.Tp (TW _ (aa s k) (u.sg k) (u.wk k) (i:=k + 17) (j:=s.gs.length + k + 17) (TO aQ) (zw aQ) o1 o2 o3 o4 o5 o6) (qb rfl) rfl (aK.cons .refl .nil)) rfl ?_;intro _) | refine av ?_ | intro _)
   refine J.draw (by kernel_rfl) rfl ?_;refine JW.iS [12] (some 13) ?_;refine tk 0 ?_;refine tk 1 ?_;refine tk 2 ?_;refine tk 3 ?_;refine tk 4 ?_;refine JD.qv 6 rfl rfl (by kernel_rfl) rfl (qb rfl) (Qt.move rfl) rfl ?_;refine JD.qv 7 rfl rfl (by kernel_rfl) rfl (qb rfl) (Qt.nilCheck rfl rfl) rfl ?_;refine JD.qv 8 rfl rfl (by kernel_rfl) rfl (qb rfl) (Qt.fieldAddr rfl rfl) rfl ?_
   (refine JD.qv 9 rfl rfl (by kernel_rfl) rfl (qb rfl) (Qt.fR rfl (by exact rfl)) rfl ?_)
   refine JD.qv 10 rfl rfl (by kernel_rfl) rfl (qb rfl) (Qt.move rfl) rfl ?_;refine jl 5 rfl rfl rfl rfl (Ld.fQ BS (qb rfl) rfl (.cons .refl (.cons .refl .nil))) (.iO rfl) (fun _=>?_);refine tk 12 ?_;refine jl 11 rfl rfl rfl rfl (Ld.fQ BT (qb rfl) rfl (.cons .refl (.cons .refl .nil))) (.iO rfl) (fun _=>?_);refine jt 13 rfl rfl (Ld.cZ rfl rfl (by exact rfl)) (fun _=>?_);refine JW.iS [12] (some 15) ?_;refine jk 14 rfl rfl rfl rfl (Qt.fieldAddr rfl rfl) ?_;refine jt 15 rfl rfl (Ld.cZ rfl rfl (by exact rfl)) (fun _=>?_);refine bS ?_
   repeat (first | (refine K.store ?_;refine JO.ld (Ld.cZ rfl rfl (by exact rfl)) rfl (fun _=>?_)) | (refine K.bi ?_;refine JO.ld (Ld.cA (qb rfl) rfl rfl .cY (by (simp;omega))) rfl (fun _=>?_)) | refine av ?_ | intro _)
   refine J.eP 1 ?_;refine J.eP 1 ?_;refine J.draw (by kernel_rfl) rfl ?_;refine JW.iS [14,1] (some 11) ?_;refine tk 0 ?_;refine tk 1 ?_;refine tk 2 ?_;refine tk 3 ?_;refine tk 4 ?_;refine tk 5 ?_;refine tk 6 ?_;refine jl 7 rfl rfl rfl rfl (Ld.fQ CC (qb rfl) rfl (.cons .refl (.cons .refl .nil))) (.iO rfl) (fun _=>?_);refine jl 8 rfl rfl rfl rfl (Ld.oZ (qb rfl) rfl rfl rfl rfl rfl) .none (fun _=>?_);refine jl 9 rfl rfl rfl rfl (Ld.cA (qb rfl) rfl rfl .read (by (simp;omega))) (.uI rfl) (fun _=>?_);refine jk 10 rfl rfl rfl rfl (Qt.fieldAddr rfl rfl) ?_;refine jt 11 rfl rfl (Ld.cZ rfl rfl (by exact rfl)) (fun _=>?_);refine bS ?_
   repeat (refine gn ?_)
   rename_i Fu _ _ _ Fv _;refine J.fK ?_ ((ih ⟨(k + 1,Fv,Fu),by simp only;omega⟩ (by simp only;omega)).aW ⟨rfl,rfl,rfl,rfl,rfl,rfl,trivial⟩);have cF:=TZ (s:=s) (k:=k) (by rw [F.cl];exact aQ);rw [List.take_add_one,List.take_add_one,hx,cF,List.map_append,List.map_append];rfl
  ·have t1:(decide ((k:Int) < (s.gs.length:Int)))=false:=by simpa using aQ
   obtain rfl:k=s.gs.length:=by omega
   refine J.nk 0 2 6 rfl rfl rfl ?_;refine J.nk 0 1 3 rfl rfl rfl ?_
   repeat (first | (refine K.bi ?_;refine jq rfl rfl rfl (Qt.BN 4 (n:=s.au.length) rfl rfl (by simp)) ?_) | refine gn ?_)
   refine J.oB 72 6 ?_;rw [List.take_of_length_le (by rw [F.cl];exact Nat.le_refl _),List.take_of_length_le (Nat.le_refl _)];refine J.loop (ι:={ q:Nat × Value // q.1≤s.au.length }) (fun q=>[(96,.c (nI q.1.1)),(95,.c (nI s.au.length)),(94,.c (.v u.vR)),(3,.c (.v (pt b3))),(2,.c (.v (pt b2))),(0,.c (.v (pt b)))]) (fun q=>.row q.1.2 72 6 ((s.au.take q.1.1).map eC) :: .box b3 36 (Ft s (.r 25 (s.gs.map eG)) (.v q.1.2) (.r 1 (s.cache.map fun l=>[ints l]))) :: .box b2 36 rP :: wd b u s) (fun q=>s.au.length - q.1.1) ⟨(0,.slice none 0 0),Nat.zero_le _⟩ (fun X h=>h.aW ⟨rfl,rfl,rfl,rfl,rfl,rfl,trivial⟩) (fun q ih=>?_);obtain ⟨⟨k,vh⟩,hk⟩:=q;simp only at hk ih ⊢
   by_cases aQ:k < s.au.length
   ·have t1:(decide ((k:Int) < (s.au.length:Int)))=true:=by simpa using aQ
    have hx:=oD aQ;have hm:=List.mem_of_getElem? hx;have c8:=F.ch;have BQ:=F.cp _ hm;have bZ:(s.au.take k).length=k:=by rw [List.length_take];omega
    have RR:=Lj (lu u s) u.TR (wU (u:=u) aQ);rw [show (((cn s ((k:Int) + 1)).cap.toNat:Nat):Int)=(cn s ((k:Int) + 1)).cap by omega] at RR;have RA:=TN (lu u s) u.TR (wU (u:=u) aQ);have LO:=Tw u.pL (s.au.map (·.lock)) u.TL (k:Int);rw [TY aQ] at LO;have QR:=Lh u.pQ s.aC.length (qW s) u.TQ (2 * ((k:Int) + 1) - 2);rw [BO (by omega)] at QR;have QS:=Lh u.pQ s.aC.length (qW s) u.TQ (2 * ((k:Int) + 1) - 1);rw [Fs (by omega)] at QS;have w1:IntKind.i64.wrap ((k:Int) + 1)=(k:Int) + 1:=eL (by omega) (by omega);have OR:∀ x:Int,x=k→0≤x∧x < ((List.range s.au.length).map fun i=>[A.v (u.rs i)]).length:=fun x hx=>by simp;omega
    have OC:∀ x:Int,x=k→0≤x∧x < (s.au.map fun c=>[bI c.closed]).length:=fun x hx=>by simp;omega
    have AR:((List.range s.au.length).map fun i=>[A.v (u.rs i)])[((k:Int)).toNat]?=some [A.v (u.rs k)]:=by rw [Int.toNat_natCast,List.getElem?_map,List.getElem?_range aQ];rfl
    have AC:(s.au.map fun c=>[bI c.closed])[((k:Int)).toNat]?=some [bI (cn s ((k:Int) + 1)).closed]:=by rw [Int.toNat_natCast,List.getElem?_map,hx];rfl
    repeat (first | (refine K.load ?_;refine jq rfl rfl rfl (Qt.cE rfl (AR) (by exact rfl)) ?_) | (refine K.indexAddr ?_;refine jq rfl rfl rfl (Qt.bM rfl rfl (OR _ rfl).1 (OR _ rfl).2) ?_) | refine gn ?_)
    refine J.draw (by kernel_rfl) rfl ?_;refine JW.iS [0,11,12,14] (some 39) ?_;refine tk 0 ?_;refine tk 1 ?_;refine tk 2 ?_;refine tk 4 ?_;refine tk 6 ?_;refine tk 7 ?_;refine tk 8 ?_;refine tk 9 ?_;refine tk 10 ?_;refine JD.take 11 rfl rfl (by kernel_rfl) rfl (qb rfl) (Qt.bM rfl rfl (OC _ rfl).1 (OC _ rfl).2) rfl ?_;refine JD.take 12 rfl rfl (by kernel_rfl) rfl (qb rfl) (Qt.cE rfl AC rfl) rfl ?_;refine tk 13 ?_;refine tk 14 ?_;refine tk 15 ?_;refine tk 16 ?_;refine tk 17 ?_;refine tk 19 ?_;refine tk 20 ?_;refine tk 21 ?_;refine tk 22 ?_;refine tk 23 ?_;refine JD.take 24 rfl rfl (by kernel_rfl) rfl (qb rfl) (Qt.dj rfl rfl rfl w1) rfl ?_;refine tk 27 ?_;refine tk 28 ?_;refine tk 29 ?_;refine tk 30 ?_;refine tk 31 ?_;refine JD.take 32 rfl rfl (by kernel_rfl) rfl (qb rfl) (Qt.dj rfl rfl rfl w1) rfl ?_;refine jl 3 rfl rfl rfl rfl (Ld.fQ RR (qb rfl) rfl (.cons .refl .nil)) (.iO rfl) (fun _=>?_);refine jl 5 rfl rfl rfl rfl (Ld.fQ RA (qb rfl) rfl (.cons .refl .nil)) (.iO rfl) (fun _=>?_);refine jl 18 rfl rfl rfl rfl (Ld.fQ LO (qb rfl) rfl (.cons .refl (.cons .refl .nil))) (.iO rfl) (fun _=>?_);refine jl 25 rfl rfl rfl rfl (Ld.pure (LA ((k:Int) + 1) (by omega) (by omega)) (qb rfl) rfl lq) .none (fun _=>?_);refine jl 26 rfl rfl rfl rfl (Ld.fQ QR (qb rfl) rfl (.cons .refl (.cons .refl .nil))) (.iO rfl) (fun _=>?_);refine jl 33 rfl rfl rfl rfl (Ld.pure (LB ((k:Int) + 1) (by omega) (by omega)) (qb rfl) rfl lq) .none (fun _=>?_);refine jl 34 rfl rfl rfl rfl (Ld.fQ QS (qb rfl) rfl (.cons .refl (.cons .refl .nil))) (.iO rfl) (fun _=>?_);refine jk 35 rfl rfl rfl rfl (Qt.build rfl (by kernel_rfl)) ?_;refine jl 36 rfl rfl rfl rfl (Ld.oZ (qb rfl) rfl rfl rfl rfl rfl) .none (fun _=>?_);refine jl 37 rfl rfl rfl rfl (Ld.cA (qb rfl) rfl rfl .read (by (simp;omega))) (.uI rfl) (fun _=>?_);refine jk 38 rfl rfl rfl rfl (Qt.fieldAddr rfl rfl) ?_;refine jt 39 rfl rfl (Ld.cZ rfl rfl (by exact rfl)) (fun _=>?_);refine bS ?_
    repeat (refine gn ?_)
    rename_i T0 _;refine J.fK ?_ ((ih ⟨(k + 1,T0),by simp only;omega⟩ (by simp only;omega)).aW ⟨rfl,rfl,rfl,rfl,rfl,rfl,trivial⟩);rw [List.take_add_one,hx,List.map_append];rfl
   ·have t1:(decide ((k:Int) < (s.au.length:Int)))=false:=by simpa using aQ
    obtain rfl:k=s.au.length:=by omega
    rw [List.take_of_length_le (Nat.le_refl _)];refine J.nk 0 1 4 rfl rfl rfl ?_
    repeat (first | (refine K.store ?_;refine JO.ld (Ld.aX rfl rfl rfl (by exact rfl) (by exact rfl)) rfl (fun _=>?_)) | refine gn ?_)
    (exact J.iN [_,_] rfl Tryz.func17 rfl (.cons (.cell 1 rfl rfl rfl) .nil) () la rfl)
 refine J.draw (by kernel_rfl) rfl ?_;refine JW.iS [11,7] (some 40) ?_;refine tk 0 ?_;refine tk 1 ?_;refine tk 2 ?_;refine tk 3 ?_;refine tk 4 ?_;refine tk 5 ?_;refine tk 6 ?_;refine tk 7 ?_;refine tk 8 ?_;refine tk 9 ?_;refine tk 10 ?_;refine tk 11 ?_;refine tk 13 ?_;refine tk 14 ?_;refine tk 15 ?_;refine tk 16 ?_;refine tk 18 ?_;refine tk 19 ?_;refine tk 20 ?_;refine tk 21 ?_;refine tk 23 ?_;refine tk 24 ?_;refine tk 25 ?_;refine tk 26 ?_;refine tk 28 ?_;refine tk 29 ?_;refine tk 30 ?_;refine tk 31 ?_;refine tk 33 ?_;refine tk 34 ?_;refine tk 35 ?_;refine tk 36 ?_;refine JD.cU (i:=12) (j:=39) (by kernel_rfl) ?_ ?_;refine JS.cz rfl rfl rfl (qb rfl) (Ld.iT (qb rfl) rfl rfl .cY (by (simp;omega))) .none (fun _=>?_);refine JD.cU (i:=17) (j:=39) (by kernel_rfl) ?_ ?_;refine JS.cz rfl rfl rfl (qb rfl) (Ld.fQ CM (qb rfl) rfl (.cons .refl .nil)) (.iO rfl) (fun _=>?_);refine JD.cU (i:=22) (j:=39) (by kernel_rfl) ?_ ?_;refine JS.cz rfl rfl rfl (qb rfl) (Ld.fQ CF (qb rfl) rfl (.cons .refl .nil)) (.iO rfl) (fun _=>?_);refine JD.cU (i:=27) (j:=39) (by kernel_rfl) ?_ ?_;refine JS.cz rfl rfl rfl (qb rfl) (Ld.iT (qb rfl) rfl rfl .read (by (simp;omega))) .none (fun _=>?_);refine JD.cU (i:=32) (j:=39) (by kernel_rfl) ?_ ?_;refine JS.cz rfl rfl rfl (qb rfl) (Ld.fQ CD (qb rfl) rfl (.cons .refl .nil)) (.m9 rfl) (fun _=>?_);refine JD.cU (i:=37) (j:=39) (by kernel_rfl) ?_ ?_;refine JS.cz rfl rfl rfl (qb rfl) (Ld.iT (qb rfl) rfl rfl .cY (by (simp;omega))) .none (fun _=>?_);refine JD.lV ?_;refine tk 38 ?_;refine jl 39 rfl rfl rfl rfl (Ld.alloc (qb rfl)) .none (fun _=>?_);refine jt 40 rfl rfl (Ld.aX rfl rfl rfl (by exact rfl) (by exact rfl)) (fun _=>?_);refine bS ?_
 rotate_left
 refine JS.cz rfl rfl rfl (qb rfl) (Ld.alloc (qb rfl)) .none (fun _=>?_);refine jl 37 rfl rfl rfl rfl (Ld.iT (qb rfl) rfl rfl .cY (by (simp;omega))) .none (fun _=>?_);refine jk 38 rfl rfl rfl rfl (Qt.build rfl (by kernel_rfl)) ?_;refine jt 40 rfl rfl (Ld.aX rfl rfl rfl (by exact rfl) (by exact rfl)) (fun _=>?_);refine bS ?_
 rotate_left
 refine JS.cz rfl rfl rfl (qb rfl) (Ld.alloc (qb rfl)) .none (fun _=>?_);refine jl 32 rfl rfl rfl rfl (Ld.fQ CD (qb rfl) rfl (.cons .refl .nil)) (.m9 rfl) (fun _=>?_);refine jl 37 rfl rfl rfl rfl (Ld.iT (qb rfl) rfl rfl .cY (by (simp;omega))) .none (fun _=>?_);refine jk 38 rfl rfl rfl rfl (Qt.build rfl (by kernel_rfl)) ?_;refine jt 40 rfl rfl (Ld.aX rfl rfl rfl (by exact rfl) (by exact rfl)) (fun _=>?_);refine bS ?_
 rotate_left
 refine JS.cz rfl rfl rfl (qb rfl) (Ld.alloc (qb rfl)) .none (fun _=>?_);refine jl 27 rfl rfl rfl rfl (Ld.iT (qb rfl) rfl rfl .read (by (simp;omega))) .none (fun _=>?_);refine jl 32 rfl rfl rfl rfl (Ld.fQ CD (qb rfl) rfl (.cons .refl .nil)) (.m9 rfl) (fun _=>?_);refine jl 37 rfl rfl rfl rfl (Ld.iT (qb rfl) rfl rfl .cY (by (simp;omega))) .none (fun _=>?_);refine jk 38 rfl rfl rfl rfl (Qt.build rfl (by kernel_rfl)) ?_;refine jt 40 rfl rfl (Ld.aX rfl rfl rfl (by exact rfl) (by exact rfl)) (fun _=>?_);refine bS ?_
 rotate_left
 refine JS.cz rfl rfl rfl (qb rfl) (Ld.alloc (qb rfl)) .none (fun _=>?_);refine jl 22 rfl rfl rfl rfl (Ld.fQ CF (qb rfl) rfl (.cons .refl .nil)) (.iO rfl) (fun _=>?_);refine jl 27 rfl rfl rfl rfl (Ld.iT (qb rfl) rfl rfl .read (by (simp;omega))) .none (fun _=>?_);refine jl 32 rfl rfl rfl rfl (Ld.fQ CD (qb rfl) rfl (.cons .refl .nil)) (.m9 rfl) (fun _=>?_);refine jl 37 rfl rfl rfl rfl (Ld.iT (qb rfl) rfl rfl .cY (by (simp;omega))) .none (fun _=>?_);refine jk 38 rfl rfl rfl rfl (Qt.build rfl (by kernel_rfl)) ?_;refine jt 40 rfl rfl (Ld.aX rfl rfl rfl (by exact rfl) (by exact rfl)) (fun _=>?_);refine bS ?_
 rotate_left
 refine JS.cz rfl rfl rfl (qb rfl) (Ld.alloc (qb rfl)) .none (fun _=>?_);refine jl 17 rfl rfl rfl rfl (Ld.fQ CM (qb rfl) rfl (.cons .refl .nil)) (.iO rfl) (fun _=>?_);refine jl 22 rfl rfl rfl rfl (Ld.fQ CF (qb rfl) rfl (.cons .refl .nil)) (.iO rfl) (fun _=>?_);refine jl 27 rfl rfl rfl rfl (Ld.iT (qb rfl) rfl rfl .read (by (simp;omega))) .none (fun _=>?_);refine jl 32 rfl rfl rfl rfl (Ld.fQ CD (qb rfl) rfl (.cons .refl .nil)) (.m9 rfl) (fun _=>?_);refine jl 37 rfl rfl rfl rfl (Ld.iT (qb rfl) rfl rfl .cY (by (simp;omega))) .none (fun _=>?_);refine jk 38 rfl rfl rfl rfl (Qt.build rfl (by kernel_rfl)) ?_;refine jt 40 rfl rfl (Ld.aX rfl rfl rfl (by exact rfl) (by exact rfl)) (fun _=>?_);refine bS ?_
 rotate_left
 refine JS.cz rfl rfl rfl (qb rfl) (Ld.alloc (qb rfl)) .none (fun _=>?_);refine jl 12 rfl rfl rfl rfl (Ld.iT (qb rfl) rfl rfl .cY (by (simp;omega))) .none (fun _=>?_);refine jl 17 rfl rfl rfl rfl (Ld.fQ CM (qb rfl) rfl (.cons .refl .nil)) (.iO rfl) (fun _=>?_);refine jl 22 rfl rfl rfl rfl (Ld.fQ CF (qb rfl) rfl (.cons .refl .nil)) (.iO rfl) (fun _=>?_);refine jl 27 rfl rfl rfl rfl (Ld.iT (qb rfl) rfl rfl .read (by (simp;omega))) .none (fun _=>?_);refine jl 32 rfl rfl rfl rfl (Ld.fQ CD (qb rfl) rfl (.cons .refl .nil)) (.m9 rfl) (fun _=>?_);refine jl 37 rfl rfl rfl rfl (Ld.iT (qb rfl) rfl rfl .cY (by (simp;omega))) .none (fun _=>?_);refine jk 38 rfl rfl rfl rfl (Qt.build rfl (by kernel_rfl)) ?_;refine jt 40 rfl rfl (Ld.aX rfl rfl rfl (by exact rfl) (by exact rfl)) (fun _=>?_);refine bS ?_
 rotate_left
 all_goals
  exact (rest _).aW ⟨rfl,rfl,rfl,trivial⟩
end Fl
open Go.RowKit Go.ChangeShapes Go.WideShapes Go.Deep
def mM (w:World) (cs:List Value) (c:Pn.Cs) (U:List Nat):Prop:=cs=[.bool c.send,.int .i64 c.ch,.int .i64 c.v]∧U=[]
def wV (w:World) (cs:List Value) (o:Pn.Op) (U:List Nat):Prop :=
 ∃ vc,cs=[.int .i64 o.kind,.int .i64 o.ch,.int .i64 o.n,.int .i64 o.v,vc,.bool o.dN]∧GV mM 3 w vc o.cases U
theorem zz:Kept mM:=⟨fun h _ _=>h,fun h x hx=>by obtain ⟨_,rfl⟩:=h;simp at hx⟩
theorem Fx:Kept wV :=
 ⟨fun h k hn=>by obtain ⟨vc,h1,h2⟩:=h;exact ⟨vc,h1,h2.aY zz k hn⟩,fun h=>by obtain ⟨vc,h1,h2⟩:=h;exact h2.lt⟩
def tK:World→List Value→List Pn.Op→List Nat→Prop:=qm wV 6
theorem LC:Kept tK:=I7 Fx
section
variable {w:World} {ao:Option Addr} {m cap k:Nat} {S:List Nat}
theorem GV.case {l:List Pn.Cs} {c:Pn.Cs} (h:GV mM 3 w (.slice ao m cap) l S) (hk:l[k]?=some c) :
  ∃ g off,ao=some ⟨g,off,none⟩∧g∈S∧g < w.heap.size∧w.cell? ⟨g,off + k * 3,none⟩=some (.bool c.send)∧w.cell? ⟨g,off + k * 3 + 1,none⟩=some (.int .i64 c.ch)∧w.cell? ⟨g,off + k * 3 + 2,none⟩=some (.int .i64 c.v):=by
 obtain ⟨g,off,cs,U,h1,h2,h3,h4,h5,⟨rfl,_⟩,_⟩:=h.get hk;exact ⟨g,off,h1,h2,h3,h5 0 (by omega),h5 1 (by omega),h5 2 (by omega)⟩
theorem GV.op {l:List Pn.Op} {o:Pn.Op} (h:GV wV 6 w (.slice ao m cap) l S) (hk:l[k]?=some o) :
  ∃ g off vc U,ao=some ⟨g,off,none⟩∧g∈S∧g < w.heap.size∧(w.cell? ⟨g,off + k * 6,none⟩=some (.int .i64 o.kind)∧w.cell? ⟨g,off + k * 6 + 1,none⟩=some (.int .i64 o.ch)∧w.cell? ⟨g,off + k * 6 + 2,none⟩=some (.int .i64 o.n) ∧
   w.cell? ⟨g,off + k * 6 + 3,none⟩=some (.int .i64 o.v)∧w.cell? ⟨g,off + k * 6 + 4,none⟩=some vc∧w.cell? ⟨g,off + k * 6 + 5,none⟩=some (.bool o.dN))∧GV mM 3 w vc o.cases U∧∀ x∈U,x∈S:=by
 obtain ⟨g,off,cs,U,h1,h2,h3,h4,h5,⟨vc,rfl,h6⟩,h7⟩:=h.get hk;exact ⟨g,off,vc,U,h1,h2,h3,⟨h5 0 (by omega),h5 1 (by omega),h5 2 (by omega),h5 3 (by omega),h5 4 (by omega),h5 5 (by omega)⟩,h6,h7⟩
theorem GV.one {α:Type} {E:World→List Value→α→List Nat→Prop} {l:List α} {a:α} (h:GV E 1 w (.slice ao m cap) l S) (hk:l[k]?=some a) :
  ∃ g off v U,ao=some ⟨g,off,none⟩∧g∈S∧g < w.heap.size∧w.cell? ⟨g,off + k,none⟩=some v∧E w [v] a U∧∀ x∈U,x∈S:=by
 obtain ⟨g,off,cs,U,h1,h2,h3,h4,h5,h6,h7⟩:=h.get hk;obtain ⟨v,rfl⟩:=Ph h4;exact ⟨g,off,v,U,h1,h2,h3,by have:=h5 0 (by omega);simpa using this,h6,h7⟩
end
theorem BU:fE Tryz.prog 3 (kf .i64) 1:=A7 Tryz.underlying3 (by kernel_rfl)
theorem LD:fE Tryz.prog 2 (kf .i64) 1:=A7 Tryz.underlying2 (by kernel_rfl)
theorem LF:fE Tryz.prog 4 DA 1:=Pr Tryz.underlying4 (by kernel_rfl)
theorem T3:fE Tryz.prog 83 mM 3:=by
 refine ⟨by omega,zz,by kernel_rfl,?_⟩;intro H enc W fuel cs x h;obtain ⟨xs,n,_,_,hl,ki,hf⟩:=DataW.trod_struct Tryz.underlying83 h;have T4:cs.length=3:=hl.trans (by kernel_rfl);obtain ⟨v0,v1,v2,rfl⟩:=Pk T4;have yL:xs.length=3:=ki.trans (by kernel_rfl);have hs:∀ i,i < 3→(xs[i]?).isSome=true:=fun i hi=>by simp [yL,hi]
 obtain ⟨_,_,a0,U0,e0,_⟩:=LF.field rfl rfl (hs 0 (by omega)) (hf 0 _ rfl);obtain ⟨_,_,a1,U1,e1,_⟩:=BU.field rfl rfl (hs 1 (by omega)) (hf 1 _ rfl);obtain ⟨_,_,a2,U2,e2,_⟩:=LD.field rfl rfl (hs 2 (by omega)) (hf 2 _ rfl);simp at e0 e1 e2;subst e0 e1 e2;exact ⟨rfl,(by intro y hy;simp at hy;rcases hy with rfl | rfl | rfl <;> rfl),⟨a0,a1,a2⟩,[],rfl,rfl⟩
theorem T5:fE Tryz.prog 48 (qm mM 3) 1:=yh Tryz.underlying48 (by kernel_rfl) T3
theorem T8:fE Tryz.prog 50 wV 6:=by
 refine ⟨by omega,Fx,by kernel_rfl,?_⟩;intro H enc W fuel cs x h;obtain ⟨xs,n,_,_,hl,ki,hf⟩:=DataW.trod_struct Tryz.underlying50 h;have u7:cs.length=6:=hl.trans (by kernel_rfl);obtain ⟨v0,v1,v2,v3,v4,v5,rfl⟩:=Pp u7;have T9:xs.length=6:=ki.trans (by kernel_rfl);have hs:∀ i,i < 6→(xs[i]?).isSome=true:=fun i hi=>by simp [T9,hi]
 obtain ⟨_,_,a0,U0,e0,_⟩:=BU.field rfl rfl (hs 0 (by omega)) (hf 0 _ rfl);obtain ⟨_,_,a1,U1,e1,_⟩:=BU.field rfl rfl (hs 1 (by omega)) (hf 1 _ rfl);obtain ⟨_,_,a2,U2,e2,_⟩:=BU.field rfl rfl (hs 2 (by omega)) (hf 2 _ rfl);obtain ⟨_,_,a3,U3,e3,_⟩:=LD.field rfl rfl (hs 3 (by omega)) (hf 3 _ rfl);obtain ⟨o4,_,a4,U4,vc,e4,h4⟩:=T5.field rfl rfl (hs 4 (by omega)) (hf 4 _ rfl);obtain ⟨_,_,a5,U5,e5,_⟩:=LF.field rfl rfl (hs 5 (by omega)) (hf 5 _ rfl);simp at e0 e1 e2 e3 e4 e5 o4;subst e0 e1 e2 e3 e4 e5;exact ⟨rfl,(by intro y hy;simp at hy;rcases hy with rfl | rfl | rfl | rfl | rfl | rfl <;> first | rfl | assumption),⟨a0,a1,a2,a3,a4,a5⟩,U4,v4,rfl,h4⟩
theorem Ua:fE Tryz.prog 43 tK 1:=yh Tryz.underlying43 (by kernel_rfl) T8
theorem Ub:fE Tryz.prog 22 (qm tK 1) 1:=yh Tryz.underlying22 (by kernel_rfl) Ua
open Go.RowKit
theorem tM (w:World) (k:Int):Calls Tryz.prog 196 #[.int .i64 k] w fun e w'=>e=.returned (.bool (Pn.jE k))∧w=w':=by
 go_enter Tryz.func196,Tryz.ntmps196
 go_wp2_with fail
 all_goals
  go_ret
  exact ⟨eI (by simp [Pn.jE, *] <;> omega),rfl⟩
theorem tN (w:World) (k:Int):Calls Tryz.prog 197 #[.int .i64 k] w fun e w'=>e=.returned (.bool (Pn.jF k))∧w=w':=by
 go_enter Tryz.func197,Tryz.ntmps197
 go_wp2_with fail
 all_goals
  go_ret
  exact ⟨eI (by simp [Pn.jF, *]),rfl⟩
def Pn.within (has:Bool) (n most:Int):Bool:=if has then decide (0≤n) && decide (n≤most) else n == 0
open Go.RowKit
namespace Pn
def Fy (c:Cs):Bool:=within true c.ch 8 && within c.send c.v 255
theorem LG (c:Cs):Fy c=kT c:=by
 obtain ⟨s,ch,v⟩:=c;unfold Fy kT within;rw [Bool.eq_iff_iff]
 cases s <;> simp <;> omega
theorem Uc {o:Op} {j:Nat} {c:Cs} (h:o.cases[j]?=some c) (hc:Fy c=false):eU o=false:=by
 unfold eU;rw [decide_eq_false_iff_not];rintro ⟨h1,h2,h3,h4,h5,h6,h7,h8,h9,mN,lA,lB,gR,qO⟩;have:=qO c (List.mem_of_getElem? h);rw [← LG,hc] at this;cases this
end Pn
open Go.RowKit
namespace Pn
end Pn
set_option maxRecDepth 100000 in
set_option maxHeartbeats 3200000 in
theorem Ud (w:World) (o:Pn.Op) (va:Value) (SA:List Nat) (ha:GV mM 3 w va o.cases SA) (hb:¬ (1≤o.kind∧o.kind≤9∧0≤o.ch∧o.ch≤8∧0≤o.n∧o.n≤4∧0≤o.v∧o.v≤255∧o.cases.length≤6)) :
  Calls Tryz.prog 176 #[.agg #[.int .i64 o.kind,.int .i64 o.ch,.int .i64 o.n,.int .i64 o.v,va,.bool o.dN]] w fun e w'=>e=.returned (.bool (Pn.eU o))∧aq [] w w':=by
 have jm:=ha.le;unfold maxLen at jm;obtain ⟨ao,cap,rfl⟩:=ha.shape;have HA:=Lib.hid ha;obtain ⟨q,iH⟩:∃ q,Pn.eU o=q:=⟨_,rfl⟩
 rw [iH];have HQ:=Lib.hid iH;have KA:Hid (aq [] w (w.alloc (.cells #[.int .i64 o.kind,.int .i64 o.ch,.int .i64 o.n,.int .i64 o.v,.slice ao o.cases.length cap,.bool o.dN] 50))):=Lib.hid ((aq.refl [] w).alloc _);clear ha iH;have HN:Hid (false=q):=Lib.hid (by
  rw [← HQ.out,eq_comm];unfold Pn.eU;rw [decide_eq_false_iff_not];rintro ⟨h1,h2,h3,h4,h5,h6,h7,h8,h9,_⟩;exact hb ⟨h1,h2,h3,h4,h5,h6,h7,h8,h9⟩)
 have HB:=Lib.hid hb;clear hb
 go_enter Tryz.func176,Tryz.ntmps176
 go_upto_if 48 with fail
 all_goals
  go_wp2_with fail
  all_goals
   first
    | (exfalso;have h:=HB.out;omega)
    | (go_ret;exact ⟨eI HN.out,(aq.refl [] w).alloc _⟩)
open Go.RowKit
namespace Pn
end Pn
set_option maxRecDepth 100000 in
set_option maxHeartbeats 3200000 in
theorem Ue (w:World) (o:Pn.Op) (va:Value) (SA:List Nat) (ha:GV mM 3 w va o.cases SA) (hb:1≤o.kind∧o.kind≤9∧0≤o.ch∧o.ch≤8∧0≤o.n∧o.n≤4∧0≤o.v∧o.v≤255∧o.cases.length≤6) (hk:o.kind=1) :
  Calls Tryz.prog 176 #[.agg #[.int .i64 o.kind,.int .i64 o.ch,.int .i64 o.n,.int .i64 o.v,va,.bool o.dN]] w fun e w'=>e=.returned (.bool (Pn.eU o))∧aq [] w w':=by
 have jm:=ha.le;unfold maxLen at jm;obtain ⟨ao,cap,rfl⟩:=ha.shape;have HA:=Lib.hid ha;obtain ⟨q,iH⟩:∃ q,Pn.eU o=q:=⟨_,rfl⟩
 rw [iH];have HQ:=Lib.hid iH;have KA:Hid (aq [] w (w.alloc (.cells #[.int .i64 o.kind,.int .i64 o.ch,.int .i64 o.n,.int .i64 o.v,.slice ao o.cases.length cap,.bool o.dN] 50))):=Lib.hid ((aq.refl [] w).alloc _);clear ha iH;obtain ⟨b1,b2,b3,b4,b5,b6,b7,b8,b9⟩:=hb;obtain ⟨k,ch,n,v,cs,dN⟩:=o;simp only at *;have HS:Hid ((Pn.jE k=false→ch=0)→(Pn.jF k=false→v=0)→(k≠1→n=0)→(k≠9→cs=[]∧dN=false)→(∀ (j:Nat) (c:Pn.Cs),cs[j]?=some c→Pn.kT c=true)→true=q):=Lib.hid (fun d1 d2 d3 d4 h=>by
  rw [← HQ.out,eq_comm];unfold Pn.eU;rw [decide_eq_true_iff];refine ⟨b1,b2,b3,b4,b5,b6,b7,b8,b9,d1,d2,d3,d4,fun c hc=>?_⟩;obtain ⟨j,hj,rfl⟩:=List.getElem_of_mem hc;exact h j _ (List.getElem?_eq_getElem hj))
 have HF:Hid (¬ ((Pn.jE k=false→ch=0)∧(Pn.jF k=false→v=0)∧(k≠1→n=0)∧(k≠9→cs=[]∧dN=false))→false=q):=Lib.hid (fun hn=>by
  rw [← HQ.out,eq_comm];unfold Pn.eU;rw [decide_eq_false_iff_not];rintro ⟨h1,h2,h3,h4,h5,h6,h7,h8,h9,mN,lA,lB,gR,_⟩;exact hn ⟨mN,lA,lB,gR⟩)
 subst hk;have fV:Hid (Pn.jE 1=false∧Pn.jF 1=false):=Lib.hid (by constructor <;> simp [Pn.jE,Pn.jF] <;> omega)
 by_cases bZ:ch=0∧v=0∧dN=false∧cs.length=0
 ·obtain ⟨e0,e1,e2,e3⟩:=bZ;subst e0 e1 e2;have e9:cs.length≤0:=by omega
  have kI:=Lib.hid (HS.out (fun _=>rfl) (fun _=>rfl) (fun h=>absurd rfl h) (fun _=>⟨List.eq_nil_of_length_eq_zero (by omega),rfl⟩));clear HS HF
  try clear e3
  try clear e2
  go_enter Tryz.func176,Tryz.ntmps176
  go_wp2_with fail
  refine (tM _ _).mono ?_
  rintro e w3 ⟨rfl,rfl⟩
  rw [fV.out.1]
  go_wp2_with (go_at_call 197;refine (tN _ _).mono ?_;rintro e w4 ⟨rfl,rfl⟩;rw [fV.out.2])
  go_loopw [97] (fun u wr=>∃ j:Nat,j≤cs.length∧u=.int .i64 j∧Hid (aq [] w wr∧∀ (i:Nat) (c:Pn.Cs),i < j→cs[i]?=some c→Pn.kT c=true)) (fun u _=>cs.length - (intOf u).toNat)
  case atStart=>exact ⟨0,Nat.zero_le _,rfl,Lib.hid ⟨KA.out,fun i c hi=>by omega⟩⟩
  case round =>
   obtain ⟨j,hj,rfl,HI⟩:=hrel;obtain ⟨wo,rfl⟩:∃ wo:World,wo=wr:=⟨_,rfl⟩
   obtain rfl:j=cs.length:=by omega
   have HN:Hid (true=q):=Lib.hid (kI.out fun i c hc=>HI.out.2 i c (List.getElem?_eq_some_iff.1 hc).1 hc)
   go_wp2_with fail
   go_ret
   exact ⟨eI HN.out,HI.out.1⟩
 ·have HN:Hid (false=q):=Lib.hid (HF.out (by rintro ⟨d1,d2,d3,d4⟩;have q1:=fV.out.1;have q2:=fV.out.2;exact bZ ⟨d1 q1,d2 q2,(d4 (by omega)).2,by simp [(d4 (by omega)).1]⟩));have HC:Hid (ch=0→v=0→dN=false→cs.length=0→False):=Lib.hid (fun e0 e1 e2 e3=>bZ ⟨e0,e1,e2,e3⟩);clear bZ
  go_enter Tryz.func176,Tryz.ntmps176
  go_wp2_with fail
  refine (tM _ _).mono ?_
  rintro e w3 ⟨rfl,rfl⟩
  rw [fV.out.1]
  go_upto_if 93 with (go_at_call 197;refine (tN _ _).mono ?_;rintro e w4 ⟨rfl,rfl⟩;rw [fV.out.2])
  all_goals
   go_wp2_with fail
   all_goals
    first
     | (exfalso;refine HC.out ?_ ?_ ?_ ?_ <;> (first | assumption | omega | (simpa using ‹¬dN=true›));done)
     | (go_ret;exact ⟨eI HN.out,(aq.refl [] w).alloc _⟩)
open Go.RowKit
namespace Pn
end Pn
set_option maxRecDepth 100000 in
set_option maxHeartbeats 3200000 in
theorem Uf (w:World) (o:Pn.Op) (va:Value) (SA:List Nat) (ha:GV mM 3 w va o.cases SA) (hb:1≤o.kind∧o.kind≤9∧0≤o.ch∧o.ch≤8∧0≤o.n∧o.n≤4∧0≤o.v∧o.v≤255∧o.cases.length≤6) (hv:o.kind=2∨o.kind=4) (hk:¬ o.kind=1) :
  Calls Tryz.prog 176 #[.agg #[.int .i64 o.kind,.int .i64 o.ch,.int .i64 o.n,.int .i64 o.v,va,.bool o.dN]] w fun e w'=>e=.returned (.bool (Pn.eU o))∧aq [] w w':=by
 have jm:=ha.le;unfold maxLen at jm;obtain ⟨ao,cap,rfl⟩:=ha.shape;have HA:=Lib.hid ha;obtain ⟨q,iH⟩:∃ q,Pn.eU o=q:=⟨_,rfl⟩
 rw [iH];have HQ:=Lib.hid iH;have KA:Hid (aq [] w (w.alloc (.cells #[.int .i64 o.kind,.int .i64 o.ch,.int .i64 o.n,.int .i64 o.v,.slice ao o.cases.length cap,.bool o.dN] 50))):=Lib.hid ((aq.refl [] w).alloc _);clear ha iH;obtain ⟨b1,b2,b3,b4,b5,b6,b7,b8,b9⟩:=hb;obtain ⟨k,ch,n,v,cs,dN⟩:=o;simp only at *;have HS:Hid ((Pn.jE k=false→ch=0)→(Pn.jF k=false→v=0)→(k≠1→n=0)→(k≠9→cs=[]∧dN=false)→(∀ (j:Nat) (c:Pn.Cs),cs[j]?=some c→Pn.kT c=true)→true=q):=Lib.hid (fun d1 d2 d3 d4 h=>by
  rw [← HQ.out,eq_comm];unfold Pn.eU;rw [decide_eq_true_iff];refine ⟨b1,b2,b3,b4,b5,b6,b7,b8,b9,d1,d2,d3,d4,fun c hc=>?_⟩;obtain ⟨j,hj,rfl⟩:=List.getElem_of_mem hc;exact h j _ (List.getElem?_eq_getElem hj))
 have HF:Hid (¬ ((Pn.jE k=false→ch=0)∧(Pn.jF k=false→v=0)∧(k≠1→n=0)∧(k≠9→cs=[]∧dN=false))→false=q):=Lib.hid (fun hn=>by
  rw [← HQ.out,eq_comm];unfold Pn.eU;rw [decide_eq_false_iff_not];rintro ⟨h1,h2,h3,h4,h5,h6,h7,h8,h9,mN,lA,lB,gR,_⟩;exact hn ⟨mN,lA,lB,gR⟩)
 have q1:(k != 1)=true:=by simp;omega
 have q9:(k != 9)=true:=by simp;omega
 have fV:Hid (Pn.jE k=true∧Pn.jF k=true):=Lib.hid (by constructor <;> simp [Pn.jE,Pn.jF] <;> omega)
 by_cases bZ:n=0∧dN=false∧cs.length=0
 ·obtain ⟨e0,e1,e2⟩:=bZ;subst e0 e1;have e9:cs.length≤0:=by omega
  have kI:=Lib.hid (HS.out (fun h=>by rw [fV.out.1] at h;cases h) (fun h=>by rw [fV.out.2] at h;cases h) (fun _=>rfl) (fun _=>⟨List.eq_nil_of_length_eq_zero (by omega),rfl⟩));clear HS HF
  try clear e3
  try clear e2
  go_enter Tryz.func176,Tryz.ntmps176
  go_wp2_with fail
  refine (tM _ _).mono ?_
  rintro e w3 ⟨rfl,rfl⟩
  rw [fV.out.1]
  go_wp2_with (go_at_call 197;refine (tN _ _).mono ?_;rintro e w4 ⟨rfl,rfl⟩;rw [fV.out.2])
  go_loopw [97] (fun u wr=>∃ j:Nat,j≤cs.length∧u=.int .i64 j∧Hid (aq [] w wr∧∀ (i:Nat) (c:Pn.Cs),i < j→cs[i]?=some c→Pn.kT c=true)) (fun u _=>cs.length - (intOf u).toNat)
  case atStart=>exact ⟨0,Nat.zero_le _,rfl,Lib.hid ⟨KA.out,fun i c hi=>by omega⟩⟩
  case round =>
   obtain ⟨j,hj,rfl,HI⟩:=hrel;obtain ⟨wo,rfl⟩:∃ wo:World,wo=wr:=⟨_,rfl⟩
   obtain rfl:j=cs.length:=by omega
   have HN:Hid (true=q):=Lib.hid (kI.out fun i c hc=>HI.out.2 i c (List.getElem?_eq_some_iff.1 hc).1 hc)
   go_wp2_with fail
   go_ret
   exact ⟨eI HN.out,HI.out.1⟩
 ·have HN:Hid (false=q):=Lib.hid (HF.out (by rintro ⟨d1,d2,d3,d4⟩;have q1:=fV.out.1;have q2:=fV.out.2;exact bZ ⟨d3 (by omega),(d4 (by omega)).2,by simp [(d4 (by omega)).1]⟩));have HC:Hid (n=0→dN=false→cs.length=0→False):=Lib.hid (fun e0 e1 e2=>bZ ⟨e0,e1,e2⟩);clear bZ
  go_enter Tryz.func176,Tryz.ntmps176
  go_wp2_with fail
  refine (tM _ _).mono ?_
  rintro e w3 ⟨rfl,rfl⟩
  rw [fV.out.1]
  go_upto_if 93 with (go_at_call 197;refine (tN _ _).mono ?_;rintro e w4 ⟨rfl,rfl⟩;rw [fV.out.2])
  all_goals
   go_wp2_with fail
   all_goals
    first
     | (exfalso;refine HC.out ?_ ?_ ?_ <;> (first | assumption | omega | (simpa using ‹¬dN=true›));done)
     | (go_ret;exact ⟨eI HN.out,(aq.refl [] w).alloc _⟩)
open Go.RowKit
namespace Pn
theorem Ug {o:Op} {j:Nat} {c:Cs} (h:o.cases[j]?=some c) (hc:kT c=false):eU o=false:=Uc h (by rw [LG];exact hc)
end Pn
set_option maxRecDepth 100000 in
set_option maxHeartbeats 3200000 in
theorem Uh (w:World) (o:Pn.Op) (va:Value) (SA:List Nat) (ha:GV mM 3 w va o.cases SA) (hb:1≤o.kind∧o.kind≤9∧0≤o.ch∧o.ch≤8∧0≤o.n∧o.n≤4∧0≤o.v∧o.v≤255∧o.cases.length≤6) (hk:o.kind=9) :
  Calls Tryz.prog 176 #[.agg #[.int .i64 o.kind,.int .i64 o.ch,.int .i64 o.n,.int .i64 o.v,va,.bool o.dN]] w fun e w'=>e=.returned (.bool (Pn.eU o))∧aq [] w w':=by
 have jm:=ha.le;unfold maxLen at jm;obtain ⟨ao,cap,rfl⟩:=ha.shape;have HA:=Lib.hid ha;obtain ⟨q,iH⟩:∃ q,Pn.eU o=q:=⟨_,rfl⟩
 rw [iH];have HQ:=Lib.hid iH;have KA:Hid (aq [] w (w.alloc (.cells #[.int .i64 o.kind,.int .i64 o.ch,.int .i64 o.n,.int .i64 o.v,.slice ao o.cases.length cap,.bool o.dN] 50))):=Lib.hid ((aq.refl [] w).alloc _);clear ha iH;obtain ⟨b1,b2,b3,b4,b5,b6,b7,b8,b9⟩:=hb;obtain ⟨k,ch,n,v,cs,dN⟩:=o;simp only at *;have HS:Hid ((Pn.jE k=false→ch=0)→(Pn.jF k=false→v=0)→(k≠1→n=0)→(k≠9→cs=[]∧dN=false)→(∀ (j:Nat) (c:Pn.Cs),cs[j]?=some c→Pn.kT c=true)→true=q):=Lib.hid (fun d1 d2 d3 d4 h=>by
  rw [← HQ.out,eq_comm];unfold Pn.eU;rw [decide_eq_true_iff];refine ⟨b1,b2,b3,b4,b5,b6,b7,b8,b9,d1,d2,d3,d4,fun c hc=>?_⟩;obtain ⟨j,hj,rfl⟩:=List.getElem_of_mem hc;exact h j _ (List.getElem?_eq_getElem hj))
 have HF:Hid (¬ ((Pn.jE k=false→ch=0)∧(Pn.jF k=false→v=0)∧(k≠1→n=0)∧(k≠9→cs=[]∧dN=false))→false=q):=Lib.hid (fun hn=>by
  rw [← HQ.out,eq_comm];unfold Pn.eU;rw [decide_eq_false_iff_not];rintro ⟨h1,h2,h3,h4,h5,h6,h7,h8,h9,mN,lA,lB,gR,_⟩;exact hn ⟨mN,lA,lB,gR⟩)
 subst hk;have fV:Hid (Pn.jE 9=false∧Pn.jF 9=false):=Lib.hid (by constructor <;> simp [Pn.jE,Pn.jF] <;> omega)
 by_cases bZ:ch=0∧v=0∧n=0
 ·obtain ⟨e0,e1,e2⟩:=bZ;subst e0 e1 e2;have kI:=Lib.hid (HS.out (fun _=>rfl) (fun _=>rfl) (fun _=>rfl) (fun h=>absurd rfl h));clear HS HF
  try clear e3
  try clear e2
  go_enter Tryz.func176,Tryz.ntmps176
  go_wp2_with fail
  refine (tM _ _).mono ?_
  rintro e w3 ⟨rfl,rfl⟩
  rw [fV.out.1]
  go_wp2_with (go_at_call 197;refine (tN _ _).mono ?_;rintro e w4 ⟨rfl,rfl⟩;rw [fV.out.2])
  go_loopw [97] (fun u wr=>∃ j:Nat,j≤cs.length∧u=.int .i64 j∧Hid (aq [] w wr∧∀ (i:Nat) (c:Pn.Cs),i < j→cs[i]?=some c→Pn.kT c=true)) (fun u _=>cs.length - (intOf u).toNat)
  case atStart=>exact ⟨0,Nat.zero_le _,rfl,Lib.hid ⟨KA.out,fun i c hi=>by omega⟩⟩
  case round =>
   obtain ⟨j,hj,rfl,HI⟩:=hrel;obtain ⟨wo,rfl⟩:∃ wo:World,wo=wr:=⟨_,rfl⟩
   by_cases ck:j < cs.length
   ·obtain ⟨x,hx⟩:∃ x,cs[j]?=some x:=⟨_,List.getElem?_eq_getElem ck⟩
    obtain ⟨g1,Ui,rfl,_,sq,a0,a1,a2⟩:=(HA.out.then zz HI.out.1).case hx;have HX:=Lib.hid hx;clear hx;obtain ⟨xs,xc,xv⟩:=x;simp only at a0 a1 a2;have KR:Hid (aq [] w (wo.alloc (.cells #[.bool xs,.int .i64 xc,.int .i64 xv] 83))):=Lib.hid (HI.out.1.alloc _)
    by_cases hr:0≤xc∧xc≤8∧0≤xv∧xv≤255∧(xs=false→xv=0)
    ·have HO:Hid (Pn.kT ⟨xs,xc,xv⟩=true):=Lib.hid (by unfold Pn.kT;rw [decide_eq_true_iff];exact hr);obtain ⟨e1,e2,e3,e4,e5⟩:=hr
     cases xs with
     | true =>
      clear e5
      go_wp2_with fail
      go_roundw
      case rel=>exact ⟨j + 1,by omega,by go_num,Lib.hid ⟨KR.out,fun i c hi hc=>by
       by_cases e:i=j
       ·subst e;rw [HX.out] at hc;cases hc;exact HO.out
       ·exact HI.out.2 i c (by omega) hc⟩⟩
      case measure=>simp [intOf];omega
     | false =>
      have e6:=e5 rfl;subst e6;clear e5
      go_wp2_with fail
      go_roundw
      case rel=>exact ⟨j + 1,by omega,by go_num,Lib.hid ⟨KR.out,fun i c hi hc=>by
       by_cases e:i=j
       ·subst e;rw [HX.out] at hc;cases hc;exact HO.out
       ·exact HI.out.2 i c (by omega) hc⟩⟩
      case measure=>simp [intOf];omega
    ·have HN:Hid (false=q):=Lib.hid (by rw [← HQ.out,Pn.Ug HX.out (by unfold Pn.kT;rw [decide_eq_false_iff_not];exact hr)]);have HR:=Lib.hid hr;clear hr
     cases xs with
     | true =>
      have uS:Hid (0≤xc→xc≤8→0≤xv→xv≤255→False):=Lib.hid (fun a b c d=>HR.out ⟨a,b,c,d,fun h=>by cases h⟩);clear HR
      go_upto_if 128 with fail
      all_goals
       go_wp2_with fail
       all_goals
        first
         | (exfalso;refine uS.out ?_ ?_ ?_ ?_ <;> omega)
         | (go_ret;exact ⟨eI HN.out,HI.out.1.alloc _⟩)
     | false =>
      have uS:Hid (0≤xc→xc≤8→0≤xv→xv≤255→xv≠0):=Lib.hid (fun a b c d e=>HR.out ⟨a,b,c,d,fun _=>e⟩);clear HR
      go_upto_if 128 with fail
      all_goals
       go_wp2_with fail
       all_goals
        first
         | (exfalso;refine uS.out ?_ ?_ ?_ ?_ ?_ <;> (first | omega | (have h:=(show ((((0≤xc∧xc≤8)∧0≤xv)∧xv≤255)∧(xv != 0)=false) by assumption).2;simpa using h)))
         | (go_ret;exact ⟨eI HN.out,HI.out.1.alloc _⟩)
   ·obtain rfl:j=cs.length:=by omega
    have HN:Hid (true=q):=Lib.hid (kI.out fun i c hc=>HI.out.2 i c (List.getElem?_eq_some_iff.1 hc).1 hc)
    go_wp2_with fail
    go_ret
    exact ⟨eI HN.out,HI.out.1⟩
 ·have HN:Hid (false=q):=Lib.hid (HF.out (by rintro ⟨d1,d2,d3,d4⟩;have q1:=fV.out.1;have q2:=fV.out.2;exact bZ ⟨d1 q1,d2 q2,d3 (by omega)⟩));have HC:Hid (ch=0→v=0→n=0→False):=Lib.hid (fun e0 e1 e2=>bZ ⟨e0,e1,e2⟩);clear bZ
  go_enter Tryz.func176,Tryz.ntmps176
  go_wp2_with fail
  refine (tM _ _).mono ?_
  rintro e w3 ⟨rfl,rfl⟩
  rw [fV.out.1]
  go_upto_if 93 with (go_at_call 197;refine (tN _ _).mono ?_;rintro e w4 ⟨rfl,rfl⟩;rw [fV.out.2])
  all_goals
   go_wp2_with fail
   all_goals
    first
     | (exfalso;refine HC.out ?_ ?_ ?_ <;> (first | assumption | omega | (simpa using ‹¬dN=true›));done)
     | (go_ret;exact ⟨eI HN.out,(aq.refl [] w).alloc _⟩)
open Go.RowKit
namespace Pn
end Pn
set_option maxRecDepth 100000 in
set_option maxHeartbeats 3200000 in
theorem Uj (w:World) (o:Pn.Op) (va:Value) (SA:List Nat) (ha:GV mM 3 w va o.cases SA) (hb:1≤o.kind∧o.kind≤9∧0≤o.ch∧o.ch≤8∧0≤o.n∧o.n≤4∧0≤o.v∧o.v≤255∧o.cases.length≤6) (hk:¬ o.kind=1) (hv:¬ (o.kind=2∨o.kind=4)) (Fz:¬ o.kind=9) :
  Calls Tryz.prog 176 #[.agg #[.int .i64 o.kind,.int .i64 o.ch,.int .i64 o.n,.int .i64 o.v,va,.bool o.dN]] w fun e w'=>e=.returned (.bool (Pn.eU o))∧aq [] w w':=by
 have jm:=ha.le;unfold maxLen at jm;obtain ⟨ao,cap,rfl⟩:=ha.shape;have HA:=Lib.hid ha;obtain ⟨q,iH⟩:∃ q,Pn.eU o=q:=⟨_,rfl⟩
 rw [iH];have HQ:=Lib.hid iH;have KA:Hid (aq [] w (w.alloc (.cells #[.int .i64 o.kind,.int .i64 o.ch,.int .i64 o.n,.int .i64 o.v,.slice ao o.cases.length cap,.bool o.dN] 50))):=Lib.hid ((aq.refl [] w).alloc _);clear ha iH;obtain ⟨b1,b2,b3,b4,b5,b6,b7,b8,b9⟩:=hb;obtain ⟨k,ch,n,v,cs,dN⟩:=o;simp only at *;have HS:Hid ((Pn.jE k=false→ch=0)→(Pn.jF k=false→v=0)→(k≠1→n=0)→(k≠9→cs=[]∧dN=false)→(∀ (j:Nat) (c:Pn.Cs),cs[j]?=some c→Pn.kT c=true)→true=q):=Lib.hid (fun d1 d2 d3 d4 h=>by
  rw [← HQ.out,eq_comm];unfold Pn.eU;rw [decide_eq_true_iff];refine ⟨b1,b2,b3,b4,b5,b6,b7,b8,b9,d1,d2,d3,d4,fun c hc=>?_⟩;obtain ⟨j,hj,rfl⟩:=List.getElem_of_mem hc;exact h j _ (List.getElem?_eq_getElem hj))
 have HF:Hid (¬ ((Pn.jE k=false→ch=0)∧(Pn.jF k=false→v=0)∧(k≠1→n=0)∧(k≠9→cs=[]∧dN=false))→false=q):=Lib.hid (fun hn=>by
  rw [← HQ.out,eq_comm];unfold Pn.eU;rw [decide_eq_false_iff_not];rintro ⟨h1,h2,h3,h4,h5,h6,h7,h8,h9,mN,lA,lB,gR,_⟩;exact hn ⟨mN,lA,lB,gR⟩)
 have q1:(k != 1)=true:=by simp;omega
 have q9:(k != 9)=true:=by simp;omega
 have fV:Hid (Pn.jE k=true∧Pn.jF k=false):=Lib.hid (by constructor <;> simp [Pn.jE,Pn.jF] <;> omega)
 by_cases bZ:v=0∧n=0∧dN=false∧cs.length=0
 ·obtain ⟨e0,e1,e2,e3⟩:=bZ;subst e0 e1 e2;have e9:cs.length≤0:=by omega
  have kI:=Lib.hid (HS.out (fun h=>by rw [fV.out.1] at h;cases h) (fun _=>rfl) (fun _=>rfl) (fun _=>⟨List.eq_nil_of_length_eq_zero (by omega),rfl⟩));clear HS HF
  try clear e3
  try clear e2
  go_enter Tryz.func176,Tryz.ntmps176
  go_wp2_with fail
  refine (tM _ _).mono ?_
  rintro e w3 ⟨rfl,rfl⟩
  rw [fV.out.1]
  go_wp2_with (go_at_call 197;refine (tN _ _).mono ?_;rintro e w4 ⟨rfl,rfl⟩;rw [fV.out.2])
  go_loopw [97] (fun u wr=>∃ j:Nat,j≤cs.length∧u=.int .i64 j∧Hid (aq [] w wr∧∀ (i:Nat) (c:Pn.Cs),i < j→cs[i]?=some c→Pn.kT c=true)) (fun u _=>cs.length - (intOf u).toNat)
  case atStart=>exact ⟨0,Nat.zero_le _,rfl,Lib.hid ⟨KA.out,fun i c hi=>by omega⟩⟩
  case round =>
   obtain ⟨j,hj,rfl,HI⟩:=hrel;obtain ⟨wo,rfl⟩:∃ wo:World,wo=wr:=⟨_,rfl⟩
   obtain rfl:j=cs.length:=by omega
   have HN:Hid (true=q):=Lib.hid (kI.out fun i c hc=>HI.out.2 i c (List.getElem?_eq_some_iff.1 hc).1 hc)
   go_wp2_with fail
   go_ret
   exact ⟨eI HN.out,HI.out.1⟩
 ·have HN:Hid (false=q):=Lib.hid (HF.out (by rintro ⟨d1,d2,d3,d4⟩;have q1:=fV.out.1;have q2:=fV.out.2;exact bZ ⟨d2 q2,d3 (by omega),(d4 (by omega)).2,by simp [(d4 (by omega)).1]⟩));have HC:Hid (v=0→n=0→dN=false→cs.length=0→False):=Lib.hid (fun e0 e1 e2 e3=>bZ ⟨e0,e1,e2,e3⟩);clear bZ
  go_enter Tryz.func176,Tryz.ntmps176
  go_wp2_with fail
  refine (tM _ _).mono ?_
  rintro e w3 ⟨rfl,rfl⟩
  rw [fV.out.1]
  go_upto_if 93 with (go_at_call 197;refine (tN _ _).mono ?_;rintro e w4 ⟨rfl,rfl⟩;rw [fV.out.2])
  all_goals
   go_wp2_with fail
   all_goals
    first
     | (exfalso;refine HC.out ?_ ?_ ?_ ?_ <;> (first | assumption | omega | (simpa using ‹¬dN=true›));done)
     | (go_ret;exact ⟨eI HN.out,(aq.refl [] w).alloc _⟩)
open Go.RowKit
set_option maxRecDepth 100000 in
set_option maxHeartbeats 3200000 in
theorem LH (w:World) (o:Pn.Op) (va:Value) (SA:List Nat) (ha:GV mM 3 w va o.cases SA) :
  Calls Tryz.prog 176 #[.agg #[.int .i64 o.kind,.int .i64 o.ch,.int .i64 o.n,.int .i64 o.v,va,.bool o.dN]] w fun e w'=>e=.returned (.bool (Pn.eU o))∧aq [] w w':=by
 by_cases hb:1≤o.kind∧o.kind≤9∧0≤o.ch∧o.ch≤8∧0≤o.n∧o.n≤4∧0≤o.v∧o.v≤255∧o.cases.length≤6
 ·by_cases hk:o.kind=1
  ·exact Ue w o va SA ha hb hk
  by_cases hv:o.kind=2∨o.kind=4
  ·exact Uf w o va SA ha hb hv hk
  by_cases Fz:o.kind=9
  ·exact Uh w o va SA ha hb Fz
  ·exact Uj w o va SA ha hb hk hv Fz
 ·exact Ud w o va SA ha hb
open Go.RowKit
namespace Pn
theorem Uk {l:List Op} {j:Nat} {o:Op} (h:l[j]?=some o) (ho:eU o=false):mC l=false:=by
 unfold mC;rw [decide_eq_false_iff_not];rintro ⟨_,h2⟩;have:=h2 o (List.mem_of_getElem? h);rw [ho] at this;cases this
theorem Ul {l:List Op} (h:16 < l.length):mC l=false:=by
 unfold mC;rw [decide_eq_false_iff_not];rintro ⟨h1,_⟩;omega
theorem Um {l:List Op} (h:l.length≤16) (ho:∀ (j:Nat) (o:Op),j < l.length→l[j]?=some o→eU o=true):mC l=true:=by
 unfold mC;rw [decide_eq_true_iff];refine ⟨h,fun o hm=>?_⟩;obtain ⟨j,hj,rfl⟩:=List.getElem_of_mem hm;exact ho j _ hj (List.getElem?_eq_getElem hj)
theorem LI {p:List (List Op)} {k:Nat} {l:List Op} (h:p[k]?=some l) (hl:mC l=false):right p=false:=by
 unfold right;rw [decide_eq_false_iff_not];rintro ⟨_,_,h2⟩;have:=h2 l (List.mem_of_getElem? h);rw [hl] at this;cases this
theorem Un {p:List (List Op)} (h:p.length < 1∨8 < p.length):right p=false:=by
 unfold right;rw [decide_eq_false_iff_not];rintro ⟨h1,h2,_⟩;omega
theorem Uo {p:List (List Op)} (h1:1≤p.length) (h2:p.length≤8) (ho:∀ (j:Nat) (l:List Op),j < p.length→p[j]?=some l→mC l=true):right p=true:=by
 unfold right;rw [decide_eq_true_iff];refine ⟨h1,h2,fun o hm=>?_⟩;obtain ⟨j,hj,rfl⟩:=List.getElem_of_mem hm;exact ho j _ hj (List.getElem?_eq_getElem hj)
end Pn
set_option maxHeartbeats 1600000 in
theorem Up (w:World) (v:Value) (p:List (List Pn.Op)) (S:List Nat) (h:GV tK 1 w v p S) :
  Calls Tryz.prog 122 #[v] w fun e w'=>e=.returned (.bool (Pn.right p))∧aq [] w w':=by
 have hle:=h.le;unfold maxLen at hle;obtain ⟨ao,cap,rfl⟩:=h.shape;have HP:=Lib.hid h;obtain ⟨q,iH⟩:∃ q,Pn.right p=q:=⟨_,rfl⟩
 rw [iH];have HQ:=Lib.hid iH;clear h iH
 go_enter Tryz.func122,Tryz.ntmps122
 go_wp2_with fail
 go_loopw [9] (fun u wr=>∃ k:Nat,k≤p.length∧u=.int .i64 k∧Hid (aq [] w wr∧∀ (j:Nat) (l:List Pn.Op),j < k→p[j]?=some l→Pn.mC l=true)) (fun u _=>p.length - (intOf u).toNat)
 case atStart=>exact ⟨0,Nat.zero_le _,rfl,Lib.hid ⟨aq.refl _ _,fun j l hj=>by omega⟩⟩
 case round =>
  obtain ⟨k,hk,rfl,HI⟩:=hrel;obtain ⟨wo,rfl⟩:∃ wo:World,wo=wr:=⟨_,rfl⟩
  by_cases ck:k < p.length
  ·obtain ⟨l,hx⟩:∃ l,p[k]?=some l:=⟨_,List.getElem?_eq_getElem ck⟩
   obtain ⟨g1,Ui,_,U1,rfl,_,_,a0,⟨v1,Ef,BV⟩,_⟩:=(HP.out.then LC HI.out.1).one hx
   cases Ef;have rG:=BV.le;unfold maxLen at rG;obtain ⟨am,cm,rfl⟩:=BV.shape;have HU:=Lib.hid BV;have HX:=Lib.hid hx;clear hx BV
   go_wp2_with fail
   go_loopw [15] (fun u wr=>∃ j:Nat,j≤l.length∧u=.int .i64 j∧Hid (aq [] w wr∧aq [] wo wr∧∀ (i:Nat) (o:Pn.Op),i < j→l[i]?=some o→Pn.eU o=true)) (fun u _=>l.length - (intOf u).toNat)
   case atStart=>exact ⟨0,Nat.zero_le _,rfl,Lib.hid ⟨HI.out.1,aq.refl _ _,fun i o hi=>by omega⟩⟩
   case round =>
    obtain ⟨j,hj,rfl,HJ⟩:=hrel;obtain ⟨wi,rfl⟩:∃ wi:World,wi=wr:=⟨_,rfl⟩
    by_cases ve:j < l.length
    ·obtain ⟨o,ho⟩:∃ o,l[j]?=some o:=⟨_,List.getElem?_eq_getElem ve⟩
     obtain ⟨g2,vn,vc,U2,rfl,_,_,⟨b0,b1,b2,b3,b4,b5⟩,hu,_⟩:=(HU.out.then Fx HJ.out.2.1).op ho;obtain ⟨ac,cc,rfl⟩:=hu.shape;have HO:=Lib.hid ho;have HG:=Lib.hid hu;clear ho hu
     cases hr:Pn.eU o with
     | false =>
      have HN:Hid (false=q):=Lib.hid (by rw [← HQ.out,Pn.LI HX.out (Pn.Uk HO.out hr)])
      go_wp2_with fail
      refine (LH _ o _ U2 (HG.out.then zz ((aq.refl [] wi).alloc _))).mono ?_
      rintro e w3 ⟨rfl,k3⟩
      rw [hr];have K3:=Lib.hid ((HJ.out.1.alloc _).then k3);have K4:=Lib.hid ((HJ.out.2.1.alloc _).then k3);clear k3
      go_wp2_with fail
      go_ret
      exact ⟨eI HN.out,K3.out⟩
     | true =>
      go_wp2_with fail
      refine (LH _ o _ U2 (HG.out.then zz ((aq.refl [] wi).alloc _))).mono ?_
      rintro e w3 ⟨rfl,k3⟩
      rw [hr];have K3:=Lib.hid ((HJ.out.1.alloc _).then k3);have K4:=Lib.hid ((HJ.out.2.1.alloc _).then k3);have Uq:=Lib.hid hr;clear k3 hr
      go_wp2_with fail
      go_roundw
      case rel=>exact ⟨j + 1,by omega,by go_num,Lib.hid ⟨K3.out,K4.out,fun i o2 hi h2=>by
       by_cases e:i=j
       ·subst e;rw [HO.out] at h2;cases h2;exact Uq.out
       ·exact HJ.out.2.2 i o2 (by omega) h2⟩⟩
      case measure=>simp [intOf];omega
    ·obtain rfl:j=l.length:=by omega
     by_cases wX:16 < l.length
     ·have HN:Hid (false=q):=Lib.hid (by rw [← HQ.out,Pn.LI HX.out (Pn.Ul wX)])
      go_wp2_with fail
      go_ret
      exact ⟨eI HN.out,HJ.out.1⟩
     have Ur:l.length≤16:=by omega
     clear wX;have Ut:Hid (Pn.mC l=true):=Lib.hid (Pn.Um Ur HJ.out.2.2)
     go_wp2_with fail
     go_roundw
     case rel=>exact ⟨k + 1,by omega,by go_num,Lib.hid ⟨HJ.out.1,fun i l2 hi h2=>by
      by_cases e:i=k
      ·subst e;rw [HX.out] at h2;cases h2;exact Ut.out
      ·exact HI.out.2 i l2 (by omega) h2⟩⟩
     case measure=>simp [intOf];omega
  ·obtain rfl:k=p.length:=by omega
   by_cases hlen:p.length < 1∨8 < p.length
   ·have HN:Hid (false=q):=Lib.hid (by rw [← HQ.out,Pn.Un hlen]);rcases hlen with hl | hl
    ·go_wp2_with fail
     all_goals
      go_ret
      exact ⟨eI (by have h:=HN.out;subst h;first | rfl | (simp <;> omega)),HI.out.1⟩
    ·have rL:1≤p.length:=by omega
     go_wp2_with fail
     all_goals
      go_ret
      exact ⟨eI (by have h:=HN.out;subst h;first | rfl | (simp <;> omega)),HI.out.1⟩
   ·have rL:1≤p.length:=by omega
    have Uu:p.length≤8:=by omega
    have HN:Hid (true=q):=Lib.hid (by rw [← HQ.out,Pn.Uo rL Uu HI.out.2])
    go_wp2_with fail
    all_goals
     go_ret
     exact ⟨eI (by have h:=HN.out;subst h;first | rfl | (simp <;> omega)),HI.out.1⟩
open Go.RowKit
namespace Fl
open Sx
section
variable {α:Type} {E:World→List Value→α→List Nat→Prop} {enc:α→List A}
def Is (enc:α→List A) (E:World→List Value→α→List Nat→Prop):Prop :=
 ∀ (ok:Nat→Prop) (w:World) (cs:List Value) (a:α),RC ok w (enc a) cs→∃ U,E w cs a U∧∀ x∈U,ok x∧x < w.heap.size
theorem Is.parts (h:Is enc E) {ok:Nat→Prop} {w:World} {sz:Nat}:∀ {l:List α} {xs:List Value},RX ok w sz (l.map enc) xs→∃ S,ru E sz w xs l S∧∀ x∈S,ok x∧x < w.heap.size
 | [],xs,r=>⟨[],fun k a hk=>by simp at hk,by simp⟩
 | a :: l,xs,r=>by
  obtain ⟨vs,ys,rfl,h2,h3,h4⟩:=r;obtain ⟨U,u1,u2⟩:=h ok w vs a h3;obtain ⟨S,s1,s2⟩:=Is.parts h h4;refine ⟨U ++ S,fun k b hk=>?_,fun x hx=>(List.mem_append.1 hx).elim (u2 x) (s2 x)⟩
  cases k with
  | zero =>
   simp at hk;subst hk;refine ⟨U,?_,fun x hx=>List.mem_append_left _ hx⟩;have:chunk (vs ++ ys) sz 0=vs:=by unfold chunk;simp [← h2]
   rw [this];exact u1
  | succ k =>
   simp at hk;obtain ⟨V,v1,v2⟩:=s1 k b hk;refine ⟨V,?_,fun x hx=>List.mem_append_right _ (v2 x hx)⟩;have:chunk (vs ++ ys) sz (k + 1)=chunk ys sz k:=by
    unfold chunk;rw [show (k + 1) * sz=vs.length + k * sz by rw [h2,Nat.add_mul];omega,List.drop_length_add_append]
   rw [this];exact v1
theorem RA.jh {ok:Nat→Prop} {w:World} {sz:Nat} {l:List (List A)} {x:Value} (h:RA ok w (.r sz l) x):∃ ys S,View w x sz l.length ys S∧RX ok w sz l ys∧∀ g∈S,ok g∧g < w.heap.size:=by
 obtain ⟨ys,S,v1,v2,v3⟩:=h.view;exact ⟨ys,S,v1,v2,fun g hg=>⟨v3 g hg,v1.lt g hg⟩⟩
theorem Is.gv (h:Is enc E) {ok:Nat→Prop} {w:World} {sz:Nat} {l:List α} {v:Value} (r:RA ok w (.r sz (l.map enc)) v):∃ S,GV E sz w v l S∧∀ x∈S,ok x∧x < w.heap.size:=by
 obtain ⟨ys,T,v1,v2,v3⟩:=r.jh;rw [List.length_map] at v1;obtain ⟨S,s1,s2⟩:=h.parts v2;exact ⟨T ++ S,⟨ys,T,v1,s1.mono fun x hx=>List.mem_append_right _ hx,fun x hx=>List.mem_append_left _ hx,fun x hx=>(List.mem_append.1 hx).elim (fun h=>(v3 x h).2) (fun h=>(s2 x h).2),v2.one⟩,fun x hx=>(List.mem_append.1 hx).elim (v3 x) (s2 x)⟩
theorem Is.row (h:Is enc E) {sz:Nat}:Is (fun l:List α=>[A.r sz (l.map enc)]) (qm E sz):=fun ok w cs l r=>by
 unfold RC at r;obtain ⟨x,xs,rfl,r1,r2⟩:=r;unfold RC at r2;subst r2;obtain ⟨S,s1,s2⟩:=h.gv r1;exact ⟨S,⟨x,rfl,s1⟩,s2⟩
end
theorem RC.c1 {ok:Nat→Prop} {w:World} {v:Value} {fh:List A} {cs:List Value} (h:RC ok w (.v v :: fh) cs):∃ ys,cs=v :: ys∧RC ok w fh ys:=by
 unfold RC at h;obtain ⟨x,xs,rfl,h1,h2⟩:=h;unfold RA at h1;exact ⟨xs,by rw [h1.1],h2⟩
theorem RC.n0 {ok:Nat→Prop} {w:World} {cs:List Value} (h:RC ok w [] cs):cs=[]:=by unfold RC at h;exact h
theorem Uv:Is tr mM:=fun ok w cs c r=>by
 obtain ⟨y1,e1,r1⟩:=RC.c1 (fh:=[nI c.ch,nI c.v]) r;obtain ⟨y2,e2,r2⟩:=r1.c1;obtain ⟨y3,e3,r3⟩:=r2.c1;have e4:=r3.n0;subst e4 e3 e2;exact ⟨[],⟨e1,rfl⟩,by simp⟩
theorem Uw:Is dH wV:=fun ok w cs o r=>by
 obtain ⟨y1,e1,r1⟩:=RC.c1 (fh:=[nI o.ch,nI o.n,nI o.v,.r 3 (o.cases.map tr),bI o.dN]) r;obtain ⟨y2,e2,r2⟩:=r1.c1;obtain ⟨y3,e3,r3⟩:=r2.c1;obtain ⟨y4,e4,r4⟩:=r3.c1;unfold RC at r4;obtain ⟨x,y5,e5,r5,r6⟩:=r4;obtain ⟨y6,e6,r7⟩:=r6.c1;have e7:=r7.n0;obtain ⟨S,s1,s2⟩:=Uv.gv r5;subst e7 e6 e5 e4 e3 e2;exact ⟨S,⟨x,e1,s1⟩,s2⟩
theorem Ux:Is (fun l:List Pn.Op=>[A.r 6 (l.map dH)]) tK:=Uw.row
theorem Uy {ok:Nat→Prop} {w:World} {p:List (List Pn.Op)} {v:Value} (r:RA ok w (sw p) v):∃ S,GV tK 1 w v p S∧∀ x∈S,ok x∧x < w.heap.size:=Ux.gv r
theorem bU.c {ok:Nat→Prop} {w:World} {a:A} {ds:List D} {xs:List Value} (h:bU ok w (.c a :: ds) xs):∃ x ys,xs=x :: ys∧RA ok w a x∧bU ok w ds ys:=by
 unfold bU at h;obtain ⟨x,ys,rfl,h1,h2⟩:=h;unfold RD at h1;exact ⟨x,ys,rfl,h1,h2⟩
theorem Uz (p:List (List Pn.Op)):Pure Tryz.prog 122 [.c (sw p)] (.c (bI (Pn.right p))) :=
 ax.plain fun ok e xs hd=>by
  obtain ⟨v,ys,rfl,r,h⟩:=hd.c;rw [h.Le];obtain ⟨S,s1,s2⟩:=Uy r;refine (Up e v p S s1).mono ?_
  rintro en w' ⟨rfl,k⟩
  exact ⟨_,rfl,k,RD.v rfl⟩
end Fl
open Go.RowKit
namespace Fl
open Sx
set_option maxRecDepth 100000
section
variable {P:Program} {c:Cx} {k:List Item} {f:Fm} {L L2:List ak} {T:TypeId} {ps:String} {af:Array Edge} {gd:Option (Nat × Bool)} {t:Nat}
theorem Ld.wY {F:FuncId} {args:List Operand} {tys:Array TypeId} {dm ds:List D} {ι:Type} {dd:ι→D} {r:ι→ak} [i:aJ P F] (hC:ax P F ds [] (fun x=>(dd x,[r x]))) (ht:t < c.N) (h:iL f args=some dm) (hle:aK dm ds) :
  Ld P c ⟨some t,.call ⟨.value (.func F),args.toArray,tys⟩,T,ps,af,gd⟩ f L [] (fun x=>(t,dd x) :: f) (fun x=>r x :: L) :=
 Ld.call (P:=P) (c:=c) (T:=T) (ps:=ps) (af:=af) (gd:=gd) (L:=L) (f:=f) (tys:=tys) hC ht h hle (Ll:=[]) (Lr:=L) rfl
theorem gS {r:ak} {T' L L':List ak} (i:Nat) (h:L[i]?=some r) (e:L.eraseIdx i=L') (k:T'.Perm L'):(r :: T').Perm L:=by
 subst e;exact (k.cons r).trans (sY L i h)
theorem J.UA {Φ:World→List Nat→Prop} (zq:pG Φ) (h0:∀ w,Φ w []) (h:J P c k f (aP Φ [] :: L)):J P c k f L:=⟨fun a w s=>by
 have hf:aT (aP Φ [] :: L)=aT L:=by simp [aT,aP,ak.bY]
 have ho:bG c (aP Φ [] :: L)=bG c L:=by funext x;unfold bG;rw [hf]
 refine h.go a w ⟨s.kp,s.size,s.jV,fun q hq=>?_,fun x hx=>s.fF x (hf ▸ hx),List.pairwise_cons.2 ⟨fun q _ x hx=>by simp [aP,ak.bY] at hx,s.ap⟩,fun t d ht=>by rw [ho];exact s.fr t d ht⟩;rw [ho];rcases List.mem_cons.1 hq with rfl | hq
 ·exact (aP.holds zq).2 (h0 w)
 ·exact s.res q hq⟩
end
theorem tR.none (w:World):tR [] w []:=⟨[],rfl,rfl,List.Pairwise.nil,fun i x Si h=>by simp at h⟩
theorem UB {p:List (List Pn.Op)} (h:Pn.right p=true):1≤p.length∧p.length≤8∧∀ ops∈p,ops.length≤16∧∀ o∈ops,o.cases.length≤6:=by
 unfold Pn.right at h;rw [decide_eq_true_iff] at h;refine ⟨h.1,h.2.1,fun ops ho=>?_⟩;have h2:=h.2.2 ops ho;unfold Pn.mC at h2;rw [decide_eq_true_iff] at h2;refine ⟨h2.1,fun o zy=>?_⟩;have h3:=h2.2 o zy;unfold Pn.eU at h3;rw [decide_eq_true_iff] at h3;exact h3.2.2.2.2.2.2.2.2.1
end Fl
open Go.RowKit
namespace Fl
open Sx
set_option maxRecDepth 100000
section
variable {P:Program} {c:Cx} {f:Fm} {L:List ak} {T:TypeId} {ps:String} {af:Array Edge} {gd:Option (Nat × Bool)} {t:Nat}
theorem Qt.iP {x y:Operand} {X Y:Nat} {kd:IntKind} {m:Int} (h:aU f x=some (.c (.v (.int kd m)))) (hy:aU f y=some (.c (.v (.int kd m)))):Qt P c [] ⟨t,.binOp .neq X x y Y,T,ps,af,gd⟩ f L (.c (.v (.bool false))) :=
 Qt.cmp h hy (by simp [uz])
theorem Qt.wZ {x y:Operand} {X Y:Nat} {m:Bool} [i:vY P X] (h:aU f x=some (.c (.v (.bool m)))) (hy:aU f y=some (.c (.v (.bool m)))):Qt P c [] ⟨t,.binOp .neq X x y Y,T,ps,af,gd⟩ f L (.c (.v (.bool false))) :=
 (Qt.yq h hy).eq (by simp)
theorem vq {ok:Nat→Prop} {w:World}:∀ {zs:List Value} {xs:List Value},RC ok w (vs zs) xs→xs=zs
 | [],xs,h=>h.n0
 | z :: zs,xs,h=>by
  obtain ⟨ys,rfl,r⟩:=RC.c1 (fh:=vs zs) h;rw [vq r]
theorem Qt.FA {x y:Operand} {X Y:Nat} (zs:List Value) (h:aU f x=some (.agg (vs zs))) (hy:aU f y=some (.agg (vs zs))) (hr:∀ w,(binOp .eql X (.agg zs.toArray) (.agg zs.toArray)).run P w=.ok (.bool true) w) (hg:P.eqGuardType P.depth X=false):Qt P c [] ⟨t,.binOp .eql X x y Y,T,ps,af,gd⟩ f L (.c (.v (.bool true))):=⟨fun a w s=>by
 have rx:=s.ev h;have ry:=s.ev hy;unfold RD at rx ry;obtain ⟨v1,e1,r1⟩:=rx;obtain ⟨v2,e2,r2⟩:=ry;rw [vq r1] at e1;rw [vq r2] at e2;refine ⟨.bool true,by unfold RD RA;exact ⟨rfl,rfl⟩,fun w' k=>?_⟩;simp [execOp,e1,e2,hr,Sem.run_bind,run_eqGuard_agg _ _ _ _ _ _ _ hg]⟩
end
theorem FB:Tryz.prog.underlying 45=some (.struct (Tryz.prog.fieldsOf 45)):=by kernel_rfl
theorem FC:Tryz.prog.stoodInHeld 45=false:=by kernel_rfl
theorem FD:Tryz.prog.eqGuardType Tryz.prog.depth 45=false:=by kernel_rfl
theorem FE:∃ f0 f1 f2 f3 f4:Field,(Tryz.prog.fieldsOf 45).toList=[f0,f1,f2,f3,f4]∧(f0.name≠"_"∧f1.name≠"_"∧f2.name≠"_"∧f3.name≠"_"∧f4.name≠"_")∧(f0.type=3∧f1.type=3∧f2.type=2∧f3.type=4∧f4.type=3)∧f0.offset=0∧f1.offset=1∧f2.offset=2∧f3.offset=3∧f4.offset=4:=by
 unfold Program.fieldsOf;rw [Tryz.underlying45];exact ⟨_,_,_,_,_,rfl,⟨by decide,by decide,by decide,by decide,by decide⟩,⟨rfl,rfl,rfl,rfl,rfl⟩,rfl,rfl,rfl,rfl,rfl⟩
theorem FF (w:World) (x0:Int) (x1:Int) (x2:Int) (x3:Bool) (x4:Int):(binOp .eql 45 (.agg #[.int .i64 x0,.int .i64 x1,.int .i64 x2,.bool x3,.int .i64 x4]) (.agg #[.int .i64 x0,.int .i64 x1,.int .i64 x2,.bool x3,.int .i64 x4])).run Tryz.prog w=.ok (.bool true) w:=by
 obtain ⟨f0,f1,f2,f3,f4,hf,⟨n0,n1,n2,n3,n4⟩,⟨t0,t1,t2,t3,t4⟩,o0,o1,o2,o3,o4⟩:=FE;rw [run_eql_struct,run_equalIn_struct _ _ _ _ _ FB FC,hf];have hi:=Tryz.underlying3;have dx:=Tryz.underlying2;have hb:=Tryz.underlying4;simp [Op.eqFields,n0,t0,o0,n1,t1,o1,n2,t2,o2,n3,t3,o3,n4,t4,o4,go_sem,hi,dx,hb]
end Fl
open Go.RowKit
namespace Fl
open Sx
set_option maxRecDepth 100000
structure Fe (s:ah):Prop where
 gs:s.gs.length≤100000
 ch:s.au.length≤100000
 su:s.aC.length≤100000
 dr:s.cG.length≤100000
 dn:s.done.length≤100000
 cl:s.cache.length=s.gs.length
 cb:∀ l∈s.cache,l.length≤100000
 mb:s.middle.length≤100000
 gb:∀ g∈s.gs,g.ops.length≤100000∧(∀ o∈g.ops,o.cases.length≤100000)∧g.order.length≤100000∧g.aF.length≤100000∧g.ay.length≤100000∧g.an.length≤100000
 hb:∀ c∈s.au,c.buf.length≤100000∧c.recv.length≤100000∧c.send.length≤100000
end Fl
end Go.Proofs.YtofnbflkhgammaaGreat
