/-
  What the laws need, part A15.
  Conditions: none.
-/
import Derived.Test.YtdjhhbpedllnhaaGreatA13
import Derived.Test.YtdjhhbpedllnhaaGreatA14
import Derived.Laws.Pointers
set_option linter.unusedVariables false
set_option linter.unusedSimpArgs false
set_option linter.unnecessarySimpa false
set_option maxHeartbeats 2000000
namespace Go.Proofs.YtdjhhbpedllnhaaGreat
open Go.RowKit
theorem Uy (w:World) (size cR most:Int) :
  Calls Tryz.prog 93 #[.int .i64 size,.int .i64 cR,.int .i64 most] w fun e w'=>e=.returned (.bool (Po.fits size cR most))∧w=w':=by
 have zf:size < 0∨(0≤size∧64 < size)∨(0≤size∧size≤64∧cR < 0)∨(0≤size∧size≤64∧0≤cR∧8 < cR)∨(0≤size∧size≤64∧0≤cR∧cR≤8∧most < 1)∨(0≤size∧size≤64∧0≤cR∧cR≤8∧1≤most∧16 < most)∨(0≤size∧size≤64∧0≤cR∧cR≤8∧1≤most∧most≤16):=by omega
 obtain ⟨c,hc⟩:∃ c,c=Po.fits size cR most:=⟨_,rfl⟩
 have HC:=Lib.hid hc;rw [← hc];clear hc;rcases zf with h1 | ⟨h1,h2⟩ | ⟨h1,h2,h3⟩ | ⟨h1,h2,h3,h4⟩ | ⟨h1,h2,h3,h4,h5⟩ | ⟨h1,h2,h3,h4,h5,h6⟩ | ⟨h1,h2,h3,h4,h5,h6⟩
 all_goals go_enter Tryz.func93,Tryz.ntmps93
 all_goals go_wp2_with fail
 all_goals go_ret
 all_goals exact ⟨eW (by rw [HC.out,Bool.eq_iff_iff];simp [Po.fits];omega),rfl⟩
open Go.RowKit
namespace Fl
open Sx
set_option maxRecDepth 100000
theorem Uz (s g c:Int):Po.fits s g c=Sx.can s g c:=by
 rfl
theorem UA (s g c:Int):Pure Tryz.prog 93 [.c (nI s),.c (nI g),.c (nI c)] (.c (bI (Sx.can s g c))) :=
 av.plain fun ok e xs hd=>by
  obtain rfl:=hd.v3;refine (Uy e s g c).mono ?_
  rintro en w' ⟨rfl,rfl⟩
  rw [Uz];exact ⟨_,rfl,aq.refl _ _,RD.v rfl⟩
def K7 (sn:Nat) (cn:Int) (d:List Int) (g su k:A):List A:=[nI sn,nI cn,nI 0,g,.v (.slice none 0 0),su,k,.v (.slice none 0 0),nI 0,nG d,nI 0,.v (.slice none 0 0)]
theorem UB (p:List (List Pn.Op)) (sn cn:Int) (d:List Int) :
  Pure Tryz.prog 32 [.c (sk p),.agg [nI sn,nI cn],.c (nG d)] (.aZ [.agg (aD (Sx.new p sn cn d).1),.c (nI (Sx.new p sn cn d).2)]):=by
 have CR:=Uu p;have CC:=UA sn p.length cn
 cases hr:Pn.right p with
 | false =>
  have e1:Sx.new p sn cn d=(tj,3):=by unfold Sx.new;rw [if_pos hr]
  rw [e1];rw [hr] at CR;refine av.intro Tryz.func32 rfl rfl rfl (fun ok e=>?_)
  repeat (first | (refine K.store ?_;refine JO.ld (Ld.bh rfl rfl rfl (by exact rfl) (by exact rfl)) rfl (fun _=>?_)) | refine ay ?_ | intro _)
  (exact J.ret Tryz.func32 rfl (.cons (.cell 0 rfl rfl rfl) (.cons (.tmp rfl) .nil)) () (by (exact .aZ (by repeat (first | exact .nil | refine .cons (.agg (by repeat (first | exact .nil | refine .cons .refl ?_ | refine .cons .nil ?_))) ?_ | refine .cons .refl ?_)))) [] .nil rfl rfl)
 | true =>
  rw [hr] at CR
  cases hc:Sx.can sn p.length cn with
  | false =>
   have e1:Sx.new p sn cn d=(tj,1):=by unfold Sx.new;rw [if_neg (by simp [hr]),if_pos hc]
   rw [e1];rw [hc] at CC;refine av.intro Tryz.func32 rfl rfl rfl (fun ok e=>?_)
   repeat (first | (refine K.store ?_;refine JO.ld (Ld.bh rfl rfl rfl (by exact rfl) (by exact rfl)) rfl (fun _=>?_)) | refine ay ?_ | intro _)
   (exact J.ret Tryz.func32 rfl (.cons (.cell 0 rfl rfl rfl) (.cons (.tmp rfl) .nil)) () (by (exact .aZ (by repeat (first | exact .nil | refine .cons (.agg (by repeat (first | exact .nil | refine .cons .refl ?_ | refine .cons .nil ?_))) ?_ | refine .cons .refl ?_)))) [] .nil rfl rfl)
  | true =>
   have e1:Sx.new p sn cn d=(Sx.start p sn cn d,0):=by unfold Sx.new;rw [if_neg (by simp [hr]),if_neg (by simp [hc])]
   rw [e1];rw [hc] at CC;obtain ⟨r1,r2,r3⟩:=Uw hr;unfold Sx.can at hc;simp only [decide_eq_true_eq] at hc;obtain ⟨sm,rfl⟩:∃ sm:Nat,sn=sm:=⟨sn.toNat,by omega⟩
   refine av.intro Tryz.func32 rfl rfl rfl (fun ok e=>?_)
   repeat (first | (refine K.store ?_;refine JO.ld (Ld.bh rfl rfl rfl (by exact rfl) (by exact rfl)) rfl (fun _=>?_)) | refine ay ?_ | intro _)
   rename_i b4 b6 b8 _;refine J.oG 47 25 ?_;refine J.oG 28 1 ?_;refine J.loop (ι:={ q:Nat × Value × Value // q.1≤p.length }) (fun q=>[(30,.c (nI q.1.1)),(29,.c (nI p.length)),(28,.c (sk p)),(8,.c (.v (.pointer (some ⟨b8,0,none⟩)))),(6,.c (.v (.pointer (some ⟨b6,0,none⟩)))),(4,.c (.v (.pointer (some ⟨b4,0,none⟩))))]) (fun q=>.row q.1.2.1 28 1 (((p.take q.1.1).map fun _=>([]:List Int)).map fun l=>[ints l]) :: .row q.1.2.2 47 25 (((p.take q.1.1).map (clean · 0)).map eG) :: .box b8 36 (K7 sm cn d (.v q.1.2.2) (.v (.slice none 0 0)) (.v q.1.2.1)) :: .box b6 36 rQ :: .box b4 24 [nI sm,nI cn] :: []) (fun q=>p.length - q.1.1) ⟨(0,.slice none 0 0,.slice none 0 0),Nat.zero_le _⟩ (fun X h=>h.bO ⟨rfl,rfl,rfl,rfl,rfl,rfl,trivial⟩) (fun q ih=>?_);obtain ⟨⟨k,vc,vg⟩,hk⟩:=q;simp only at hk ih ⊢
   by_cases bZ:k < p.length
   ·have t1:(decide ((k:Int) < (p.length:Int)))=true:=by simpa using bZ
    obtain ⟨ops,ho⟩:∃ ops,p[k]?=some ops:=⟨_,List.getElem?_eq_getElem bZ⟩
    have J1:(p.map fun ops=>[A.r 6 (ops.map eL)])[((k:Int)).toNat]?=some [A.r 6 (ops.map eL)]:=by rw [Int.toNat_natCast,List.getElem?_map,ho];rfl
    have fK:(p.take k).length=k:=by rw [List.length_take];omega
    repeat (refine gn ?_)
    refine J.draw (by kernel_rfl) rfl ?_;refine JW.iU [1] (some 7) ?_;refine tk 0 ?_;refine tk 1 ?_;refine tk 2 ?_;refine c9 3 (FE ops 0) ?_;refine jl 4 rfl rfl rfl rfl (Ld.oW (qb rfl) rfl rfl rfl rfl rfl) .none (fun _=>?_);refine jl 5 rfl rfl rfl rfl (Ld.cB (qb rfl) rfl rfl .read (by (simp;omega))) (.uM rfl) (fun _=>?_);refine jk 6 rfl rfl rfl rfl (Qt.fieldAddr rfl rfl) ?_;refine jt 7 rfl rfl (Ld.di rfl rfl (by exact rfl)) (fun _=>?_);refine cu ?_
    repeat (first | (refine K.store ?_;refine JO.ld (Ld.di rfl rfl (by exact rfl)) rfl (fun _=>?_)) | (refine K.lit ?_;first | (refine JO.ld (Ld.QF (qb rfl)) rfl (fun _=>?_)) | (refine JO.ld (Ld.oW (qb rfl) rfl rfl rfl rfl rfl) rfl (fun _=>?_))) | (refine K.bi ?_;refine JO.ld (Ld.cB (qb rfl) rfl rfl .read (by (simp;omega))) rfl (fun _=>?_)) | refine gn ?_)
    rename_i Fz _ _ _ FA _;refine J.fQ ?_ ((ih ⟨(k + 1,FA,Fz),by simp only;omega⟩ (by simp only;omega)).bO ⟨rfl,rfl,rfl,rfl,rfl,rfl,trivial⟩);rw [List.take_add_one,ho,List.map_append,List.map_append,List.map_append,List.map_append];rfl
   ·have t1:(decide ((k:Int) < (p.length:Int)))=false:=by simpa using bZ
    obtain rfl:k=p.length:=by omega
    rw [List.take_of_length_le (Nat.le_refl _)];refine J.nF 0 2 6 rfl rfl rfl ?_;refine J.nF 0 1 3 rfl rfl rfl ?_
    repeat (refine gn ?_)
    refine J.oG 52 7 ?_;refine J.loop (ι:={ q:Nat × Value // q.1≤sm }) (fun q=>[(11,.c (nI q.1.1)),(8,.c (.v (.pointer (some ⟨b8,0,none⟩)))),(6,.c (.v (.pointer (some ⟨b6,0,none⟩)))),(4,.c (.v (.pointer (some ⟨b4,0,none⟩))))]) (fun q=>.row q.1.2 52 7 ((List.replicate q.1.1 fB).map eS) :: .box b8 36 (K7 sm cn d (.r 25 ((p.map (clean · 0)).map eG)) (.v q.1.2) (.r 1 ((p.map fun _=>([]:List Int)).map fun l=>[ints l]))) :: .box b6 36 rQ :: .box b4 24 [nI sm,nI cn] :: []) (fun q=>sm - q.1.1) ⟨(0,.slice none 0 0),Nat.zero_le _⟩ (fun X h=>h.bO ⟨rfl,rfl,rfl,rfl,trivial⟩) (fun q ih=>?_);obtain ⟨⟨j,vs⟩,hj⟩:=q;simp only at hj ih ⊢
    by_cases eP:j < sm
    ·have t1:(decide ((j:Int) < (sm:Int)))=true:=by simpa using eP
     repeat (first | (refine K.store ?_;refine JO.ld (Ld.di rfl rfl (by exact rfl)) rfl (fun _=>?_)) | (refine K.lit ?_;refine JO.ld (Ld.oW (qb rfl) rfl rfl rfl rfl rfl) rfl (fun _=>?_)) | (refine K.bi ?_;refine JO.ld (Ld.cB (qb rfl) rfl rfl .read (by (simp;omega))) rfl (fun _=>?_)) | refine gn ?_)
     rename_i UC _;refine J.fQ ?_ ((ih ⟨(j + 1,UC),by simp only;omega⟩ (by simp only;omega)).bO ⟨rfl,rfl,rfl,rfl,trivial⟩);rw [List.replicate_succ',List.map_append];rfl
    ·have t1:(decide ((j:Int) < (sm:Int)))=false:=by simpa using eP
     obtain rfl:j=sm:=by omega
     refine J.nF 0 1 5 rfl rfl rfl ?_
     repeat (first | (refine K.store ?_;refine JO.ld (Ld.bh rfl rfl rfl (by exact rfl) (by exact rfl)) rfl (fun _=>?_)) | refine gn ?_)
     (exact J.ret Tryz.func32 rfl (.cons (.cell 1 rfl rfl rfl) (.cons (.tmp rfl) .nil)) () (by (exact .aZ (by repeat (first | exact .nil | refine .cons (.agg (by repeat (first | exact .nil | refine .cons .refl ?_ | refine .cons .nil ?_))) ?_ | refine .cons .refl ?_)))) [] .nil rfl rfl)
end Fl
open Go.RowKit
namespace Fl
open Sx
set_option maxRecDepth 100000
section
variable {P:Program} {c:Cx} {f:Fm} {L:List an} {T X:TypeId} {ps:String} {af:Array Edge} {gd:Option (Nat × Bool)} {t:Nat}
theorem Qt.zu {x y:Operand} {Y:Nat} {p:Option Addr} (hu:P.underlying X=some (.pointer (P.pointee X))) (h:bg f x=some (.c (.v (.pointer p)))) (hy:bg f y=some (.c (.v (.pointer none)))):Qt P c [] ⟨t,.binOp .eql X x y Y,T,ps,af,gd⟩ f L (.c (.v (.bool p.isNone))):=⟨fun a w s=>by
 have rx:=s.val h;have ry:=s.val hy;refine ⟨.bool p.isNone,by unfold RD RA;exact ⟨rfl,rfl⟩,fun w' k=>?_⟩;simp [execOp,rx,ry,eqGuard_at_pointer,Sem.run_bind,run_eql_pointer_nil _ _ _ hu]⟩
theorem jr.Lb {ok:Nat→Prop} {w:World}:∀ {xs ys:List A},jr xs ys→∀ {vs:List Value},RC ok w xs vs→RC ok w ys vs
 | _,_,.nil,vs,r=>r
 | _,_,.refl,vs,r=>r
 | _,_,.cons h k,vs,r=>by
  unfold RC at r;obtain ⟨x,zs,rfl,r1,r2⟩:=r;exact RC.cons (h.rep r1) (jr.Lb k r2)
end
theorem zw:Tryz.prog.underlying 39=some (.pointer (Tryz.prog.pointee 39)):=by kernel_rfl
end Fl
open Go.RowKit Go.ChangeShapes Go.WideShapes Go.Deep
namespace Fl
open Sx
section
variable {α:Type} {E:World→List Value→α→List Nat→Prop} {enc:α→List A}
def Si (enc:α→List A) (E:World→List Value→α→List Nat→Prop):Prop :=
 ∀ (ok:Nat→Prop) (w:World) (cs:List Value) (a:α) (U:List Nat),E w cs a U→(∀ x∈U,ok x)→RC ok w (enc a) cs
theorem Si.rx (h:Si enc E) {ok:Nat→Prop} {w:World} {sz:Nat} {S:List Nat} (hS:∀ x∈S,ok x):∀ {l:List α} {xs:List Value},xs.length=l.length * sz→ru E sz w xs l S→RX ok w sz (l.map enc) xs
 | [],xs,hl,r=>by simp at hl;subst hl;rfl
 | a :: l,xs,hl,r=>by
  have Bl:xs.length=l.length * sz + sz:=by rw [hl,List.length_cons,Nat.add_mul];omega
  refine ⟨xs.take sz,xs.drop sz,(List.take_append_drop sz xs).symm,by rw [List.length_take];omega,?_,Si.rx h hS (by rw [List.length_drop];omega) fun k b hk=>?_⟩
  ·obtain ⟨U,u1,u2⟩:=r 0 a rfl;have:chunk xs sz 0=xs.take sz:=by unfold chunk;simp
   rw [this] at u1;exact h ok w _ a U u1 fun x hx=>hS x (u2 x hx)
  ·obtain ⟨U,u1,u2⟩:=r (k + 1) b (by simpa using hk);have:chunk xs sz (k + 1)=chunk (xs.drop sz) sz k:=by
    unfold chunk;rw [List.drop_drop,show (k + 1) * sz=sz + k * sz by rw [Nat.add_mul];omega]
   rw [this] at u1;exact ⟨U,u1,u2⟩
theorem Si.ra (h:Si enc E) {ok:Nat→Prop} {w:World} {sz:Nat} {v:Value} {l:List α} {S:List Nat} (r:GV E sz w v l S) (hS:∀ x∈S,ok x):RA ok w (.r sz (l.map enc)) v:=by
 obtain ⟨xs,T,v1,v2,v3,v4,v5⟩:=r;exact RA.Bp (ys:=xs) (S:=T) (by rw [List.length_map];exact v1) (h.rx hS v1.len v2) fun g hg=>hS g (v3 g hg)
theorem Si.row (h:Si enc E) {sz:Nat}:Si (fun l:List α=>[A.r sz (l.map enc)]) (qd E sz):=fun ok w cs l U r hS=>by
 obtain ⟨v,rfl,g⟩:=r;exact RC.cons (h.ra g hS) RC.nil
end
theorem RA.w {ok:Nat→Prop} {w:World} {v:Value} (h:v.oneCell'=true):RA ok w (.v v) v:=by unfold RA;exact ⟨rfl,h⟩
theorem UD:Si tr mS:=fun ok w cs c U r _=>by
 obtain ⟨rfl,_⟩:=r;exact RC.cons (RA.w rfl) (RC.cons (RA.w rfl) (RC.cons (RA.w rfl) RC.nil))
theorem UE:Si eL wU:=fun ok w cs o U r hS=>by
 obtain ⟨vc,rfl,g⟩:=r;exact RC.cons (RA.w rfl) (RC.cons (RA.w rfl) (RC.cons (RA.w rfl) (RC.cons (RA.w rfl) (RC.cons (UD.ra g hS) (RC.cons (RA.w rfl) RC.nil)))))
theorem UF:Si (fun l:List Pn.Op=>[A.r 6 (l.map eL)]) tM:=UE.row
theorem UG:Si (fun n:Int=>[A.v (.int .u16 n)]) (mC .u16):=fun ok w cs n U r _=>by
 obtain ⟨rfl,_⟩:=r;exact RC.cons (RA.w rfl) RC.nil
theorem UH:Si (fun n:Int=>[nI n]) (mC .i64):=fun ok w cs n U r _=>by
 obtain ⟨rfl,_⟩:=r;exact RC.cons (RA.w rfl) RC.nil
structure wZ where
 p:List (List Pn.Op)
 sn:Int
 cn:Int
 d:List Int
def vr (w:World) (cs:List Value) (a:wZ) (U:List Nat):Prop :=
 ∃ vp vd,cs=[vp,.int .i64 a.sn,.int .i64 a.cn,vd]∧GV tM 1 w vp a.p U∧GV (mC .u16) 1 w vd a.d U
theorem UI:Kept vr :=
 ⟨fun h k hn=>by obtain ⟨vp,vd,h1,h2,h3⟩:=h;exact ⟨vp,vd,h1,h2.aY KL k hn,h3.aY (Iy _) k hn⟩,fun h=>by obtain ⟨vp,vd,h1,h2,h3⟩:=h;exact h2.lt⟩
def pq (p:List (List Pn.Op)) (sn cn:Int) (d:List Int):List A:=[sk p,nI sn,nI cn,nG d]
theorem UJ {ok:Nat→Prop} {w:World} {cs:List Value} {a:wZ} {U:List Nat} (h:vr w cs a U) (hS:∀ x∈U,ok x):RC ok w (pq a.p a.sn a.cn a.d) cs:=by
 obtain ⟨vp,vd,rfl,h2,h3⟩:=h;exact RC.cons (UF.ra h2 hS) (RC.cons (RA.w rfl) (RC.cons (RA.w rfl) (RC.cons (UG.ra h3 hS) RC.nil)))
theorem FG:gi Tryz.prog 3 (mC .i64) 1:=A0 Tryz.underlying3 (by kernel_rfl)
theorem UK:gi Tryz.prog 110 (mC .u16) 1:=A0 Tryz.underlying110 (by kernel_rfl)
theorem UL:gi Tryz.prog 25 (qd (mC .u16) 1) 1:=yb Tryz.underlying25 (by kernel_rfl) UK
def Lc (w:World) (cs:List Value) (a:Int × Int) (U:List Nat):Prop:=cs=[.int .i64 a.1,.int .i64 a.2]∧U=[]
theorem UM:Kept Lc:=⟨fun h _ _=>h,fun h x hx=>by obtain ⟨_,rfl⟩:=h;simp at hx⟩
theorem UN:gi Tryz.prog 24 Lc 2:=by
 refine ⟨by omega,UM,by kernel_rfl,?_⟩;intro H enc W fuel cs x h;obtain ⟨xs,n,_,_,hl,kB,hf⟩:=DataW.trod_struct Tryz.underlying24 h;have j8:cs.length=2:=hl.trans (by kernel_rfl);obtain ⟨v0,v1,rfl⟩:=PB j8;have rF:xs.length=2:=kB.trans (by kernel_rfl);have hs:∀ i,i < 2→(xs[i]?).isSome=true:=fun i hi=>by simp [rF,hi]
 obtain ⟨o0,_,a0,U0,e0,_,_⟩:=FG.field rfl rfl (hs 0 (by omega)) (hf 0 _ rfl);obtain ⟨o1,_,a1,U1,e1,_,_⟩:=FG.field rfl rfl (hs 1 (by omega)) (hf 1 _ rfl);simp at e0 e1 o0 o1;subst e0 e1;exact ⟨rfl,(by intro y hy;simp at hy;rcases hy with rfl | rfl <;> rfl),(a0,a1),[],rfl,rfl⟩
theorem Le:gi Tryz.prog 27 vr 4:=by
 refine ⟨by omega,UI,by kernel_rfl,?_⟩;intro H enc W fuel cs x h;obtain ⟨xs,n,_,_,hl,kB,hf⟩:=DataW.trod_struct Tryz.underlying27 h;have UO:cs.length=4:=hl.trans (by kernel_rfl);obtain ⟨v0,v1,v2,v3,rfl⟩:=PD UO;have yF:xs.length=3:=kB.trans (by kernel_rfl);have hs:∀ i,i < 3→(xs[i]?).isSome=true:=fun i hi=>by simp [yF,hi]
 obtain ⟨o0,_,a0,U0,vp,e0,h0⟩:=T4.field rfl rfl (hs 0 (by omega)) (hf 0 _ rfl);obtain ⟨o1,_,a1,U1,e1,_⟩:=UN.field rfl rfl (hs 1 (by omega)) (hf 1 _ rfl);obtain ⟨o2,_,a2,U2,vd,e2,h2⟩:=UL.field rfl rfl (hs 2 (by omega)) (hf 2 _ rfl);simp at e0 e1 e2 o0 o1 o2;obtain ⟨UP,UQ⟩:=e1;subst e0 UP UQ e2;have cJ:∀ x∈U0 ++ U2,x < W.heap.size:=fun x hx=>by
  rcases List.mem_append.1 hx with h | h
  ·exact h0.lt x h
  ·exact h2.lt x h
 exact ⟨rfl,(by intro y hy;simp at hy;rcases hy with rfl | rfl | rfl | rfl <;> first | rfl | assumption),⟨a0,a1.1,a1.2,a2⟩,U0 ++ U2,_,_,rfl,h0.mono (fun x hx=>by simp [hx]) cJ,h2.mono (fun x hx=>by simp [hx]) cJ⟩
theorem UR {P:Program} {F:FuncId} {ds:List D} (h:Pure P F ds (.c (bI true))) {w:World} {xs:List Value} (hd:ck (fun _=>True) w ds xs):Calls P F xs.toArray w fun e w'=>e=.returned (.bool true)∧aq [] w w':=by
 refine Calls.mono (h.go (fun _=>True) w xs hd (by simp) List.Pairwise.nil (by simp [bq])) ?_
 rintro en w' ⟨i,x,rfl,kp,_,_,_,r⟩
 unfold RD bI RA at r;exact ⟨by rw [r.1],by simpa [bq] using kp⟩
end Fl
open Go.RowKit
namespace Fl
open Sx
theorem Lf (off:Nat):∀ (l:List Value) (k:Nat) (z:Array Value),off + (k + l.length)≤z.size →
  (l.zipIdx k).foldl (fun cs x=>cs.setIfInBounds (off + x.2) x.1) z=(z.toList.take (off + k) ++ l ++ z.toList.drop (off + (k + l.length))).toArray
 | [],k,z,hz=>by simp
 | x :: l,k,z,hz=>by
  simp only [List.length_cons] at hz;rw [List.zipIdx_cons,List.foldl_cons,Lf off l (k + 1) _ (by simp;omega)];apply congrArg;simp only [Array.toList_setIfInBounds,List.length_cons];rw [← Nat.add_assoc,List.take_add_one,List.take_set,List.getElem?_set_self (by simp;omega)];rw [List.set_eq_of_length_le (by simp;omega),List.drop_set,if_pos (by omega)];simp only [Option.toList_some,List.append_assoc,List.singleton_append,List.cons_append,List.nil_append];rw [show k + (l.length + 1)=k + 1 + l.length by omega]
theorem Lg (sz:Nat):∀ (vs:List Value) (k:Nat) (z:Array Value),(∀ v∈vs,v.cells.size=sz)→(k + vs.length) * sz≤z.size →
  Instr.fill (fun j=>some (j * sz,sz)) z ((List.range' k vs.length).zip vs)=some (z.toList.take (k * sz) ++ vs.flatMap (·.cells.toList) ++ z.toList.drop ((k + vs.length) * sz)).toArray
 | [],k,z,h,hz=>by simp [Instr.fill]
 | v :: vs,k,z,h,hz=>by
  have hv:=h v (by simp);have e0:(k + (vs.length + 1)) * sz=k * sz + sz + vs.length * sz:=by simp [Nat.add_mul];omega
  simp only [List.length_cons] at hz;rw [e0] at hz;have P:=Lf (k * sz) v.cells.toList 0 z (by simp [hv];omega);simp only [Nat.zero_add,Nat.add_zero,Array.length_toList,hv] at P;have P':(v.cells.zipIdx.foldl (fun cs x=>cs.setIfInBounds (k * sz + x.2) x.1) z)=(z.toList.take (k * sz) ++ v.cells.toList ++ z.toList.drop (k * sz + sz)).toArray:=by
   rw [← Array.foldl_toList,Array.toList_zipIdx];exact P
  have ih:=Lg sz vs (k + 1) (z.toList.take (k * sz) ++ v.cells.toList ++ z.toList.drop (k * sz + sz)).toArray (fun u hu=>h u (by simp [hu])) (by simp [Nat.add_mul,hv];omega);simp only [List.length_cons,List.range'_succ,List.zip_cons_cons,Instr.fill];rw [if_neg (by simp [hv];omega)];refine Eq.trans (congrArg (fun z=>Instr.fill _ z _) P') (ih.trans ?_);have l1:(z.toList.take (k * sz) ++ v.cells.toList).length=(k + 1) * sz:=by simp [Nat.add_mul,hv];omega
  congr 2
  simp only [List.toList_toArray];rw [← l1,List.take_left' rfl,List.flatMap_cons];have e3:(k + 1 + vs.length) * sz=(z.toList.take (k * sz) ++ v.cells.toList).length + vs.length * sz:=by rw [l1];simp [Nat.add_mul]
  rw [e3,List.drop_append,List.drop_drop,e0];simp [List.append_assoc]
def qN (f:Fm):List (Nat × Operand)→Option (List (List A))
 | []=>some []
 | (_,x) :: l=>(bg f x).bind fun d=>(iz d).bind fun cs=>(qN f l).bind fun r=>some (cs :: r)
inductive nM:List (List A)→List (List A)→Prop
 | nil:nM [] []
 | cons {a b xs ys}:jr a b→nM xs ys→nM (a :: xs) (b :: ys)
 | refl {xs}:nM xs xs
theorem nM.rep {ok:Nat→Prop} {w:World} {sz:Nat} {a b:List (List A)} (h:nM a b):∀ {x:List Value},RX ok w sz a x→RX ok w sz b x:=by
 induction h with
 | nil=>exact fun h=>h
 | refl=>exact fun h=>h
 | cons h1 _ ih =>
  intro x r;unfold RX at r ⊢;obtain ⟨vs,ys,a1,a2,a3,a4⟩:=r;exact ⟨vs,ys,a1,a2,h1.Lb a3,ih a4⟩
theorem nM.len {a b:List (List A)} (h:nM a b):a.length=b.length:=by
 induction h with
 | nil=>rfl
 | refl=>rfl
 | cons _ _ ih=>simp [ih]
def zy:A→A→A
 | .v (.slice none 0 0),.r sz []=>.r sz []
 | a,_=>a
def pz:List A→List A→List A
 | a :: l,b :: m=>zy a b :: pz l m
 | l,_=>l
def sy:List (List A)→List (List A)→List (List A)
 | a :: l,b :: m=>pz a b :: sy l m
 | l,_=>l
theorem zy.le (a b:A):mc a (zy a b):=by
 unfold zy
 split
 ·exact .nil
 ·exact .refl
theorem pz.le:∀ a b:List A,jr a (pz a b)
 | [],b=>by unfold pz;exact .refl
 | a :: l,[]=>by unfold pz;exact .refl
 | a :: l,b :: m=>by unfold pz;exact .cons (zy.le a b) (pz.le l m)
theorem sy.le:∀ a b:List (List A),nM a (sy a b)
 | [],b=>by unfold sy;exact .refl
 | a :: l,[]=>by unfold sy;exact .refl
 | a :: l,b :: m=>by unfold sy;exact .cons (pz.le a b) (sy.le l m)
theorem jr.of {a b:List A} (h:pz a b=b):jr a b:=h ▸ pz.le a b
theorem nM.of {a b:List (List A)} (h:sy a b=b):nM a b:=h ▸ sy.le a b
section
variable {P:Program} {c:Cx} {f:Fm} {L:List an} {X T:TypeId} {t:Nat} {ps:String} {af:Array Edge} {gd:Option (Nat × Bool)}
theorem qN.rep {sz:Nat} {a:Act} {w:World} (s:St c f L a w):∀ {l:List (Nat × Operand)} {ll:List (List A)},qN f l=some ll→(ll.all (·.length == sz))=true →
  RX (bF c L) w sz ll ((l.map fun x=>a.eval x.2).flatMap (·.cells.toList))∧(∀ v∈l.map (fun x=>a.eval x.2),v.cells.size=sz)∧l.length=ll.length
 | [],ll,h,_=>by
  simp only [qN,Option.some.injEq] at h;subst h;exact ⟨rfl,by simp,rfl⟩
 | (j,x) :: l,ll,h,hs=>by
  simp only [qN] at h
  cases e1:bg f x with
  | none=>rw [e1] at h;cases h
  | some d =>
  cases e2:iz d with
  | none=>rw [e1] at h;simp [e2] at h
  | some cs =>
  cases e3:qN f l with
  | none=>rw [e1] at h;simp [e2,e3] at h
  | some r =>
  rw [e1] at h;simp only [e2,e3,Option.bind_some,Option.some.injEq] at h;subst h;simp only [List.all_cons,Bool.and_eq_true,beq_iff_eq] at hs;obtain ⟨r1,r2,r3⟩:=qN.rep s e3 hs.2;have ry:=iz.rep e2 (s.ev e1);have hz:(a.eval x).cells.size=sz:=by have:=ry.len;simp at this;omega
  refine ⟨?_,?_,by simp [r3]⟩
  ·unfold RX;exact ⟨_,_,rfl,by simpa using hz,ry,r1⟩
  ·intro v hv;simp only [List.map_cons,List.mem_cons] at hv;rcases hv with rfl | hv
   ·exact hz
   ·exact r2 v hv
theorem Ld.US {e sz n:Nat} {fA:Array (Nat × Operand)} {ll mm:List (List A)} {zs:List Value} [i:fM P X e sz] [z:aX P e zs] (ht:t < c.N) (h:qN f fA.toList=some ll) (hi:fA.toList.map (·.1)=List.range' 0 n) (hn:ll.all (·.length == sz)=true) (hm:Nat.ble n 1000=true) (h0:Nat.ble 1 sz=true) (hs:Nat.ble sz 1000=true) (hle:nM ll mm) :
  Ld P c ⟨some t,.buildSlice X n fA,T,ps,af,gd⟩ f L [] (fun b:Nat=>(t,.c (.v (.slice (some ⟨b,0,none⟩) n n))) :: f) (fun b=>.row (.slice (some ⟨b,0,none⟩) n n) e sz mm :: L):=⟨fun a w s K Q hK=>by
 have Qb:1≤sz:=Nat.le_of_ble_eq_true h0;have IJ:sz≤1000:=Nat.le_of_ble_eq_true hs;have mV:n≤1000:=Nat.le_of_ble_eq_true hm;obtain ⟨rx,rv,rl⟩:=qN.rep s h hn;have jB:fA.toList.length=n:=by have:=congrArg List.length hi;simpa using this
 have FH:fA.toList.map (fun x=>(x.1,a.eval x.2))=(List.range' 0 (fA.toList.map fun x=>a.eval x.2).length).zip (fA.toList.map fun x=>a.eval x.2):=by
  rw [List.length_map,jB,← hi,List.zip_map']
 obtain ⟨zv,Bo,wB⟩:=qf.run z.h;generalize Lh:fA.toList.map (fun x=>a.eval x.2)=vs at rx rv FH;have nZ:vs.length=n:=by rw [← Lh];simpa using jB
 generalize jm:vs.flatMap (·.cells.toList)=cs at rx;have bY:cs.length=n * sz:=by
  rw [← jm,← nZ];clear jm Lh rx FH nZ
  induction vs with
  | nil=>simp
  | cons v vs ih =>
   rw [List.flatMap_cons,List.length_append,ih (fun u hu=>rv u (by simp [hu]))];have:=rv v (by simp);simp [Nat.add_mul,this];omega
 have hk:aq [] w (w.alloc (.cells cs.toArray e)):=(aq.refl [] w).alloc _;have DU:Instr.fill (fun j=>some (j * sz,sz)) ((Array.range (n * sz)).map (zv.cells[· % zv.cells.size]!)) (fA.toList.map (fun x=>(x.1,a.eval x.2)))=some cs.toArray:=by
  rw [FH];have e1:=Lg sz vs 0 ((Array.range (n * sz)).map (zv.cells[· % zv.cells.size]!)) rv (by simp [nZ]);rw [e1];simp only [Nat.zero_mul,List.take_zero,List.nil_append,Nat.zero_add,nZ,jm];rw [List.drop_eq_nil_of_le (by simp)];simp
 have fW:(execOp a.eval ⟨some t,.buildSlice X n fA,T,ps,af,gd⟩).run P w=.ok (.value (.slice (some ⟨w.heap.size,0,none⟩) n n)) (w.alloc (.cells cs.toArray e)):=by
  have h1:¬ n * sz > 2 ^ 24:=by have:=Nat.mul_le_mul mV IJ;omega
  have UT:Instr.fill (fun j=>some (j * sz,sz)) ((Array.range (n * sz)).map (zv.cells[· % zv.cells.size]!)) ((fA.map (fun x=>(x.1,a.eval x.2))).toList)=some cs.toArray:=by simpa using DU
  by_cases h2:n * sz=0
  ·have Kp:n=0:=by rcases Nat.mul_eq_zero.1 h2 with h | h <;> omega
   subst Kp;have ha:fA=#[]:=by apply Array.eq_empty_of_size_eq_zero;simpa using jB
   subst ha;have UU:cs=[]:=by apply List.eq_nil_of_length_eq_zero;omega
   subst UU;simp [execOp,Instr.buildSlice,Sem.run_bind,run_underlying (lW.kE i.h),jK.run i.s,Instr.fill,newRow,Array.range_zero',run_newObj_alloc]
  ·simp only [execOp,Instr.buildSlice,Sem.run_bind,run_underlying (lW.kE i.h),jK.run i.s,Result.andThen_ok,h1,h2,↓reduceIte,wB,Sem.run_pure,UT,newRow,run_newObj_alloc]
 unfold Oper.wp;rw [fW];have hf:∀ y∈(an.row (.slice (some ⟨w.heap.size,0,none⟩) n n) e sz mm).bT,w.heap.size≤y:=by simp [an.bT,dx]
 refine hK w.heap.size _ _ hk (s.new ht hk hf ⟨cs,?_,?_⟩ (by unfold RD RA;exact ⟨rfl,rfl⟩)) (uI hf)
 ·have:=Row.lit w cs e sz n bY (by simp [maxLen];omega);have l3:mm.length=n:=by rw [← hle.len,← rl,jB]
  rw [l3];simpa [dx] using this
 ·exact hle.rep (RX.cY (Mon.lV hk fun g hg ho=>⟨Bk hf g hg ho,by simp⟩) ll _ rx)⟩
theorem Ld.mW {e sz n:Nat} {fA:Array (Nat × Operand)} {ll mm:List (List A)} {zs:List Value} [i:fM P X e sz] [z:aX P e zs] (ht:t < c.N) (h:qN f fA.toList=some ll) (hi:fA.toList.map (·.1)=List.range' 0 n) (hn:ll.all (·.length == sz)=true) (hm:Nat.ble n 1000=true) (h0:Nat.ble 1 sz=true) (hs:Nat.ble sz 1000=true) (hle:nM ll mm) :
  Ld P c ⟨some t,.buildSlice X n fA,T,ps,af,gd⟩ f L [] (fun _:Unit=>(t,.c (.r sz mm)) :: f) (fun _=>L):=⟨fun a w s K Q hK =>
 (Ld.US (P:=P) (c:=c) (T:=T) (ps:=ps) (af:=af) (gd:=gd) (f:=f) (L:=L) (e:=e) (sz:=sz) (zs:=zs) (X:=X) (t:=t) ht h hi hn hm h0 hs hle).go a w s K Q fun b u w' k' s' hf=>hK () u w' k' s'.freeze fun y hy=>hf y ((jo _ _ _).2 (.inr hy))⟩
end
end Fl
open Go.RowKit
namespace Po
end Po
def hand (ok:Bool) (x:Int) (l:List Int):List Int:=if ok then x :: l else l
open Go.RowKit
def RP (w:World) (vc vm:Value) (C:List (List Int)) (M:List Int) (S:List Nat):Prop :=
 GV DI 1 w vc C S∧∃ U,IV w vm M U∧∀ x∈U,x∈S
theorem RP.aY {w w':World} {vc vm:Value} {C:List (List Int)} {M:List Int} {S T:List Nat} (h:RP w vc vm C M S) (k:aq T w w') (hn:∀ x∈S,x∉T):RP w' vc vm C M S:=by
 obtain ⟨h1,U,h2,h3⟩:=h;exact ⟨h1.aY Pz k hn,U,h2.aY k (fun x hx=>hn x (h3 x hx)),h3⟩
theorem RP.then {w w':World} {vc vm:Value} {C:List (List Int)} {M:List Int} {S:List Nat} (h:RP w vc vm C M S) (k:aq [] w w'):RP w' vc vm C M S:=h.aY k (by simp)
open Go.RowKit
namespace Po
def settle (f:Int):List Bool→List Int→List Bool × Bool
 | H,[]=>(H,true)
 | H,x :: r=>if live f H x then settle f (H.set x.toNat true) r else (H,false)
theorem w8 (f:Int) (H:List Bool) (x:Int) (r:List Int):settle f H (x :: r)=if live f H x then settle f (H.set x.toNat true) r else (H,false):=rfl
theorem BX (f:Int):∀ (H:List Bool) (l:List Int),(settle f H l).1.length=H.length
 | H,[]=>rfl
 | H,x :: r=>by
  unfold settle
  split
  ·rw [BX f _ r];simp
  ·rfl
theorem UW (l:List Int) (k:Nat) (h:k < l.length):l.drop k=l.getD k 0 :: l.drop (k + 1):=by
 rw [List.drop_eq_getElem_cons h,List.getD_eq_getElem?_getD,List.getElem?_eq_getElem h];rfl
end Po
theorem Pl.mark {w:World} {b:Nat} {size most f:Int} {C:List (List Int)} {M:List Int} {H:List Bool} {S:List Nat} (h:Pl w (.pointer (some ⟨b,0,none⟩)) size most C M f H S) {j:Nat} (hj:j < H.length) :
  ∃ g off cap t,w.cell? ⟨b,5,none⟩=some (.slice (some ⟨g,off,none⟩) H.length cap)∧w.cell? ⟨g,off + j,none⟩=some (.bool t)∧w.frozen? ⟨g,off + j,none⟩=false ∧
   Pl (w.setCell ⟨g,off + j,none⟩ (.bool true)) (.pointer (some ⟨b,0,none⟩)) size most C M f (H.set j true) S∧aq S w (w.setCell ⟨g,off + j,none⟩ (.bool true)):=by
 obtain ⟨b',vc,vm,vh,T1,Us,Tm,Th,iY,hb,hc,hm,hh,ha,rfl⟩:=h
 cases iY;obtain ⟨ao,cap,rfl⟩:=hh.shape;obtain ⟨g,off,rfl,rfl,hg,c6,f6⟩:=hh.cells (List.getElem?_eq_getElem hj);obtain ⟨hs,hk⟩:=hh.stored j hj true;obtain ⟨p1,p2⟩:=List.pairwise_cons.1 ha;obtain ⟨p2,p3⟩:=List.pairwise_cons.1 p2;obtain ⟨p3,p4⟩:=List.pairwise_cons.1 p3;obtain ⟨p4,_⟩:=List.pairwise_cons.1 p4;exact ⟨g,off,cap,H[j],hb.cell 5,c6,f6,⟨b,vc,vm,_,T1,Us,Tm,[g],rfl,hb.aY hk (p1 [g] (by simp) b (by simp)),hc.aY hk (p2 [g] (by simp)) (fun U hU x hx=>p3 [g] (by simp) x (List.mem_flatten.2 ⟨U,hU,hx⟩)),hm.aY hk (p4 [g] (by simp)),by simpa using hs,ha,rfl⟩,hk.mono (fun x hx=>.inl (by simp at hx;simp [hx]))⟩
def FI (r:List Bool × Bool) (b:Nat) (size most f:Int) (C:List (List Int)) (M:List Int) (S:List Nat) (w:World) (e:Ending) (w':World):Prop :=
 e=.returned (.bool r.2)∧aq S w w'∧Pl w' (.pointer (some ⟨b,0,none⟩)) size most C M f r.1 S
theorem Po.UX {f:Int} {H:List Bool} {x:Int} (h:Po.live f H x=true) (hf:f≤H.length):∃ j:Nat,x=j∧j < H.length:=by
 simp [Po.live] at h;exact ⟨x.toNat,by omega,by omega⟩
set_option maxHeartbeats 800000 in
theorem Lj (w:World) (b:Nat) (size most f:Int) (C:List (List Int)) (M:List Int) (H:List Bool) (S:List Nat) (v:Value) (l:List Int) (U:List Nat) (h:Pl w (.pointer (some ⟨b,0,none⟩)) size most C M f H S) (hf:f≤H.length) (BK:H.length≤1000)
  (hv:IV w v l U) (hd:∀ x∈U,x∉S) :
  Calls Tryz.prog 104 #[.pointer (some ⟨b,0,none⟩),v] w (FI (Po.settle f H l) b size most f C M S w):=by
 have hm:=hv.le;unfold maxLen at hm;obtain ⟨ao,cap,rfl⟩:=hv.shape;have HV:=Lib.hid hv;have HP:=Lib.hid h;have HD:=Lib.hid hd;have HF:=Lib.hid hf;clear hv h hd hf
 go_enter Tryz.func104,Tryz.ntmps104
 go_wp2_with fail
 go_loopw [6,9] (fun _ i wr=>∃ (k:Nat) (H':List Bool),k≤l.length∧i=.int .i64 k∧aq S w wr∧Pl wr (.pointer (some ⟨b,0,none⟩)) size most C M f H' S∧H'.length=H.length∧Po.settle f H l=Po.settle f H' (l.drop k)) (fun _ i _=>l.length - (intOf i).toNat)
 case atStart=>exact ⟨0,H,Nat.zero_le _,rfl,aq.refl _ _,HP.out,rfl,rfl⟩
 case round =>
  obtain ⟨k,H',hk,rfl,cV,hp,hle,hs⟩:=hrel;have ig:=Lib.hid cV;have BY:=Lib.hid hp;have HL:=Lib.hid hle;have HS:=Lib.hid hs;clear cV hp hle hs
  by_cases cJ:k < l.length
  ·obtain ⟨g,off,rfl,rfl,hg,hc⟩:=(HV.out.aY ig.out HD.out).cells (by omega);have c0:=hc k cJ;have HN:=Lib.hid (Po.UW l k cJ);clear hc;generalize l.getD k 0=x at *
   go_wp2_with fail
   refine (El _ _ _ _ _ _ _ _ _ x BY.out (by rw [HL.out];exact HF.out)).mono ?_
   rintro e w1 ⟨rfl,rfl⟩
   cases hq:Po.live f H' x with
   | true =>
    have HQ:=Lib.hid hq;obtain ⟨j,rfl,hj⟩:=Po.UX hq (by rw [HL.out];exact HF.out);obtain ⟨g2,vq,Lm,t,d5,d6,f6,Ln,k2⟩:=BY.out.mark hj;have UY:=Lib.hid Ln;have uT:=Lib.hid k2;have hh:H'.length≤1000:=by rw [HL.out];exact BK
    have kU:Hid (Po.settle f H l=Po.settle f (H'.set j true) (l.drop (k + 1))):=Lib.hid (by
     rw [HS.out,HN.out];rw [Po.w8,if_pos HQ.out];rfl)
    clear Ln k2 c0 hq
    go_wp2_with fail
    go_roundw
    case rel=>exact ⟨k + 1,_,by omega,by go_num,ig.out.trans uT.out (fun y hy=>.inl hy),UY.out,by rw [List.length_set];exact HL.out,kU.out⟩
    case measure=>simp [intOf];omega
   | false =>
    have kU:Hid (Po.settle f H l=(H',false)):=Lib.hid (by
     rw [HS.out,HN.out];rw [Po.w8,if_neg (by simp [hq])])
    clear c0
    go_wp2_with fail
    go_ret
    unfold FI;rw [kU.out];exact ⟨rfl,ig.out,BY.out⟩
  ·obtain rfl:k=l.length:=by omega
   have kU:Hid (Po.settle f H l=(H',true)):=Lib.hid (by rw [HS.out,List.drop_length];rfl)
   go_wp2_with fail
   go_ret
   unfold FI;rw [kU.out];exact ⟨rfl,ig.out,BY.out⟩
open Go.RowKit
namespace Po
def once (f:Int) (L:List Int):Bool:=decide (∀ i,i < L.length→0≤L.getD i 0∧L.getD i 0 < f∧L.getD i 0∉L.take i)
def right (size most f:Int) (C:List (List Int)) (M:List Int):Bool :=
 fits size C.length most && decide (0≤f) && decide (f≤size) && decide (∀ l∈C,(l.length:Int)≤most) && once f (M ++ C.flatten)
end Po
open Go.RowKit
theorem w9 {A B F D E:List Nat}:fq [A,B,F,D,E]↔((∀ x∈A,x∉B∧x∉F∧x∉D∧x∉E)∧(∀ x∈B,x∉F∧x∉D∧x∉E)∧(∀ x∈F,x∉D∧x∉E)∧(∀ x∈D,x∉E)):=by
 simp only [fq,List.pairwise_cons,List.mem_cons,List.not_mem_nil,or_false,forall_eq_or_imp,forall_eq,List.Pairwise.nil,and_true,false_implies,implies_true]
 constructor
 ·rintro ⟨⟨a1,a2,a3,a4⟩,⟨b1,b2,b3⟩,⟨c1,c2⟩,d1⟩
  exact ⟨fun x hx=>⟨a1 x hx,a2 x hx,a3 x hx,a4 x hx⟩,fun x hx=>⟨b1 x hx,b2 x hx,b3 x hx⟩,fun x hx=>⟨c1 x hx,c2 x hx⟩,d1⟩
 ·rintro ⟨a,b,c,d⟩
  exact ⟨⟨fun x hx=>(a x hx).1,fun x hx=>(a x hx).2.1,fun x hx=>(a x hx).2.2.1,fun x hx=>(a x hx).2.2.2⟩,⟨fun x hx=>(b x hx).1,fun x hx=>(b x hx).2.1,fun x hx=>(b x hx).2.2⟩,⟨fun x hx=>(c x hx).1,fun x hx=>(c x hx).2⟩,d⟩
section
variable {w:World} {b:Nat} {size most f:Int} {C:List (List Int)} {M:List Int} {H:List Bool} {S:List Nat}
theorem Pl.UZ (h:Pl w (.pointer (some ⟨b,0,none⟩)) size most C M f H S) (f':Int) :
  w.cell? ⟨b,4,none⟩=some (.int .i64 f)∧w.frozen? ⟨b,4,none⟩=false∧Pl (w.setCell ⟨b,4,none⟩ (.int .i64 f')) (.pointer (some ⟨b,0,none⟩)) size most C M f' H S∧aq S w (w.setCell ⟨b,4,none⟩ (.int .i64 f')):=by
 obtain ⟨b',vc,vm,vh,T1,Us,Tm,Th,iY,hb,hc,hm,hh,ha,rfl⟩:=h
 cases iY;have k:aq [b] w (w.setCell ⟨b,4,none⟩ (.int .i64 f')):=(aq.refl _ w).setCell (by simp) _;have p:=(w9.1 ha).1 b (by simp);refine ⟨hb.cell 4,hb.free 4,⟨b,vc,vm,vh,T1,Us,Tm,Th,rfl,by simpa using hb.set 4 (.int .i64 f'),hc.aY k (fun x hx h=>?_) (fun U hU x hx h=>?_),hm.aY k (fun x hx h=>?_),hh.aY k (fun x hx h=>?_),ha,rfl⟩,k.mono (by simp)⟩
 all_goals (have h2:x=b:=by simpa using h);subst h2
 ·exact p.1 hx
 ·exact p.2.1 (List.mem_flatten.2 ⟨U,hU,hx⟩)
 ·exact p.2.2.1 hx
 ·exact p.2.2.2 hx
theorem Pl.bp (h:Pl w (.pointer (some ⟨b,0,none⟩)) size most C M f H S) :
  (∃ v0,w.cell? ⟨b,3,none⟩=some v0)∧w.frozen? ⟨b,3,none⟩=false∧b∈S∧∀ w' v' M' U',aq [] w w'→IR w' v' 3 M' U'→(∀ x∈U',w.heap.size≤x) →
   ∃ S',Pl (w'.setCell ⟨b,3,none⟩ v') (.pointer (some ⟨b,0,none⟩)) size most C M' f H S'∧aq S w (w'.setCell ⟨b,3,none⟩ v')∧∀ x∈S',x∈S∨w.heap.size≤x:=by
 have cJ:=h.lt;obtain ⟨b',vc,vm,vh,T1,Us,Tm,Th,iY,hb,hc,hm,hh,ha,rfl⟩:=h
 cases iY;refine ⟨⟨_,hb.cell 3⟩,hb.free 3,by simp,fun w' v' M' U' k hr hU=>?_⟩;have dU:=hb.lt;have k2:aq [b] w' (w'.setCell ⟨b,3,none⟩ v'):=(aq.refl _ w').setCell (by simp) _;have p:=(w9.1 ha).1 b (by simp);have ap:=w9.1 ha;refine ⟨b :: (T1 ++ Us.flatten ++ U' ++ Th),⟨b,vc,v',vh,T1,Us,U',Th,rfl,by simpa using (hb.aY k (by simp)).set 3 v',(hc.aY k (by simp) (by simp)).aY k2 (fun x hx h=>?_) (fun U hU x hx h=>?_),hr.aY k2 (fun x hx h=>?_),(hh.aY k (by simp)).aY k2 (fun x hx h=>?_),?_,rfl⟩,?_,?_⟩
 ·have h2:x=b:=by simpa using h
  subst h2;exact p.1 hx
 ·have h2:x=b:=by simpa using h
  subst h2;exact p.2.1 (List.mem_flatten.2 ⟨U,hU,hx⟩)
 ·have h2:x=b:=by simpa using h
  have:=hU x hx;omega
 ·have h2:x=b:=by simpa using h
  subst h2;exact p.2.2.2 hx
 ·have hn:∀ x∈b :: (T1 ++ Us.flatten ++ Tm ++ Th),x∉U':=fun x hx h=>by have:=cJ x hx;have:=hU x h;omega
  refine w9.2 ⟨fun x hx=>⟨(ap.1 x hx).1,(ap.1 x hx).2.1,hn x (by simp at hx;simp [hx]),(ap.1 x hx).2.2.2⟩,fun x hx=>⟨(ap.2.1 x hx).1,hn x (by simp [hx]),(ap.2.1 x hx).2.2⟩,fun x hx=>⟨hn x (List.mem_cons_of_mem _ (List.mem_append_left _ (List.mem_append_left _ (List.mem_append_right _ hx)))),(ap.2.2.1 x hx).2⟩,fun x hx h=>hn x (by simp [h]) hx⟩
 ·exact (k.mono (by simp)).trans k2 (fun x hx=>by simp at hx;simp [hx])
 ·intro x hx;simp only [List.mem_cons,List.mem_append] at hx ⊢;rcases hx with h | ((h | h) | h) | h
  ·exact .inl (.inl h)
  ·exact .inl (.inr (.inl (.inl (.inl h))))
  ·exact .inl (.inr (.inl (.inl (.inr h))))
  ·exact .inr (hU x h)
  ·exact .inl (.inr (.inr h))
theorem Pl.row (h:Pl w (.pointer (some ⟨b,0,none⟩)) size most C M f H S) {n:Nat} (hn:n < C.length) :
  ∃ g off cap,w.cell? ⟨b,2,none⟩=some (.slice (some ⟨g,off,none⟩) C.length cap)∧b∈S∧(∃ v0,w.cell? ⟨g,off + n,none⟩=some v0)∧w.frozen? ⟨g,off + n,none⟩=false∧∀ w' v' l' U',aq [] w w'→IR w' v' 3 l' U'→(∀ x∈U',w.heap.size≤x) →
   ∃ S',Pl (w'.setCell ⟨g,off + n,none⟩ v') (.pointer (some ⟨b,0,none⟩)) size most (C.set n l') M f H S'∧aq S w (w'.setCell ⟨g,off + n,none⟩ v')∧∀ x∈S',x∈S∨w.heap.size≤x:=by
 have cJ:=h.lt;obtain ⟨b',vc,vm,vh,T1,Us,Tm,Th,iY,hb,hc,hm,hh,ha,rfl⟩:=h
 cases iY;obtain ⟨ao,cap,rfl⟩:=hc.shape;have hk:=List.getElem?_eq_getElem hn;obtain ⟨g,off,x,U,rfl,rfl,hg,c6,f6,hr,hU,wN⟩:=hc.get hk;refine ⟨g,off,cap,hb.cell 2,by simp,⟨x,c6⟩,f6,fun w' v' l' U' k uJ rY=>?_⟩;have k2:aq [g] w' (w'.setCell ⟨g,off + n,none⟩ v'):=(aq.refl _ w').setCell (by simp) _;have ap:=w9.1 ha;have lp:∀ x∈(Us.set n U').flatten,x∈Us.flatten∨w.heap.size≤x:=fun x hx=>by
  rcases uV hx with h | h
  ·exact .inl h
  ·exact .inr (rY x h)
 have U8:=hc.JJ hk hU k (by simp) (by simp) uJ (fun x hx=>.inr (rY x hx));refine ⟨b :: ([g] ++ (Us.set n U').flatten ++ Tm ++ Th),⟨b,_,vm,vh,[g],Us.set n U',Tm,Th,rfl,((hb.aY k (by simp))).aY k2 (fun h=>?_),by simpa using U8,(hm.aY k (by simp)).aY k2 (fun x hx h=>?_),(hh.aY k (by simp)).aY k2 (fun x hx h=>?_),?_,rfl⟩,?_,?_⟩
 ·exact (ap.1 b (by simp)).1 h
 ·exact (ap.2.1 x h).2.1 hx
 ·exact (ap.2.1 x h).2.2 hx
 ·have me:∀ y∈b :: ([g] ++ Us.flatten ++ Tm ++ Th),∀ x∈(Us.set n U').flatten,x=y→x∈Us.flatten:=fun y hy x hx e=>by
   rcases lp x hx with h | h
   ·exact h
   ·have:=cJ y hy;omega
  refine w9.2 ⟨fun x hx=>⟨(ap.1 x hx).1,fun h=>(ap.1 x hx).2.1 (me x (by simp at hx;simp [hx]) x h rfl),(ap.1 x hx).2.2⟩,fun x hx=>⟨fun h=>(ap.2.1 x hx).1 (me x (by simp at hx;simp [hx]) x h rfl),(ap.2.1 x hx).2⟩,fun x hx=>⟨fun h=>(ap.2.2.1 x (me x (by simp [h]) x hx rfl)).1 h,fun h=>(ap.2.2.1 x (me x (by simp [h]) x hx rfl)).2 h⟩,ap.2.2.2⟩
 ·exact (k.mono (by simp)).trans k2 (fun x hx=>by simp at hx;simp [hx])
 ·intro x hx;simp only [List.mem_cons,List.mem_append] at hx ⊢;rcases hx with h | ((h | h) | h) | h
  ·exact .inl (.inl h)
  ·exact .inl (.inr (.inl (.inl (.inl h))))
  ·rcases lp x h with h | h
   ·exact .inl (.inr (.inl (.inl (.inr h))))
   ·exact .inr h
  ·exact .inl (.inr (.inl (.inr h)))
  ·exact .inl (.inr (.inr h))
end
open Go.RowKit
namespace Po
theorem xb (f:Int):∀ (H:List Bool) (a b:List Int),settle f H (a ++ b)=if (settle f H a).2 then settle f (settle f H a).1 b else settle f H a
 | H,[],b=>rfl
 | H,x :: r,b=>by
  rw [List.cons_append,w8,w8]
  by_cases h:live f H x=true
  ·rw [if_pos h,if_pos h];exact xb f _ r b
  ·rw [if_neg h,if_neg h];rfl
def of (size most f:Int) (C:List (List Int)) (M:List Int):Bool :=
 fits size C.length most && decide (0≤f) && decide (f≤size) && decide (∀ l∈C,(l.length:Int)≤most) && (settle f (List.replicate size.toNat false) (C.flatten ++ M)).2
theorem U9 {C:List (List Int)} {k:Nat} (hk:k < C.length):(C.take k ++ List.replicate (C.length - k) []).set k C[k]=C.take (k + 1) ++ List.replicate (C.length - (k + 1)) []:=by
 have e1:(C.take k).length=k:=by simp;omega
 obtain ⟨d,hd⟩:∃ d,C.length - k=d + 1:=⟨C.length - k - 1,by omega⟩
 have FJ:C.length - (k + 1)=d:=by omega
 rw [List.set_append_right _ _ (by omega),e1,Nat.sub_self,hd,FJ,List.replicate_succ,List.set_cons_zero,List.take_succ_eq_append_getElem hk,List.append_assoc];rfl
theorem Va {f:Int} {H:List Bool} {C:List (List Int)} {M:List Int} {k:Nat} (hk:k < C.length) {H':List Bool} (h:settle f H (C.take k).flatten=(H',true)) (hb:(settle f H' C[k]).2=false):(settle f H (C.flatten ++ M)).2=false:=by
 have e:C.flatten ++ M=(C.take k).flatten ++ (C[k] ++ ((C.drop (k + 1)).flatten ++ M)):=by
  have h1:C=C.take k ++ C[k] :: C.drop (k + 1):=by rw [← List.drop_eq_getElem_cons hk,List.take_append_drop]
  have h2:C.flatten=(C.take k ++ C[k] :: C.drop (k + 1)).flatten:=congrArg List.flatten h1;rw [h2,List.flatten_append,List.flatten_cons];simp only [List.append_assoc]
 rw [e,xb,h,if_pos rfl,xb];simp [hb]
end Po
def Vb (size most f:Int) (C:List (List Int)) (M:List Int) (w:World) (e:Ending) (w':World):Prop :=
 aq [] w w'∧((Po.of size most f C M=true∧∃ b S H,e=.returned (.tuple #[.pointer (some ⟨b,0,none⟩),.int .i64 0])∧Pl w' (.pointer (some ⟨b,0,none⟩)) size most C M f H S∧(∀ k∈S,w.heap.size≤k)∧Po.settle f (List.replicate size.toNat false) (C.flatten ++ M)=(H,true)) ∨
  (Po.of size most f C M=false∧e=.returned (.tuple #[.pointer none,.int .i64 1])))
def FK (w:World) (b:Nat) (size most f:Int) (C:List (List Int)) (k:Nat) (wr:World):Prop :=
 ∃ CK H S,Pl wr (.pointer (some ⟨b,0,none⟩)) size most CK [] f H S∧CK=C.take k ++ List.replicate (C.length - k) []∧aq [] w wr∧(∀ x∈S,w.heap.size≤x)∧Po.settle f (List.replicate size.toNat false) (C.take k).flatten=(H,true)∧(∀ l∈C.take k,(l.length:Int)≤most)∧f≤H.length∧H.length≤1000
set_option maxHeartbeats 3200000 in
theorem Vc (w:World) (size most f:Int) (vc vm:Value) (C:List (List Int)) (M:List Int) (R:List Nat) (h:RP w vc vm C M R) (hM:M.length≤1000) (hC:∀ l∈C,l.length≤1000) :
  Calls Tryz.prog 48 #[.int .i64 size,.int .i64 most,vc,vm,.int .i64 f] w (Vb size most f C M w):=by
 have Vd:=Lib.hid h;have Ls:=h.1.lt;have Lu:=Lib.hid Ls;obtain ⟨h1,U,h2,h3⟩:=h;have hle:=h1.le;unfold maxLen at hle;obtain ⟨o9,lF,rfl⟩:=h1.shape;obtain ⟨tI,jz,rfl⟩:=h2.shape;have H2:=Lib.hid h2;have HU:=Lib.hid h3;have HM:=Lib.hid hM;have HC:=Lib.hid hC;clear h1 h2 h3 hM hC Ls
 cases hc:Po.fits size C.length most with
 | false =>
  have HF:Hid (Po.of size most f C M=false):=Lib.hid (by simp [Po.of,hc])
  go_enter Tryz.func48,Tryz.ntmps48
  go_wp2_with fail
  refine (SD _ _ _ _ hc).mono ?_
  rintro e w1 ⟨rfl,rfl⟩
  go_wp2_with fail
  go_ret2
  exact ⟨aq.refl _ _,.inr ⟨HF.out,rfl⟩⟩
 | true =>
  have Lv:=Po.J6 hc;obtain ⟨n,rfl⟩:=Int.eq_ofNat_of_zero_le Lv.1;obtain ⟨m,rfl⟩:=Int.eq_ofNat_of_zero_le (show 0≤most by omega);have kV:n≤64:=by omega
  have h8:C.length≤8:=by omega
  have ta:1≤m:=by omega
  have Ve:m≤16:=by omega
  clear Lv;have FL:=Lib.hid (fun w'=>SB w' n C.length m kV h8 ta Ve)
  cases q1:decide (f < 0) with
  | true =>
   have HF:Hid (Po.of n m f C M=false):=Lib.hid (by
    have:f < 0:=of_decide_eq_true q1;have h0:¬ 0≤f:=by omega
    simp [Po.of,h0])
   go_enter Tryz.func48,Tryz.ntmps48
   go_wp2_with fail
   refine (FL.out _).mono ?_
   rintro e w1 ⟨p,S,rfl,k1,p1,s1⟩
   have K1:=Lib.hid k1;clear k1 p1 s1
   go_wp2_with fail
   go_ret2
   exact ⟨K1.out,.inr ⟨HF.out,rfl⟩⟩
  | false =>
   cases q2:decide ((n:Int) < f) with
   | true =>
    have HF:Hid (Po.of n m f C M=false):=Lib.hid (by
     have:(n:Int) < f:=of_decide_eq_true q2;have h0:¬ f≤n:=by omega
     simp [Po.of,h0])
    go_enter Tryz.func48,Tryz.ntmps48
    go_wp2_with fail
    refine (FL.out _).mono ?_
    rintro e w1 ⟨p,S,rfl,k1,p1,s1⟩
    have K1:=Lib.hid k1;clear k1 p1 s1
    go_wp2_with fail
    go_ret2
    exact ⟨K1.out,.inr ⟨HF.out,rfl⟩⟩
   | false =>
    have HF:Hid (Po.of n m f C M=(decide (∀ l∈C,(l.length:Int)≤m) && (Po.settle f (List.replicate n false) (C.flatten ++ M)).2)):=Lib.hid (by
     have h1:=of_decide_eq_false q1;have h2:=of_decide_eq_false q2;have h3:0≤f:=by omega
     have h4:f≤n:=by omega
     simp [Po.of,hc,h3,h4])
    have Lw:f≤n:=by have:=of_decide_eq_false q2;omega
    have Vf:=Lib.hid Lw;clear Lw
    go_enter Tryz.func48,Tryz.ntmps48
    go_wp2_with fail
    refine (FL.out _).mono ?_
    rintro e w1 ⟨p,S,rfl,k1,p1,s1⟩
    obtain ⟨b,rfl⟩:=Pl.shape p1;obtain ⟨c4,f4,p2,k2⟩:=Pl.UZ p1 f;have HI:Hid (FK w b n m f C 0 (w1.setCell ⟨b,4,none⟩ (.int .i64 f))):=Lib.hid
     ⟨_,_,S,p2,by simp [Po.new],k1.trans k2 (fun x hx=>.inr (s1 x hx)),s1,rfl,by simp,by simp [Po.new];exact Vf.out,by simp [Po.new];omega⟩
    have e0:w1.cell? ⟨b,4,none⟩=some (.int .i64 0):=c4;clear p1 k1 s1 p2 k2 c4
    go_wp2_with fail
    go_loopw [14,15,40] (fun _ _ i wr=>∃ k:Nat,k≤C.length∧i=.int .i64 k∧FK w b n m f C k wr) (fun _ _ i _=>C.length - (intOf i).toNat)
    case atStart=>exact ⟨0,Nat.zero_le _,rfl,HI.out⟩
    case round =>
     obtain ⟨k,hk,rfl,CK,H,S,hp,FM,cV,hS,eY,kZ,yZ,hH⟩:=hrel;have HP:=Lib.hid hp;have Lx:=Lib.hid FM;have ig:=Lib.hid cV;have HS:=Lib.hid hS;have FN:=Lib.hid eY;have Ly:=Lib.hid kZ;have FO:=Lib.hid yZ;have FP:CK.length=C.length:=by rw [FM];simp;omega
     clear hp FM cV hS eY kZ yZ HI e0 f4
     by_cases cJ:k < C.length
     ·obtain ⟨g,off,cs,U1,rfl,hgS,hg,jm,rz,⟨vk,rfl,BZ⟩,Vg⟩:=(Vd.out.then ig.out).1.get (List.getElem?_eq_getElem cJ);have c0:wr.cell? ⟨g,off + k,none⟩=some vk:=by have:=rz 0 (by omega);rwa [Nat.mul_one,Nat.add_zero] at this
      have HT:Hid (C.take (k + 1)=C.take k ++ [C[k]]):=Lib.hid (List.take_succ_eq_append_getElem cJ);have Lz:Hid (C[k]∈C):=Lib.hid (List.getElem_mem cJ);have Vh:=Lib.hid (Po.U9 cJ);have Vi:Hid (∀ H':List Bool,Po.settle f (List.replicate n false) (C.take k).flatten=(H',true)→(Po.settle f H' C[k]).2=false→(Po.settle f (List.replicate n false) (C.flatten ++ M)).2=false):=Lib.hid (fun H'=>Po.Va cJ);generalize C[k]=l at *;obtain ⟨aok,abJ,rfl⟩:=BZ.shape;have gQ:=BZ.le;unfold maxLen at gQ;have LA:=Lib.hid BZ;have zz:Hid (∀ x∈U1,x∉S):=Lib.hid (fun x hx h=>by have:=Lu.out x (Vg x hx);have:=HS.out x h;omega);have abK:=HC.out l Lz.out;clear jm rz BZ
      cases q3:decide (m < l.length) with
      | true =>
       have zA:Hid (Po.of n m f C M=false):=Lib.hid (by
        have h1:=of_decide_eq_true q3;rw [HF.out,decide_eq_false (fun h=>by have:=h l Lz.out;omega)];rfl)
       go_wp2_with fail
       go_ret2
       exact ⟨ig.out,.inr ⟨zA.out,rfl⟩⟩
      | false =>
       have HL:=Lib.hid (of_decide_eq_false q3)
       go_wp2_with fail
       refine (Lj _ b _ _ f CK [] H S _ l U1 HP.out FO.out hH LA.out zz.out).mono ?_
       rintro e w5 ⟨rfl,k5,p5⟩
       have zB:=Po.BX f H l;obtain ⟨r,hr⟩:∃ r,Po.settle f H l=r:=⟨_,rfl⟩
       rw [hr] at p5 zB ⊢;obtain ⟨H5,ok⟩:=r;dsimp only at p5 zB ⊢;have K5:Hid (aq [] w w5):=Lib.hid (ig.out.trans k5 (fun x hx=>.inr (HS.out x hx)));have xd:=Lib.hid hr;have FQ:=Lib.hid (LA.out.aY k5 zz.out)
       cases ok with
       | false =>
        have zA:Hid (Po.of n m f C M=false):=Lib.hid (by
         rw [HF.out,Vi.out _ FN.out (by rw [xd.out])];simp)
        clear k5 p5 hr zB
        go_wp2_with fail
        go_ret2
        exact ⟨K5.out,.inr ⟨zA.out,rfl⟩⟩
       | true =>
        obtain ⟨g2,vq,Lm,d2,Vj,⟨v0,dr⟩,fr,o7⟩:=Pl.row p5 (n:=k) (by omega);have FT:=Lib.hid o7;have RY:(k:Int) < (CK.length:Int):=by omega
        have LB:=Lib.hid zB;have HP5:=Lib.hid p5;have abM:=Lib.hid FP;clear k5 p5 hr o7 zB FP
        go_wp2_with fail
        go_region_law (refine Px rO (IR.nil w5.drew 3) (FQ.out.then ((aq.refl [] w5).drew)) (by rw [List.length_nil];omega) ?_;intro kR kQ w7 U7 r7 k7 s7;have k8:aq [] w5 w7:=((aq.refl [] w5).drew).trans k7 (by simp);have e2:w7.cell? ⟨b,2,none⟩=some (.slice (some ⟨g2,vq,none⟩) CK.length Lm):=k8.cell d2 (by simp);have er:w7.cell? ⟨g2,vq + k,none⟩=some v0:=k8.cell dr (by simp);have ef:w7.frozen? ⟨g2,vq + k,none⟩=false:=(World.frozen?_of_block (a:=⟨g2,vq + k,none⟩) (k8.block g2 (block_lt_of_cell dr) (by simp))).trans fr;have R7:=Lib.hid r7;have K8:=Lib.hid k8;have S7:=Lib.hid s7;clear r7 k7 s7 k8)
        all_goals
         obtain ⟨FU,zC,zD,zE⟩:=FT.out w7 _ l U7 K8.out (by simpa using R7.out) (fun x hx=>by rcases S7.out x hx with h | h;simp at h;exact h);have HN:Hid (FK w b n m f C (k + 1) (w7.setCell ⟨g2,vq + k,none⟩ (.slice kR l.length kQ))):=Lib.hid ⟨CK.set k l,H5,FU,zC,by rw [Lx.out];exact Vh.out,K5.out.trans zD (fun x hx=>.inr (HS.out x hx)),fun x hx=>by
           rcases zE x hx with h | h
           ·exact HS.out x h
           ·have:=K5.out.size;omega,by
           rw [HT.out,List.flatten_append,Po.xb,show (n:Int).toNat=n from rfl] at *;rw [FN.out];simpa using xd.out,fun y hy=>by
           rw [HT.out] at hy;rcases List.mem_append.1 hy with h | h
           ·exact Ly.out y h
           ·simp at h;subst h;have:=HL.out;omega,by rw [LB.out];exact FO.out,by rw [LB.out];exact hH⟩
         clear zC zD zE
         go_wp2_with fail
         go_roundw
         case rel=>exact ⟨k + 1,by omega,by go_num,HN.out⟩
         case measure=>simp [intOf];omega
     ·obtain rfl:k=C.length:=by omega
      have LC:CK=C:=by rw [Lx.out];simp
      have FV:=HP.out;rw [LC] at FV;have Vk:=Lib.hid FV;have eY:=FN.out;rw [List.take_length] at eY;have kZ:=Ly.out;rw [List.take_length] at kZ;have LD:Hid (Po.settle f (List.replicate n false) C.flatten=(H,true)):=Lib.hid eY;have zF:Hid (Po.of n m f C M=(Po.settle f H M).2):=Lib.hid (by
       rw [HF.out,decide_eq_true kZ,Po.xb,LD.out];rfl)
      have Vl:Hid (Po.settle f (List.replicate n false) (C.flatten ++ M)=Po.settle f H M):=Lib.hid (by
       rw [Po.xb,LD.out];rfl)
      have LF:=Lib.hid (H2.out.then ig.out);have zz:Hid (∀ x∈U,x∉S):=Lib.hid (fun x hx h=>by have:=Lu.out x (HU.out x hx);have:=HS.out x h;omega);have abN:=HM.out;clear FV eY kZ LC FP
      go_wp2_with fail
      refine (Lj _ b _ _ f C [] H S _ M U Vk.out FO.out hH LF.out zz.out).mono ?_
      rintro e w5 ⟨rfl,k5,p5⟩
      obtain ⟨r,hr⟩:∃ r,Po.settle f H M=r:=⟨_,rfl⟩
      have xd:=Lib.hid hr;rw [hr] at p5 ⊢;obtain ⟨H5,ok⟩:=r;dsimp only at p5 ⊢;have K5:Hid (aq [] w w5):=Lib.hid (ig.out.trans k5 (fun x hx=>.inr (HS.out x hx)));have FQ:=Lib.hid (LF.out.aY k5 zz.out)
      cases ok with
      | false =>
       have zA:Hid (Po.of n m f C M=false):=Lib.hid (by rw [zF.out,xd.out]);clear k5 p5 hr
       go_wp2_with fail
       go_ret2
       exact ⟨K5.out,.inr ⟨zA.out,rfl⟩⟩
      | true =>
       obtain ⟨⟨v0,dr⟩,fr,Vj,o7⟩:=Pl.bp p5;have FT:=Lib.hid o7;clear k5 p5 hr o7
       go_wp2_with (at_builtin;go_must (refine DE rO (IR.nil w5 3) FQ.out (by rw [List.length_nil];omega) ?_))
       intro kR kQ w7 U7 r7 k7 s7;have er:w7.cell? ⟨b,3,none⟩=some v0:=k7.cell dr (by simp);have ef:w7.frozen? ⟨b,3,none⟩=false:=(World.frozen?_of_block (a:=⟨b,3,none⟩) (k7.block b (block_lt_of_cell dr) (by simp))).trans fr;obtain ⟨FU,zC,zD,zE⟩:=FT.out w7 _ M U7 k7 (by simpa using r7) (fun x hx=>by have h:=s7 x hx;simpa using h);have Vm:=Lib.hid zC;have Fb:=Lib.hid zD;have Vn:=Lib.hid zE;clear r7 k7 s7 zC zD zE
       go_wp2_with fail
       go_ret2
       refine ⟨K5.out.trans Fb.out (fun x hx=>.inr (HS.out x hx)),.inl ⟨by rw [zF.out,xd.out],b,FU,H5,rfl,Vm.out,fun x hx=>?_,by rw [show (n:Int).toNat=n from rfl,Vl.out,xd.out]⟩⟩;rcases Vn.out x hx with h | h
       ·exact HS.out x h
       ·have:=K5.out.size;omega
namespace Po
theorem nN {f:Int} {H:List Bool} {x:Int}:live f H x=true↔0≤x∧x < f∧H.getD x.toNat false=false:=by
 simp [live,and_assoc]
theorem LG (f:Int):∀ (L:List Int) (H:List Bool),f≤H.length→((settle f H L).2=true↔(∀ x∈L,0≤x∧x < f)∧L.Nodup∧∀ x∈L,H.getD x.toNat false=false)
 | [],H,_=>by simp [settle]
 | x :: r,H,hf=>by
  rw [w8]
  by_cases h:live f H x=true
  ·rw [if_pos h,LG f r _ (by simpa using hf)];obtain ⟨h1,h2,h3⟩:=nN.1 h;have hx:x.toNat < H.length:=by omega
   constructor
   ·rintro ⟨a,b,c⟩
    refine ⟨fun y hy=>?_,List.nodup_cons.2 ⟨fun hm=>?_,b⟩,fun y hy=>?_⟩
    ·rcases List.mem_cons.1 hy with rfl | hy
     ·exact ⟨h1,h2⟩
     ·exact a y hy
    ·have:=c x hm;rw [mL _ _ _ _ _ hx,if_pos rfl] at this
     cases this
    ·rcases List.mem_cons.1 hy with rfl | hy
     ·exact h3
     ·have:=c y hy;rw [mL _ _ _ _ _ hx] at this
      by_cases e:x.toNat=y.toNat
      ·rw [if_pos e] at this;cases this
      ·rwa [if_neg e] at this
   ·rintro ⟨a,b,c⟩
    obtain ⟨b1,b2⟩:=List.nodup_cons.1 b;refine ⟨fun y hy=>a y (by simp [hy]),b2,fun y hy=>?_⟩;have mF:x≠y:=fun e=>b1 (e ▸ hy)
    have SN:=(a y (by simp [hy])).1;rw [mL _ _ _ _ _ hx,az];exact c y (by simp [hy])
  ·rw [if_neg h];simp only [Bool.false_eq_true,false_iff]
   rintro ⟨a,b,c⟩
   exact h (nN.2 ⟨(a x (by simp)).1,(a x (by simp)).2,c x (by simp)⟩)
end Po
end Go.Proofs.YtdjhhbpedllnhaaGreat
