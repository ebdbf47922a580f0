/-
  What the laws need, part B6.
  Conditions: none.
-/
import Derived.Test.YtdjhhbpedllnhaaGreatB4
import Derived.Test.YtdjhhbpedllnhaaGreatB5
import Derived.Laws.Pointers
set_option linter.unusedVariables false
set_option linter.unusedSimpArgs false
set_option linter.unnecessarySimpa false
set_option maxHeartbeats 2000000
namespace Go.Proofs.YtdjhhbpedllnhaaGreat
open Go.RowKit
theorem Qd (w:World) (size dX most:Int) :
  Calls Tryz.prog 93 #[.int .i64 size,.int .i64 dX,.int .i64 most] w fun e w'=>e=.returned (.bool (Po.fits size dX most))∧w=w':=by
 have Qe:size < 0∨(0≤size∧64 < size)∨(0≤size∧size≤64∧dX < 0)∨(0≤size∧size≤64∧0≤dX∧8 < dX)∨(0≤size∧size≤64∧0≤dX∧dX≤8∧most < 1)∨(0≤size∧size≤64∧0≤dX∧dX≤8∧1≤most∧16 < most)∨(0≤size∧size≤64∧0≤dX∧dX≤8∧1≤most∧most≤16):=by omega
 obtain ⟨c,hc⟩:∃ c,c=Po.fits size dX most:=⟨_,rfl⟩
 have HC:=Lib.hid hc;rw [← hc];clear hc;rcases Qe with h1 | ⟨h1,h2⟩ | ⟨h1,h2,h3⟩ | ⟨h1,h2,h3,h4⟩ | ⟨h1,h2,h3,h4,h5⟩ | ⟨h1,h2,h3,h4,h5,h6⟩ | ⟨h1,h2,h3,h4,h5,h6⟩
 all_goals go_enter Tryz.func93,Tryz.ntmps93
 all_goals go_wp2_with fail
 all_goals go_ret
 all_goals exact ⟨jz (by rw [HC.out,Bool.eq_iff_iff];simp [Po.fits];omega),rfl⟩
open Go.RowKit
namespace Fl
open Sx
set_option maxRecDepth 100000
theorem Qf (s g c:Int):Po.fits s g c=Sx.can s g c:=by
 rfl
theorem Qg (s g c:Int):Pure Tryz.prog 93 [.c (nI s),.c (nI g),.c (nI c)] (.c (bI (Sx.can s g c))) :=
 an.plain fun ok e xs hd=>by
  obtain rfl:=hd.v3;refine (Qd e s g c).mono ?_
  rintro en w' ⟨rfl,rfl⟩
  rw [Qf];exact ⟨_,rfl,aP.refl _ _,RD.v rfl⟩
def IL (sn:Nat) (cn:Int) (d:List Int) (g su k:A):List A:=[nI sn,nI cn,nI 0,g,.v (.slice none 0 0),su,k,.v (.slice none 0 0),nI 0,mU d,nI 0,.v (.slice none 0 0)]
theorem Qh (p:List (List Pn.Op)) (sn cn:Int) (d:List Int) :
  Pure Tryz.prog 32 [.c (rA p),.agg [nI sn,nI cn],.c (mU d)] (.bp [.agg (aC (Sx.new p sn cn d).1),.c (nI (Sx.new p sn cn d).2)]):=by
 have CR:=P4 p;have CC:=Qg sn p.length cn
 cases hr:Pn.right p with
 | false =>
  have e1:Sx.new p sn cn d=(sy,3):=by unfold Sx.new;rw [if_pos hr]
  rw [e1];rw [hr] at CR;refine an.intro Tryz.func32 rfl rfl rfl (fun ok e=>?_)
  repeat (first | (refine K.store ?_;refine JO.ld (Ld.bq rfl rfl rfl (by exact rfl) (by exact rfl)) rfl (fun _=>?_)) | refine ay ?_ | intro _)
  (exact J.ret Tryz.func32 rfl (.cons (.cell 0 rfl rfl rfl) (.cons (.tmp rfl) .nil)) () (by (exact .bp (by repeat (first | exact .nil | refine .cons (.agg (by repeat (first | exact .nil | refine .cons .refl ?_ | refine .cons .nil ?_))) ?_ | refine .cons .refl ?_)))) [] .nil rfl rfl)
 | true =>
  rw [hr] at CR
  cases hc:Sx.can sn p.length cn with
  | false =>
   have e1:Sx.new p sn cn d=(sy,1):=by unfold Sx.new;rw [if_neg (by simp [hr]),if_pos hc]
   rw [e1];rw [hc] at CC;refine an.intro Tryz.func32 rfl rfl rfl (fun ok e=>?_)
   repeat (first | (refine K.store ?_;refine JO.ld (Ld.bq rfl rfl rfl (by exact rfl) (by exact rfl)) rfl (fun _=>?_)) | refine ay ?_ | intro _)
   (exact J.ret Tryz.func32 rfl (.cons (.cell 0 rfl rfl rfl) (.cons (.tmp rfl) .nil)) () (by (exact .bp (by repeat (first | exact .nil | refine .cons (.agg (by repeat (first | exact .nil | refine .cons .refl ?_ | refine .cons .nil ?_))) ?_ | refine .cons .refl ?_)))) [] .nil rfl rfl)
  | true =>
   have e1:Sx.new p sn cn d=(Sx.start p sn cn d,0):=by unfold Sx.new;rw [if_neg (by simp [hr]),if_neg (by simp [hc])]
   rw [e1];rw [hc] at CC;obtain ⟨r1,r2,r3⟩:=Qb hr;unfold Sx.can at hc;simp only [decide_eq_true_eq] at hc;obtain ⟨sm,rfl⟩:∃ sm:Nat,sn=sm:=⟨sn.toNat,by omega⟩
   refine an.intro Tryz.func32 rfl rfl rfl (fun ok e=>?_)
   repeat (first | (refine K.store ?_;refine JO.ld (Ld.bq rfl rfl rfl (by exact rfl) (by exact rfl)) rfl (fun _=>?_)) | refine ay ?_ | intro _)
   rename_i b4 b6 b8 _;refine J.mg 47 25 ?_;refine J.mg 28 1 ?_;refine J.loop (ι:={ q:Nat × Value × Value // q.1≤p.length }) (fun q=>[(30,.c (nI q.1.1)),(29,.c (nI p.length)),(28,.c (rA p)),(8,.c (.v (.pointer (some ⟨b8,0,none⟩)))),(6,.c (.v (.pointer (some ⟨b6,0,none⟩)))),(4,.c (.v (.pointer (some ⟨b4,0,none⟩))))]) (fun q=>.row q.1.2.1 28 1 (((p.take q.1.1).map fun _=>([]:List Int)).map fun l=>[ints l]) :: .row q.1.2.2 47 25 (((p.take q.1.1).map (clean · 0)).map eG) :: .box b8 36 (IL sm cn d (.v q.1.2.2) (.v (.slice none 0 0)) (.v q.1.2.1)) :: .box b6 36 ri :: .box b4 24 [nI sm,nI cn] :: []) (fun q=>p.length - q.1.1) ⟨(0,.slice none 0 0,.slice none 0 0),Nat.zero_le _⟩ (fun X h=>h.aW ⟨rfl,rfl,rfl,rfl,rfl,rfl,trivial⟩) (fun q ih=>?_);obtain ⟨⟨k,vc,vg⟩,hk⟩:=q;simp only at hk ih ⊢
   by_cases bF:k < p.length
   ·have t1:(decide ((k:Int) < (p.length:Int)))=true:=by simpa using bF
    obtain ⟨ops,ho⟩:∃ ops,p[k]?=some ops:=⟨_,List.getElem?_eq_getElem bF⟩
    have J1:(p.map fun ops=>[A.r 6 (ops.map dH)])[((k:Int)).toNat]?=some [A.r 6 (ops.map dH)]:=by rw [Int.toNat_natCast,List.getElem?_map,ho];rfl
    have kJ:(p.take k).length=k:=by rw [List.length_take];omega
    repeat (refine gn ?_)
    refine J.draw (by kernel_rfl) rfl ?_;refine JW.iZ [1] (some 7) ?_;refine tk 0 ?_;refine tk 1 ?_;refine tk 2 ?_;refine dA 3 (El ops 0) ?_;refine jl 4 rfl rfl rfl rfl (Ld.jS (qb rfl) rfl rfl rfl rfl rfl) .none (fun _=>?_);refine jl 5 rfl rfl rfl rfl (Ld.cy (qb rfl) rfl rfl .read (by (simp;omega))) (.pW rfl) (fun _=>?_);refine jk 6 rfl rfl rfl rfl (Qt.fieldAddr rfl rfl) ?_;refine jt 7 rfl rfl (Ld.cY rfl rfl (by exact rfl)) (fun _=>?_);refine bR ?_
    repeat (first | (refine K.store ?_;refine JO.ld (Ld.cY rfl rfl (by exact rfl)) rfl (fun _=>?_)) | (refine K.lit ?_;first | (refine JO.ld (Ld.NA (qb rfl)) rfl (fun _=>?_)) | (refine JO.ld (Ld.jS (qb rfl) rfl rfl rfl rfl rfl) rfl (fun _=>?_))) | (refine K.bi ?_;refine JO.ld (Ld.cy (qb rfl) rfl rfl .read (by (simp;omega))) rfl (fun _=>?_)) | refine gn ?_)
    rename_i Ef _ _ _ Eg _;refine J.dN ?_ ((ih ⟨(k + 1,Eg,Ef),by simp only;omega⟩ (by simp only;omega)).aW ⟨rfl,rfl,rfl,rfl,rfl,rfl,trivial⟩);rw [List.take_add_one,ho,List.map_append,List.map_append,List.map_append,List.map_append];rfl
   ·have t1:(decide ((k:Int) < (p.length:Int)))=false:=by simpa using bF
    obtain rfl:k=p.length:=by omega
    rw [List.take_of_length_le (Nat.le_refl _)];refine J.mT 0 2 6 rfl rfl rfl ?_;refine J.mT 0 1 3 rfl rfl rfl ?_
    repeat (refine gn ?_)
    refine J.mg 52 7 ?_;refine J.loop (ι:={ q:Nat × Value // q.1≤sm }) (fun q=>[(11,.c (nI q.1.1)),(8,.c (.v (.pointer (some ⟨b8,0,none⟩)))),(6,.c (.v (.pointer (some ⟨b6,0,none⟩)))),(4,.c (.v (.pointer (some ⟨b4,0,none⟩))))]) (fun q=>.row q.1.2 52 7 ((List.replicate q.1.1 fB).map eS) :: .box b8 36 (IL sm cn d (.r 25 ((p.map (clean · 0)).map eG)) (.v q.1.2) (.r 1 ((p.map fun _=>([]:List Int)).map fun l=>[ints l]))) :: .box b6 36 ri :: .box b4 24 [nI sm,nI cn] :: []) (fun q=>sm - q.1.1) ⟨(0,.slice none 0 0),Nat.zero_le _⟩ (fun X h=>h.aW ⟨rfl,rfl,rfl,rfl,trivial⟩) (fun q ih=>?_);obtain ⟨⟨j,vs⟩,hj⟩:=q;simp only at hj ih ⊢
    by_cases ff:j < sm
    ·have t1:(decide ((j:Int) < (sm:Int)))=true:=by simpa using ff
     repeat (first | (refine K.store ?_;refine JO.ld (Ld.cY rfl rfl (by exact rfl)) rfl (fun _=>?_)) | (refine K.lit ?_;refine JO.ld (Ld.jS (qb rfl) rfl rfl rfl rfl rfl) rfl (fun _=>?_)) | (refine K.bi ?_;refine JO.ld (Ld.cy (qb rfl) rfl rfl .read (by (simp;omega))) rfl (fun _=>?_)) | refine gn ?_)
     rename_i Qi _;refine J.dN ?_ ((ih ⟨(j + 1,Qi),by simp only;omega⟩ (by simp only;omega)).aW ⟨rfl,rfl,rfl,rfl,trivial⟩);rw [List.replicate_succ',List.map_append];rfl
    ·have t1:(decide ((j:Int) < (sm:Int)))=false:=by simpa using ff
     obtain rfl:j=sm:=by omega
     refine J.mT 0 1 5 rfl rfl rfl ?_
     repeat (first | (refine K.store ?_;refine JO.ld (Ld.bq rfl rfl rfl (by exact rfl) (by exact rfl)) rfl (fun _=>?_)) | refine gn ?_)
     (exact J.ret Tryz.func32 rfl (.cons (.cell 1 rfl rfl rfl) (.cons (.tmp rfl) .nil)) () (by (exact .bp (by repeat (first | exact .nil | refine .cons (.agg (by repeat (first | exact .nil | refine .cons .refl ?_ | refine .cons .nil ?_))) ?_ | refine .cons .refl ?_)))) [] .nil rfl rfl)
end Fl
open Go.RowKit
namespace Fl
open Sx
set_option maxRecDepth 100000
section
variable {P:Program} {c:Cx} {f:Fm} {L:List aj} {T X:TypeId} {ps:String} {af:Array Edge} {gd:Option (Nat × Bool)} {t:Nat}
theorem Qt.yI {x y:Operand} {Y:Nat} {p:Option Addr} (hu:P.underlying X=some (.pointer (P.pointee X))) (h:bg f x=some (.c (.v (.pointer p)))) (hy:bg f y=some (.c (.v (.pointer none)))):Qt P c [] ⟨t,.binOp .eql X x y Y,T,ps,af,gd⟩ f L (.c (.v (.bool p.isNone))):=⟨fun a w s=>by
 have rx:=s.val h;have ry:=s.val hy;refine ⟨.bool p.isNone,by unfold RD RA;exact ⟨rfl,rfl⟩,fun w' k=>?_⟩;simp [execOp,rx,ry,eqGuard_at_pointer,Sem.run_bind,run_eql_pointer_nil _ _ _ hu]⟩
theorem jh.IM {ok:Nat→Prop} {w:World}:∀ {xs ys:List A},jh xs ys→∀ {vs:List Value},RC ok w xs vs→RC ok w ys vs
 | _,_,.nil,vs,r=>r
 | _,_,.refl,vs,r=>r
 | _,_,.cons h k,vs,r=>by
  unfold RC at r;obtain ⟨x,zs,rfl,r1,r2⟩:=r;exact RC.cons (h.rep r1) (jh.IM k r2)
end
theorem yJ:Tryz.prog.underlying 39=some (.pointer (Tryz.prog.pointee 39)):=by kernel_rfl
end Fl
open Go.RowKit Go.ChangeShapes Go.WideShapes Go.Deep
namespace Fl
open Sx
section
variable {α:Type} {E:World→List Value→α→List Nat→Prop} {enc:α→List A}
def Si (enc:α→List A) (E:World→List Value→α→List Nat→Prop):Prop :=
 ∀ (ok:Nat→Prop) (w:World) (cs:List Value) (a:α) (U:List Nat),E w cs a U→(∀ x∈U,ok x)→RC ok w (enc a) cs
theorem Si.rx (h:Si enc E) {ok:Nat→Prop} {w:World} {sz:Nat} {S:List Nat} (hS:∀ x∈S,ok x):∀ {l:List α} {xs:List Value},xs.length=l.length * sz→qG E sz w xs l S→RX ok w sz (l.map enc) xs
 | [],xs,hl,r=>by simp at hl;subst hl;rfl
 | a :: l,xs,hl,r=>by
  have Am:xs.length=l.length * sz + sz:=by rw [hl,List.length_cons,Nat.add_mul];omega
  refine ⟨xs.take sz,xs.drop sz,(List.take_append_drop sz xs).symm,by rw [List.length_take];omega,?_,Si.rx h hS (by rw [List.length_drop];omega) fun k b hk=>?_⟩
  ·obtain ⟨U,u1,u2⟩:=r 0 a rfl;have:chunk xs sz 0=xs.take sz:=by unfold chunk;simp
   rw [this] at u1;exact h ok w _ a U u1 fun x hx=>hS x (u2 x hx)
  ·obtain ⟨U,u1,u2⟩:=r (k + 1) b (by simpa using hk);have:chunk xs sz (k + 1)=chunk (xs.drop sz) sz k:=by
    unfold chunk;rw [List.drop_drop,show (k + 1) * sz=sz + k * sz by rw [Nat.add_mul];omega]
   rw [this] at u1;exact ⟨U,u1,u2⟩
theorem Si.ra (h:Si enc E) {ok:Nat→Prop} {w:World} {sz:Nat} {v:Value} {l:List α} {S:List Nat} (r:GV E sz w v l S) (hS:∀ x∈S,ok x):RA ok w (.r sz (l.map enc)) v:=by
 obtain ⟨xs,T,v1,v2,v3,v4,v5⟩:=r;exact RA.De (ys:=xs) (S:=T) (by rw [List.length_map];exact v1) (h.rx hS v1.len v2) fun g hg=>hS g (v3 g hg)
theorem Si.row (h:Si enc E) {sz:Nat}:Si (fun l:List α=>[A.r sz (l.map enc)]) (pO E sz):=fun ok w cs l U r hS=>by
 obtain ⟨v,rfl,g⟩:=r;exact RC.cons (h.ra g hS) RC.nil
end
theorem RA.w {ok:Nat→Prop} {w:World} {v:Value} (h:v.oneCell'=true):RA ok w (.v v) v:=by unfold RA;exact ⟨rfl,h⟩
theorem Qj:Si mc mh:=fun ok w cs c U r _=>by
 obtain ⟨rfl,_⟩:=r;exact RC.cons (RA.w rfl) (RC.cons (RA.w rfl) (RC.cons (RA.w rfl) RC.nil))
theorem Qk:Si dH vW:=fun ok w cs o U r hS=>by
 obtain ⟨vc,rfl,g⟩:=r;exact RC.cons (RA.w rfl) (RC.cons (RA.w rfl) (RC.cons (RA.w rfl) (RC.cons (RA.w rfl) (RC.cons (Qj.ra g hS) (RC.cons (RA.w rfl) RC.nil)))))
theorem Ql:Si (fun l:List Pn.Op=>[A.r 6 (l.map dH)]) sD:=Qk.row
theorem Qm:Si (fun n:Int=>[A.v (.int .u16 n)]) (kY .u16):=fun ok w cs n U r _=>by
 obtain ⟨rfl,_⟩:=r;exact RC.cons (RA.w rfl) RC.nil
theorem Qn:Si (fun n:Int=>[nI n]) (kY .i64):=fun ok w cs n U r _=>by
 obtain ⟨rfl,_⟩:=r;exact RC.cons (RA.w rfl) RC.nil
structure uq where
 p:List (List Pn.Op)
 sn:Int
 cn:Int
 d:List Int
def sG (w:World) (cs:List Value) (a:uq) (U:List Nat):Prop :=
 ∃ vp vd,cs=[vp,.int .i64 a.sn,.int .i64 a.cn,vd]∧GV sD 1 w vp a.p U∧GV (kY .u16) 1 w vd a.d U
theorem Qo:Kept sG :=
 ⟨fun h k hn=>by obtain ⟨vp,vd,h1,h2,h3⟩:=h;exact ⟨vp,vd,h1,h2.iO Ix k hn,h3.iO (GC _) k hn⟩,fun h=>by obtain ⟨vp,vd,h1,h2,h3⟩:=h;exact h2.lt⟩
def ng (p:List (List Pn.Op)) (sn cn:Int) (d:List Int):List A:=[rA p,nI sn,nI cn,mU d]
theorem Qp {ok:Nat→Prop} {w:World} {cs:List Value} {a:uq} {U:List Nat} (h:sG w cs a U) (hS:∀ x∈U,ok x):RC ok w (ng a.p a.sn a.cn a.d) cs:=by
 obtain ⟨vp,vd,rfl,h2,h3⟩:=h;exact RC.cons (Ql.ra h2 hS) (RC.cons (RA.w rfl) (RC.cons (RA.w rfl) (RC.cons (Qm.ra h3 hS) RC.nil)))
theorem En:fK Tryz.prog 3 (kY .i64) 1:=Aj Tryz.underlying3 (by kernel_rfl)
theorem Qq:fK Tryz.prog 110 (kY .u16) 1:=Aj Tryz.underlying110 (by kernel_rfl)
theorem Qr:fK Tryz.prog 25 (pO (kY .u16) 1) 1:=xd Tryz.underlying25 (by kernel_rfl) Qq
def IN (w:World) (cs:List Value) (a:Int × Int) (U:List Nat):Prop:=cs=[.int .i64 a.1,.int .i64 a.2]∧U=[]
theorem Qv:Kept IN:=⟨fun h _ _=>h,fun h x hx=>by obtain ⟨_,rfl⟩:=h;simp at hx⟩
theorem Qw:fK Tryz.prog 24 IN 2:=by
 refine ⟨by omega,Qv,by kernel_rfl,?_⟩;intro H enc W fuel cs x h;obtain ⟨xs,n,_,_,hl,jM,hf⟩:=DataW.trod_struct Tryz.underlying24 h;have qU:cs.length=2:=hl.trans (by kernel_rfl);obtain ⟨v0,v1,rfl⟩:=MK qU;have qO:xs.length=2:=jM.trans (by kernel_rfl);have hs:∀ i,i < 2→(xs[i]?).isSome=true:=fun i hi=>by simp [qO,hi]
 obtain ⟨o0,_,a0,U0,e0,_,_⟩:=En.field rfl rfl (hs 0 (by omega)) (hf 0 _ rfl);obtain ⟨o1,_,a1,U1,e1,_,_⟩:=En.field rfl rfl (hs 1 (by omega)) (hf 1 _ rfl);simp at e0 e1 o0 o1;subst e0 e1;exact ⟨rfl,(by intro y hy;simp at hy;rcases hy with rfl | rfl <;> rfl),(a0,a1),[],rfl,rfl⟩
theorem Eo:fK Tryz.prog 27 sG 4:=by
 refine ⟨by omega,Qo,by kernel_rfl,?_⟩;intro H enc W fuel cs x h;obtain ⟨xs,n,_,_,hl,jM,hf⟩:=DataW.trod_struct Tryz.underlying27 h;have Qx:cs.length=4:=hl.trans (by kernel_rfl);obtain ⟨v0,v1,v2,v3,rfl⟩:=MM Qx;have xV:xs.length=3:=jM.trans (by kernel_rfl);have hs:∀ i,i < 3→(xs[i]?).isSome=true:=fun i hi=>by simp [xV,hi]
 obtain ⟨o0,_,a0,U0,vp,e0,h0⟩:=Pz.field rfl rfl (hs 0 (by omega)) (hf 0 _ rfl);obtain ⟨o1,_,a1,U1,e1,_⟩:=Qw.field rfl rfl (hs 1 (by omega)) (hf 1 _ rfl);obtain ⟨o2,_,a2,U2,vd,e2,h2⟩:=Qr.field rfl rfl (hs 2 (by omega)) (hf 2 _ rfl);simp at e0 e1 e2 o0 o1 o2;obtain ⟨Qy,Qz⟩:=e1;subst e0 Qy Qz e2;have iu:∀ x∈U0 ++ U2,x < W.heap.size:=fun x hx=>by
  rcases List.mem_append.1 hx with h | h
  ·exact h0.lt x h
  ·exact h2.lt x h
 exact ⟨rfl,(by intro y hy;simp at hy;rcases hy with rfl | rfl | rfl | rfl <;> first | rfl | assumption),⟨a0,a1.1,a1.2,a2⟩,U0 ++ U2,_,_,rfl,h0.mono (fun x hx=>by simp [hx]) iu,h2.mono (fun x hx=>by simp [hx]) iu⟩
theorem QA {P:Program} {F:FuncId} {ds:List D} (h:Pure P F ds (.c (bI true))) {w:World} {xs:List Value} (hd:cK (fun _=>True) w ds xs):Calls P F xs.toArray w fun e w'=>e=.returned (.bool true)∧aP [] w w':=by
 refine Calls.mono (h.go (fun _=>True) w xs hd (by simp) List.Pairwise.nil (by simp [bu])) ?_
 rintro en w' ⟨i,x,rfl,kp,_,_,_,r⟩
 unfold RD bI RA at r;exact ⟨by rw [r.1],by simpa [bu] using kp⟩
end Fl
open Go.RowKit
namespace Fl
open Sx
theorem IP (off:Nat):∀ (l:List Value) (k:Nat) (z:Array Value),off + (k + l.length)≤z.size →
  (l.zipIdx k).foldl (fun cs x=>cs.setIfInBounds (off + x.2) x.1) z=(z.toList.take (off + k) ++ l ++ z.toList.drop (off + (k + l.length))).toArray
 | [],k,z,hz=>by simp
 | x :: l,k,z,hz=>by
  simp only [List.length_cons] at hz;rw [List.zipIdx_cons,List.foldl_cons,IP off l (k + 1) _ (by simp;omega)];apply congrArg;simp only [Array.toList_setIfInBounds,List.length_cons];rw [← Nat.add_assoc,List.take_add_one,List.take_set,List.getElem?_set_self (by simp;omega)];rw [List.set_eq_of_length_le (by simp;omega),List.drop_set,if_pos (by omega)];simp only [Option.toList_some,List.append_assoc,List.singleton_append,List.cons_append,List.nil_append];rw [show k + (l.length + 1)=k + 1 + l.length by omega]
theorem IQ (sz:Nat):∀ (vs:List Value) (k:Nat) (z:Array Value),(∀ v∈vs,v.cells.size=sz)→(k + vs.length) * sz≤z.size →
  Instr.fill (fun j=>some (j * sz,sz)) z ((List.range' k vs.length).zip vs)=some (z.toList.take (k * sz) ++ vs.flatMap (·.cells.toList) ++ z.toList.drop ((k + vs.length) * sz)).toArray
 | [],k,z,h,hz=>by simp [Instr.fill]
 | v :: vs,k,z,h,hz=>by
  have hv:=h v (by simp);have e0:(k + (vs.length + 1)) * sz=k * sz + sz + vs.length * sz:=by simp [Nat.add_mul];omega
  simp only [List.length_cons] at hz;rw [e0] at hz;have P:=IP (k * sz) v.cells.toList 0 z (by simp [hv];omega);simp only [Nat.zero_add,Nat.add_zero,Array.length_toList,hv] at P;have P':(v.cells.zipIdx.foldl (fun cs x=>cs.setIfInBounds (k * sz + x.2) x.1) z)=(z.toList.take (k * sz) ++ v.cells.toList ++ z.toList.drop (k * sz + sz)).toArray:=by
   rw [← Array.foldl_toList,Array.toList_zipIdx];exact P
  have ih:=IQ sz vs (k + 1) (z.toList.take (k * sz) ++ v.cells.toList ++ z.toList.drop (k * sz + sz)).toArray (fun u hu=>h u (by simp [hu])) (by simp [Nat.add_mul,hv];omega);simp only [List.length_cons,List.range'_succ,List.zip_cons_cons,Instr.fill];rw [if_neg (by simp [hv];omega)];refine Eq.trans (congrArg (fun z=>Instr.fill _ z _) P') (ih.trans ?_);have l1:(z.toList.take (k * sz) ++ v.cells.toList).length=(k + 1) * sz:=by simp [Nat.add_mul,hv];omega
  congr 2
  simp only [List.toList_toArray];rw [← l1,List.take_left' rfl,List.flatMap_cons];have e3:(k + 1 + vs.length) * sz=(z.toList.take (k * sz) ++ v.cells.toList).length + vs.length * sz:=by rw [l1];simp [Nat.add_mul]
  rw [e3,List.drop_append,List.drop_drop,e0];simp [List.append_assoc]
def qa (f:Fm):List (Nat × Operand)→Option (List (List A))
 | []=>some []
 | (_,x) :: l=>(bg f x).bind fun d=>(ia d).bind fun cs=>(qa f l).bind fun r=>some (cs :: r)
inductive ni:List (List A)→List (List A)→Prop
 | nil:ni [] []
 | cons {a b xs ys}:jh a b→ni xs ys→ni (a :: xs) (b :: ys)
 | refl {xs}:ni xs xs
theorem ni.rep {ok:Nat→Prop} {w:World} {sz:Nat} {a b:List (List A)} (h:ni a b):∀ {x:List Value},RX ok w sz a x→RX ok w sz b x:=by
 induction h with
 | nil=>exact fun h=>h
 | refl=>exact fun h=>h
 | cons h1 _ ih =>
  intro x r;unfold RX at r ⊢;obtain ⟨vs,ys,a1,a2,a3,a4⟩:=r;exact ⟨vs,ys,a1,a2,h1.IM a3,ih a4⟩
theorem ni.len {a b:List (List A)} (h:ni a b):a.length=b.length:=by
 induction h with
 | nil=>rfl
 | refl=>rfl
 | cons _ _ ih=>simp [ih]
def yK:A→A→A
 | .v (.slice none 0 0),.r sz []=>.r sz []
 | a,_=>a
def oO:List A→List A→List A
 | a :: l,b :: m=>yK a b :: oO l m
 | l,_=>l
def rD:List (List A)→List (List A)→List (List A)
 | a :: l,b :: m=>oO a b :: rD l m
 | l,_=>l
theorem yK.le (a b:A):lf a (yK a b):=by
 unfold yK
 split
 ·exact .nil
 ·exact .refl
theorem oO.le:∀ a b:List A,jh a (oO a b)
 | [],b=>by unfold oO;exact .refl
 | a :: l,[]=>by unfold oO;exact .refl
 | a :: l,b :: m=>by unfold oO;exact .cons (yK.le a b) (oO.le l m)
theorem rD.le:∀ a b:List (List A),ni a (rD a b)
 | [],b=>by unfold rD;exact .refl
 | a :: l,[]=>by unfold rD;exact .refl
 | a :: l,b :: m=>by unfold rD;exact .cons (oO.le a b) (rD.le l m)
theorem jh.of {a b:List A} (h:oO a b=b):jh a b:=h ▸ oO.le a b
theorem ni.of {a b:List (List A)} (h:rD a b=b):ni a b:=h ▸ rD.le a b
section
variable {P:Program} {c:Cx} {f:Fm} {L:List aj} {X T:TypeId} {t:Nat} {ps:String} {af:Array Edge} {gd:Option (Nat × Bool)}
theorem qa.rep {sz:Nat} {a:Act} {w:World} (s:St c f L a w):∀ {l:List (Nat × Operand)} {ll:List (List A)},qa f l=some ll→(ll.all (·.length == sz))=true →
  RX (bM c L) w sz ll ((l.map fun x=>a.eval x.2).flatMap (·.cells.toList))∧(∀ v∈l.map (fun x=>a.eval x.2),v.cells.size=sz)∧l.length=ll.length
 | [],ll,h,_=>by
  simp only [qa,Option.some.injEq] at h;subst h;exact ⟨rfl,by simp,rfl⟩
 | (j,x) :: l,ll,h,hs=>by
  simp only [qa] at h
  cases e1:bg f x with
  | none=>rw [e1] at h;cases h
  | some d =>
  cases e2:ia d with
  | none=>rw [e1] at h;simp [e2] at h
  | some cs =>
  cases e3:qa f l with
  | none=>rw [e1] at h;simp [e2,e3] at h
  | some r =>
  rw [e1] at h;simp only [e2,e3,Option.bind_some,Option.some.injEq] at h;subst h;simp only [List.all_cons,Bool.and_eq_true,beq_iff_eq] at hs;obtain ⟨r1,r2,r3⟩:=qa.rep s e3 hs.2;have ry:=ia.rep e2 (s.ev e1);have hz:(a.eval x).cells.size=sz:=by have:=ry.len;simp at this;omega
  refine ⟨?_,?_,by simp [r3]⟩
  ·unfold RX;exact ⟨_,_,rfl,by simpa using hz,ry,r1⟩
  ·intro v hv;simp only [List.map_cons,List.mem_cons] at hv;rcases hv with rfl | hv
   ·exact hz
   ·exact r2 v hv
theorem Ld.QB {e sz n:Nat} {fF:Array (Nat × Operand)} {ll mm:List (List A)} {zs:List Value} [i:fu P X e sz] [z:bw P e zs] (ht:t < c.N) (h:qa f fF.toList=some ll) (hi:fF.toList.map (·.1)=List.range' 0 n) (hn:ll.all (·.length == sz)=true) (hm:Nat.ble n 1000=true) (h0:Nat.ble 1 sz=true) (hs:Nat.ble sz 1000=true) (hle:ni ll mm) :
  Ld P c ⟨some t,.buildSlice X n fF,T,ps,af,gd⟩ f L [] (fun b:Nat=>(t,.c (.v (.slice (some ⟨b,0,none⟩) n n))) :: f) (fun b=>.row (.slice (some ⟨b,0,none⟩) n n) e sz mm :: L):=⟨fun a w s K Q hK=>by
 have Na:1≤sz:=Nat.le_of_ble_eq_true h0;have GM:sz≤1000:=Nat.le_of_ble_eq_true hs;have me:n≤1000:=Nat.le_of_ble_eq_true hm;obtain ⟨rx,rv,rl⟩:=qa.rep s h hn;have kE:fF.toList.length=n:=by have:=congrArg List.length hi;simpa using this
 have Ep:fF.toList.map (fun x=>(x.1,a.eval x.2))=(List.range' 0 (fF.toList.map fun x=>a.eval x.2).length).zip (fF.toList.map fun x=>a.eval x.2):=by
  rw [List.length_map,kE,← hi,List.zip_map']
 obtain ⟨zv,An,xA⟩:=pR.run z.h;generalize IS:fF.toList.map (fun x=>a.eval x.2)=vs at rx rv Ep;have AW:vs.length=n:=by rw [← IS];simpa using kE
 generalize jK:vs.flatMap (·.cells.toList)=cs at rx;have cF:cs.length=n * sz:=by
  rw [← jK,← AW];clear jK IS rx Ep AW
  induction vs with
  | nil=>simp
  | cons v vs ih =>
   rw [List.flatMap_cons,List.length_append,ih (fun u hu=>rv u (by simp [hu]))];have:=rv v (by simp);simp [Nat.add_mul,this];omega
 have hk:aP [] w (w.alloc (.cells cs.toArray e)):=(aP.refl [] w).alloc _;have Dd:Instr.fill (fun j=>some (j * sz,sz)) ((Array.range (n * sz)).map (zv.cells[· % zv.cells.size]!)) (fF.toList.map (fun x=>(x.1,a.eval x.2)))=some cs.toArray:=by
  rw [Ep];have e1:=IQ sz vs 0 ((Array.range (n * sz)).map (zv.cells[· % zv.cells.size]!)) rv (by simp [AW]);rw [e1];simp only [Nat.zero_mul,List.take_zero,List.nil_append,Nat.zero_add,AW,jK];rw [List.drop_eq_nil_of_le (by simp)];simp
 have fJ:(execOp a.eval ⟨some t,.buildSlice X n fF,T,ps,af,gd⟩).run P w=.ok (.value (.slice (some ⟨w.heap.size,0,none⟩) n n)) (w.alloc (.cells cs.toArray e)):=by
  have h1:¬ n * sz > 2 ^ 24:=by have:=Nat.mul_le_mul me GM;omega
  have QC:Instr.fill (fun j=>some (j * sz,sz)) ((Array.range (n * sz)).map (zv.cells[· % zv.cells.size]!)) ((fF.map (fun x=>(x.1,a.eval x.2))).toList)=some cs.toArray:=by simpa using Dd
  by_cases h2:n * sz=0
  ·have QD:n=0:=by rcases Nat.mul_eq_zero.1 h2 with h | h <;> omega
   subst QD;have ha:fF=#[]:=by apply Array.eq_empty_of_size_eq_zero;simpa using kE
   subst ha;have oN:cs=[]:=by apply List.eq_nil_of_length_eq_zero;omega
   subst oN;simp [execOp,Instr.buildSlice,Sem.run_bind,run_underlying (ke.jA i.h),iQ.run i.s,Instr.fill,newRow,Array.range_zero',run_newObj_alloc]
  ·simp only [execOp,Instr.buildSlice,Sem.run_bind,run_underlying (ke.jA i.h),iQ.run i.s,Result.andThen_ok,h1,h2,↓reduceIte,xA,Sem.run_pure,QC,newRow,run_newObj_alloc]
 unfold Oper.wp;rw [fJ];have hf:∀ y∈(aj.row (.slice (some ⟨w.heap.size,0,none⟩) n n) e sz mm).cA,w.heap.size≤y:=by simp [aj.cA,cX]
 refine hK w.heap.size _ _ hk (s.new ht hk hf ⟨cs,?_,?_⟩ (by unfold RD RA;exact ⟨rfl,rfl⟩)) (tK hf)
 ·have:=Row.lit w cs e sz n cF (by simp [maxLen];omega);have l3:mm.length=n:=by rw [← hle.len,← rl,kE]
  rw [l3];simpa [cX] using this
 ·exact hle.rep (RX.cO (Mon.j8 hk fun g hg ho=>⟨Al hf g hg ho,by simp⟩) ll _ rx)⟩
theorem Ld.kF {e sz n:Nat} {fF:Array (Nat × Operand)} {ll mm:List (List A)} {zs:List Value} [i:fu P X e sz] [z:bw P e zs] (ht:t < c.N) (h:qa f fF.toList=some ll) (hi:fF.toList.map (·.1)=List.range' 0 n) (hn:ll.all (·.length == sz)=true) (hm:Nat.ble n 1000=true) (h0:Nat.ble 1 sz=true) (hs:Nat.ble sz 1000=true) (hle:ni ll mm) :
  Ld P c ⟨some t,.buildSlice X n fF,T,ps,af,gd⟩ f L [] (fun _:Unit=>(t,.c (.r sz mm)) :: f) (fun _=>L):=⟨fun a w s K Q hK =>
 (Ld.QB (P:=P) (c:=c) (T:=T) (ps:=ps) (af:=af) (gd:=gd) (f:=f) (L:=L) (e:=e) (sz:=sz) (zs:=zs) (X:=X) (t:=t) ht h hi hn hm h0 hs hle).go a w s K Q fun b u w' k' s' hf=>hK () u w' k' s'.freeze fun y hy=>hf y ((iR _ _ _).2 (.inr hy))⟩
end
end Fl
end Go.Proofs.YtdjhhbpedllnhaaGreat
set_option maxHeartbeats 2000000
namespace Go.Proofs.YtdjhhbpedllnhaaGreat
namespace Sx
def aO (x:Gr):Pn.Op:=x.ops.getD x.at_.toNat xX
def cr (x:Gr) (j:Int):Int:=(aH (aO x) j).ch
def SR (x:Gr):Prop:=(aO x).kind=2∨(aO x).kind=3
def SE (x:Gr):Prop:=(aO x).kind=9
def Wt (x:Gr):Prop:=SR x∧12≤x.place∧x.place≤14∨SE x∧(x.place=13∨x.place=14∨x.place=30∧x.res.code=0)
def bS (x:Gr) (ch:Int):Prop :=
 2≤(aO x).kind∧(aO x).kind≤6∧ch=(aO x).ch∧(5≤x.place∧x.place≤12∨x.place=16∨21≤x.place∧x.place≤23) ∨
 SE x∧((25≤x.place∧x.place≤29∨x.place=32)∧ch∈x.aB∨(x.place=24∨x.place=31∨x.place=30∨x.place=33)∧ch∈x.aB.take x.k.toNat)
def Own (x:Gr) (i:Int):Prop :=
 0≤i∧(SR x∧11≤x.place∧x.place≤15∧x.bh=i∨SE x∧(28≤x.place∧x.place≤34∨x.place=13∨x.place=14)∧i∈x.aq)
def Match (x:Gr) (i:Int) (d:Su):Prop :=
 SR x∧d.cs=-1∧d.ch=(aO x).ch∧(d.send=true↔(aO x).kind=2) ∨
 SE x∧0≤d.cs∧d.cs < x.aq.length∧ax x.aq d.cs=i∧d.ch=cr x d.cs∧d.send=(aH (aO x) d.cs).send∧d.cs∈x.order∧∀ j:Int,0≤j→j < x.aq.length→ax x.aq j=i→j=d.cs
def eH (x:Gr) (i j:Int):Prop :=
 SR x∧12≤x.place∧x.place≤14∧x.bh=i∧x.param=-1 ∨
 SE x∧0≤j∧j < x.aq.length∧ax x.aq j=i∧(x.place=29∧j∈x.order.take x.k.toNat∨x.place=13∨x.place=14∨x.place=31∨x.place=30∧x.res.code=0∨x.place=32∧j∈x.order.drop x.k.toNat)
def bU (k p:Int):Prop :=
 p=18∨(k=1∨k=7∨k=8)∧p=20∨(k=2∨k=3)∧(4≤p∧p≤17∨p=19)∨k=4∧(p=1∨p=2∨4≤p∧p≤9∨p=16∨p=17) ∨
 k=5∧(1≤p∧p≤9∨p=16∨p=17)∨k=6∧(p=4∨p=16∨p=17∨21≤p∧p≤23)∨k=9∧(24≤p∧p≤34∨p=13∨p=14∨p=17∨p=19)
def c9 (p:Int):Prop:=24≤p∧p≤34∨p=13∨p=14
structure gw (nc ns:Int) (x:Gr):Prop where
 o1:∀ i∈x.order,0≤i∧i < (aO x).cases.length∧cr x i∈x.aB
 o2:x.order.Nodup
 o3:1≤x.order.length
 l1:∀ c∈x.aB,1≤c∧c≤nc
 l2:x.aB.Pairwise (· < ·)
 l3:1≤x.aB.length
 k0:0≤x.k
 k1:x.place=24∨x.place=31→x.k < x.aB.length
 k2:25≤x.place∧x.place≤29∨x.place=32∨x.place=34→x.k < x.order.length
 k3:x.place=30∨x.place=33→1≤x.k∧x.k≤x.aB.length
 s1:24≤x.place∧x.place≤27→x.aq=[]
 s2:28≤x.place∧x.place≤29∨31≤x.place∧x.place≤34∨x.place=13∨x.place=14→x.aq.length=(aO x).cases.length
 s3:x.place=30→x.aq.length=(aO x).cases.length∨x.aq=[]∧x.res.code≠0
 s4:∀ j:Int,0≤j→j < x.aq.length→-1≤ax x.aq j∧ax x.aq j < ns∧(0≤ax x.aq j→j∈x.order)
 s5:x.place=28→∀ j∈x.order.drop x.k.toNat,ax x.aq j=-1
 s6:31≤x.place∧x.place≤33∨x.place=13∨x.place=14∨x.place=29∨x.place=30∧x.res.code=0→∀ j∈x.order,0≤ax x.aq j
 s7:x.place=34→∀ j∈x.order.take x.k.toNat,ax x.aq j=-1
 c1:24≤x.place∧x.place≤29∨x.place=13∨x.place=14→x.res.code=0
 c2:31≤x.place∧x.place≤33→x.bG=true
 s8:x.place=28→∀ j∈x.order.take x.k.toNat,0≤ax x.aq j
structure Loc (nc ns n:Int) (x:Gr):Prop where
 nU:x.ops.length≤16
 ig:∀ o∈x.ops,Pn.fG o=true
 a0:0≤x.at_
 a1:x.at_≤x.ops.length
 pl:x.place=0∨x.at_ < x.ops.length∧bU (aO x).kind x.place
 AY:x.place≠0→x.place≠18→x.place≠19→2≤(aO x).kind→(aO x).kind≤6→1≤(aO x).ch∧(aO x).ch≤nc
 kG:x.status=0∨x.status=1∨x.status=2
 AZ:x.status=1→x.place=14∨x.place=19
 A7:x.place=19→x.status=1
 IT:x.status=2→x.place=0∧x.at_=x.ops.length
 tk:x.token=true→Wt x∧0≤x.param∧x.place≠14
 w1:x.au≠[]→x.place=16∨x.place=17∨x.place=22∨x.place=23∨x.place=34∨x.place=30∧x.res.code≠0
 w2:x.place=17→x.au≠[]
 w3:∀ p∈x.au,0≤p∧p < n
 w4:x.au.Nodup
 hd:x.place=7∨x.place=8∨x.place=23∨x.place=26∨x.place=27→0≤x.hold∧x.hold < ns
 mi:SR x→11≤x.place→x.place≤15→0≤x.bh∧x.bh < ns
 p0:-1≤x.param∧x.param < ns
 p1:x.place=14→x.status=0→0≤x.param
 p2:0≤x.param→Wt x∧Own x x.param
 p3:0≤x.param→SE x→x.bG=true
 se:SE x→c9 x.place→gw nc ns x
structure Inv (n nc ns:Int) (G:Int→Gr) (C:Int→Cn) (S:Int→Su) (P:Int→Prop):Prop where
 loc:∀ g,0≤g→g < n→Loc nc ns n (G g)
 jV:∀ ch,1≤ch→ch≤nc→(C ch).lock=-1∨0≤(C ch).lock∧(C ch).lock < n
 iW:∀ g,0≤g→g < n→∀ ch,1≤ch→ch≤nc→(bS (G g) ch↔(C ch).lock=g)
 cap:∀ ch,1≤ch→ch≤nc→0≤(C ch).cap∧(C ch).cap≤4∧((C ch).buf.length:Int)≤(C ch).cap
 own:∀ g,0≤g→g < n→∀ i,Own (G g) i→i < ns∧Match (G g) i (S i)∧(S i).g=g∧P i
 q:∀ ch,1≤ch→ch≤nc→∀ i,i∈(C ch).recv∨i∈(C ch).send→0≤i∧i < ns∧(S i).ch=ch∧((S i).send=false→i∈(C ch).recv∧i∉(C ch).send)∧((S i).send=true→i∈(C ch).send∧i∉(C ch).recv)∧0≤(S i).g∧(S i).g < n∧Own (G (S i).g) i∧eH (G (S i).g) i (S i).cs
 nd:∀ ch,1≤ch→ch≤nc→(C ch).recv.Nodup∧(C ch).send.Nodup
 cT:∀ h,0≤h→h < n→(G h).place=7∨(G h).place=23∨(G h).place=26→1≤(S (G h).hold).ch∧(S (G h).hold).ch≤nc∧bS (G h) (S (G h).hold).ch∧((G h).hold∈(C (S (G h).hold).ch).recv∨(G h).hold∈(C (S (G h).hold).ch).send)∧0≤(S (G h).hold).cs
 cl:∀ h,0≤h→h < n→(G h).place=8∨(G h).place=27→1≤(S (G h).hold).ch∧(S (G h).hold).ch≤nc∧bS (G h) (S (G h).hold).ch∧0≤(S (G h).hold).g∧(S (G h).hold).g < n∧(S (G h).hold).g≠h∧Wt (G (S (G h).hold).g)∧(G (S (G h).hold).g).param=-1∧Own (G (S (G h).hold).g) (G h).hold∧(SE (G (S (G h).hold).g)→(G (S (G h).hold).g).bG=true)∧(SR (G (S (G h).hold).g)→(G h).hold∉(C (S (G h).hold).ch).recv∧(G h).hold∉(C (S (G h).hold).ch).send)
 rE:∀ h k,0≤h→h < n→0≤k→k < n→(G h).place=8∨(G h).place=27→(G k).place=8∨(G k).place=27→(S (G h).hold).g=(S (G k).hold).g→h=k
 wk:∀ h,0≤h→h < n→∀ p∈(G h).au,p≠h∧Wt (G p)∧0≤(G p).param∧(G p).token=false∧((G p).place=14→(G p).status≠0)
 qc:∀ h k p,0≤h→h < n→0≤k→k < n→p∈(G h).au→p∈(G k).au→h=k
 su:∀ i,0≤i→i < ns→0≤(S i).g∧(S i).g < n∧-1≤(S i).cs∧((S i).live=true→Own (G (S i).g) i)
 lv:∀ i,P i→0≤i∧i < ns→Own (G (S i).g) i
end Sx
namespace Sx
def up {α:Type} (G:Int→α) (g:Int) (x:α):Int→α:=fun h=>if h=g then x else G h
theorem iD {α:Type} (G:Int→α) (g:Int) (x:α):up G g x g=x:=by simp [up]
theorem jd {α:Type} (G:Int→α) {g h:Int} (x:α) (e:h≠g):up G g x h=G h:=by simp [up,e]
def iM (G:Int→Gr) (p:Int) (y:Gr) (g:Int) (x:Gr):Int→Gr:=up (up G p y) g x
theorem Er (G:Int→Gr) (p:Int) (y:Gr) (g:Int) (x:Gr):iM G p y g x g=x:=iD _ _ _
theorem QE (G:Int→Gr) {p:Int} (y:Gr) {g:Int} (x:Gr) (e:p≠g):iM G p y g x p=y:=by unfold iM;rw [jd _ _ e,iD]
theorem Es (G:Int→Gr) {p:Int} (y:Gr) {g:Int} (x:Gr) {h:Int} (e:h≠g) (e2:h≠p):iM G p y g x h=G h:=by unfold iM;rw [jd _ _ e,jd _ _ e2]
def dy (x:Gr):Prop:=x.place=8∨x.place=27
def cR (x:Gr):Prop:=x.place=7∨x.place=23∨x.place=26
def kR (x:Gr):Prop:=Wt x∧0≤x.param∧x.token=false∧(x.place=14→x.status≠0)
def mq (x:Gr):Prop:=Wt x∧x.param=-1∧(SE x→x.bG=true)
structure Part (x y:Gr):Prop where
 ops:y.ops=x.ops
 at_:y.at_=x.at_
 place:y.place=x.place
 bh:y.bh=x.bh
 hold:y.hold=x.hold
 code:y.res.code=x.res.code
 order:y.order=x.order
 aB:y.aB=x.aB
 aq:y.aq=x.aq
 au:y.au=x.au
 k:y.k=x.k
section
variable {x y:Gr}
theorem Part.refl (x:Gr):Part x x:=⟨rfl,rfl,rfl,rfl,rfl,rfl,rfl,rfl,rfl,rfl,rfl⟩
theorem Part.aO (h:Part x y):aO y=aO x:=by unfold Sx.aO;rw [h.ops,h.at_]
theorem Part.sr (h:Part x y):SR y↔SR x:=by unfold SR;rw [h.aO]
theorem Part.se (h:Part x y):SE y↔SE x:=by unfold SE;rw [h.aO]
theorem Part.wt (h:Part x y):Wt y↔Wt x:=by unfold Wt;rw [h.sr,h.se,h.place,h.code]
theorem Part.holds (h:Part x y) (ch:Int):bS y ch↔bS x ch:=by unfold bS;rw [h.se,h.place,h.aO,h.aB,h.k]
theorem Part.own (h:Part x y) (i:Int):Own y i↔Own x i:=by unfold Own;rw [h.sr,h.se,h.place,h.bh,h.aq]
theorem Part.QF (h:Part x y) (i:Int) (d:Su):Match y i d↔Match x i d:=by unfold Match cr;rw [h.sr,h.se,h.aO,h.aq,h.order]
end
section
variable {n nc ns:Int} {G:Int→Gr} {C:Int→Cn} {S:Int→Su} {P:Int→Prop}
structure Move (n nc ns:Int) (G:Int→Gr) (C:Int→Cn) (S:Int→Su) (g p:Int) (x y:Gr) (C':Int→Cn):Prop where
 g0:0≤g
 g1:g < n
 pg:p≠g
 lx:Loc nc ns n x
 ly:0≤p→p < n→Loc nc ns n y
 py:Part (G p) y
 jV:∀ ch,1≤ch→ch≤nc→(C' ch).lock=-1∨0≤(C' ch).lock∧(C' ch).lock < n
 yL:∀ ch,1≤ch→ch≤nc→(bS x ch↔(C' ch).lock=g)
 yM:∀ ch h,1≤ch→ch≤nc→0≤h→h < n→h≠g→((C' ch).lock=h↔(C ch).lock=h)
 cap:∀ ch,1≤ch→ch≤nc→0≤(C' ch).cap∧(C' ch).cap≤4∧((C' ch).buf.length:Int)≤(C' ch).cap
 own:∀ i,Own x i↔Own (G g) i
 mt:∀ i,Own x i→Match x i (S i)
 q1:∀ ch,1≤ch→ch≤nc→(C' ch).recv.Sublist (C ch).recv∧(C' ch).send.Sublist (C ch).send
 q2:∀ ch,1≤ch→ch≤nc→¬ bS (G g) ch→(C' ch).recv=(C ch).recv∧(C' ch).send=(C ch).send
 qx:∀ ch i,1≤ch→ch≤nc→i∈(C' ch).recv∨i∈(C' ch).send→(S i).g=g→eH (G g) i (S i).cs→eH x i (S i).cs
 qy:∀ ch i,1≤ch→ch≤nc→i∈(C' ch).recv∨i∈(C' ch).send→(S i).g=p→eH (G p) i (S i).cs→eH y i (S i).cs
 wn:cR x→1≤(S x.hold).ch∧(S x.hold).ch≤nc∧bS x (S x.hold).ch∧(x.hold∈(C' (S x.hold).ch).recv∨x.hold∈(C' (S x.hold).ch).send)∧0≤(S x.hold).cs
 cx:dy x→1≤(S x.hold).ch∧(S x.hold).ch≤nc∧bS x (S x.hold).ch∧(S x.hold).g=p∧0≤p∧p < n∧mq y∧Own y x.hold∧(SR y→x.hold∉(C' (S x.hold).ch).recv∧x.hold∉(C' (S x.hold).ch).send)
 cg:∀ k,0≤k→k < n→k≠g→dy (G k)→(S (G k).hold).g=g→mq (G g)→mq x∧(SR x→SR (G g))
 cp:∀ k,0≤k→k < n→k≠g→dy (G k)→(S (G k).hold).g=p→mq (G p)→mq y∧¬ dy x
 wx:∀ q∈x.au,q∈(G g).au∨q=p∧∀ k,0≤k→k < n→k≠g→p∉(G k).au
 wg:kR (G g)→(∃ k,0≤k∧k < n∧k≠g∧g∈(G k).au)→kR x
 QG:g∉x.au
 wp:p∈x.au→kR y
 QH:∀ k,0≤k→k < n→k≠g→p∈(G k).au→kR (G p)→kR y
theorem Inv.move (I:Inv n nc ns G C S P) {g p:Int} {x y:Gr} {C':Int→Cn} (M:Move n nc ns G C S g p x y C'):Inv n nc ns (iM G p y g x) C' S P:=by
 have gg:=Er G p y g x;have gp:=QE G y x M.pg;have gh:∀ {h},h≠g→h≠p→iM G p y g x h=G h:=fun a b=>Es G y x a b
 have pt:∀ h,h≠g→Part (G h) (iM G p y g x h):=by
  intro h e
  by_cases e2:h=p
  ·subst e2;rw [gp];exact M.py
  ·rw [gh e e2];exact Part.refl _
 have ow:∀ h i,Own (iM G p y g x h) i↔Own (G h) i:=by
  intro h i
  by_cases e:h=g
  ·subst e;rw [gg];exact M.own i
  ·exact (pt h e).own i
 have QI:∀ ch,1≤ch→ch≤nc→∀ i,i∈(C' ch).recv∨i∈(C' ch).send→i∈(C ch).recv∨i∈(C ch).send:=fun ch a b i h=>h.imp (fun h=>(M.q1 ch a b).1.subset h) (fun h=>(M.q1 ch a b).2.subset h)
 constructor
 ·intro h a b
  by_cases e:h=g
  ·subst e;rw [gg];exact M.lx
  ·by_cases e2:h=p
   ·subst e2;rw [gp];exact M.ly a b
   ·rw [gh e e2];exact I.loc h a b
 ·exact M.jV
 ·intro h a b ch c1 c2
  by_cases e:h=g
  ·subst e;rw [gg];exact M.yL ch c1 c2
  ·rw [(pt h e).holds,I.iW h a b ch c1 c2,M.yM ch h c1 c2 a b e]
 ·exact M.cap
 ·intro h a b i hi;have:=I.own h a b i ((ow h i).1 hi);refine ⟨this.1,?_,this.2.2⟩
  by_cases e:h=g
  ·subst e;rw [gg] at hi ⊢;exact M.mt i hi
  ·exact ((pt h e).QF i _).2 this.2.1
 ·intro ch a b i hi;have:=I.q ch a b i (QI ch a b i hi);obtain ⟨t1,t2,t3,t4,t5,t6,t7,t8,t9⟩:=this;refine ⟨t1,t2,t3,?_,?_,t6,t7,(ow _ _).2 t8,?_⟩
  ·intro e;have:=t4 e;rcases hi with hi | hi
   ·exact ⟨hi,fun h=>this.2 ((M.q1 ch a b).2.subset h)⟩
   ·exact absurd ((M.q1 ch a b).2.subset hi) this.2
  ·intro e;have:=t5 e;rcases hi with hi | hi
   ·exact absurd ((M.q1 ch a b).1.subset hi) this.2
   ·exact ⟨hi,fun h=>this.2 ((M.q1 ch a b).1.subset h)⟩
  ·by_cases e:(S i).g=g
   ·rw [e,gg];exact M.qx ch i a b hi e (e ▸ t9)
   ·by_cases e2:(S i).g=p
    ·rw [e2,gp];exact M.qy ch i a b hi e2 (e2 ▸ t9)
    ·grind
 ·intro ch a b;exact ⟨(I.nd ch a b).1.sublist (M.q1 ch a b).1,(I.nd ch a b).2.sublist (M.q1 ch a b).2⟩
 ·intro h a b
  by_cases e:h=g
  ·subst e;rw [gg];exact M.wn
  ·have hp:=pt h e;rw [hp.place,hp.hold];intro c;obtain ⟨t1,t2,t3,t4,t5⟩:=I.cT h a b c;refine ⟨t1,t2,(hp.holds _).2 t3,?_,t5⟩;have:¬ bS (G g) (S (G h).hold).ch:=by
    rw [I.iW g M.g0 M.g1 _ t1 t2];rw [I.iW h a b _ t1 t2] at t3;omega
   rw [(M.q2 _ t1 t2 this).1,(M.q2 _ t1 t2 this).2];exact t4
 ·-- who is won by another one than g stays so
  have key:∀ k,0≤k→k < n→k≠g→dy (G k)→mq (iM G p y g x (S (G k).hold).g)∧Own (iM G p y g x (S (G k).hold).g) (G k).hold∧(SR (iM G p y g x (S (G k).hold).g)→(G k).hold∉(C' (S (G k).hold).ch).recv∧(G k).hold∉(C' (S (G k).hold).ch).send):=by
   intro k a b e c;obtain ⟨t1,t2,t3,t4,t5,t6,t7,t8,t9,t10,t11⟩:=I.cl k a b c;have sub:(G k).hold∉(C (S (G k).hold).ch).recv∧(G k).hold∉(C (S (G k).hold).ch).send→(G k).hold∉(C' (S (G k).hold).ch).recv∧(G k).hold∉(C' (S (G k).hold).ch).send :=
    fun h=>⟨fun h2=>h.1 ((M.q1 _ t1 t2).1.subset h2),fun h2=>h.2 ((M.q1 _ t1 t2).2.subset h2)⟩
   refine ⟨?_,(ow _ _).2 t9,?_⟩
   ·by_cases e1:(S (G k).hold).g=g
    ·rw [e1,gg];exact (M.cg k a b e c e1 (by rw [e1] at t7 t8 t10;exact ⟨t7,t8,t10⟩)).1
    ·by_cases e2:(S (G k).hold).g=p
     ·rw [e2,gp];exact (M.cp k a b e c e2 (by rw [e2] at t7 t8 t10;exact ⟨t7,t8,t10⟩)).1
     ·rw [gh e1 e2];exact ⟨t7,t8,t10⟩
   ·by_cases e1:(S (G k).hold).g=g
    ·rw [e1,gg];rw [e1] at t7 t8 t10 t11;exact fun h=>sub (t11 ((M.cg k a b e c e1 ⟨t7,t8,t10⟩).2 h))
    ·rw [(pt _ e1).sr];exact fun h=>sub (t11 h)
  intro h a b
  by_cases e:h=g
  ·subst e;rw [gg];intro c;obtain ⟨t1,t2,t3,t4,t5,t6,t7,t8,t9⟩:=M.cx c;rw [t4,gp];exact ⟨t1,t2,t3,t5,t6,M.pg,t7.1,t7.2.1,t8,t7.2.2,t9⟩
  ·have hp:=pt h e;rw [hp.place,hp.hold];intro c;obtain ⟨t1,t2,t3,t4,t5,t6,_⟩:=I.cl h a b c;obtain ⟨k1,k2,k3⟩:=key h a b e c;exact ⟨t1,t2,(hp.holds _).2 t3,t4,t5,t6,k1.1,k1.2.1,k2,k1.2.2,k3⟩
 ·have old:∀ h,h≠g→(iM G p y g x h).place=(G h).place∧(iM G p y g x h).hold=(G h).hold:=fun h e=>⟨(pt h e).place,(pt h e).hold⟩
  have one:∀ k,0≤k→k < n→k≠g→dy (G k)→dy x→(S x.hold).g≠(S (G k).hold).g:=by
   intro k a b e c cx e2;obtain ⟨t1,t2,t3,t4,t5,t6,t7,t8,t9⟩:=M.cx cx;rw [t4] at e2;obtain ⟨_,_,_,_,_,_,s7,s8,_,oP,_⟩:=I.cl k a b c;rw [← e2] at s7 s8 oP;exact (M.cp k a b e c e2.symm ⟨s7,s8,oP⟩).2 cx
  intro h k a b c d e f e3
  by_cases eh:h=g
  ·by_cases ek:k=g
   ·rw [eh,ek]
   ·rw [eh,gg] at e e3;rw [(old k ek).1] at f;rw [(old k ek).2] at e3;exact absurd e3 (one k c d ek f e)
  ·by_cases ek:k=g
   ·rw [ek,gg] at f e3;rw [(old h eh).1] at e;rw [(old h eh).2] at e3;exact absurd e3.symm (one h a b eh e f)
   ·rw [(old k ek).1] at f;rw [(old h eh).1] at e;rw [(old h eh).2,(old k ek).2] at e3;exact I.rE h k a b c d e f e3
 ·have wo:∀ h,h≠g→(iM G p y g x h).au=(G h).au:=fun h e=>(pt h e).au
  have wk:∀ h,0≤h→h < n→∀ q∈(G h).au,kR (G q):=fun h a b q hq=>(I.wk h a b q hq).2
  suffices H:∀ h,0≤h→h < n→∀ q∈(iM G p y g x h).au,q≠h∧kR (iM G p y g x q) from H
  intro h a b q hq
  by_cases e:h=g
  ·subst e;rw [gg] at hq;have yN:q≠h:=fun e=>M.QG (e ▸ hq)
   refine ⟨yN,?_⟩
   by_cases e2:q=p
   ·subst e2;rw [gp];exact M.wp hq
   ·rw [gh yN e2];rcases M.wx q hq with h1 | h1
    ·exact wk h a b q h1
    ·exact absurd h1.1 e2
  ·rw [wo h e] at hq;have w0:=wk h a b q hq;refine ⟨(I.wk h a b q hq).1,?_⟩
   by_cases e1:q=g
   ·subst e1;rw [gg];exact M.wg w0 ⟨h,a,b,e,hq⟩
   ·by_cases e2:q=p
    ·subst e2;rw [gp];exact M.QH h a b e hq w0
    ·grind
 ·have wo:∀ h,h≠g→(iM G p y g x h).au=(G h).au:=fun h e=>(pt h e).au
  have one:∀ k q,0≤k→k < n→k≠g→q∈x.au→q∈(G k).au→False:=by
   intro k q a b e h1 h2;rcases M.wx q h1 with h3 | h3
   ·exact e (I.qc k g q a b M.g0 M.g1 h2 h3)
   ·grind
  intro h k q a b c d e f
  by_cases eh:h=g
  ·grind
  ·by_cases ek:k=g
   ·grind
   ·rw [wo h eh] at e;rw [wo k ek] at f;exact I.qc h k q a b c d e f
 ·intro i a b;have:=I.su i a b;exact ⟨this.1,this.2.1,this.2.2.1,fun h=>(ow _ _).2 (this.2.2.2 h)⟩
 ·intro i a b;exact (ow _ _).2 (I.lv i a b)
end
end Sx
namespace Sx
section
variable {n nc ns:Int} {G:Int→Gr} {C:Int→Cn} {S:Int→Su} {P:Int→Prop}
theorem Match.sH {x:Gr} {i:Int} {d e:Su} (h:Match x i d) (h1:e.cs=d.cs) (h2:e.ch=d.ch) (h3:e.send=d.send):Match x i e:=by
 unfold Match at *;rw [h1,h2,h3];exact h
theorem Inv.QJ (I:Inv n nc ns G C S P) {S':Int→Su} (h:∀ i,(S' i).g=(S i).g∧(S' i).ch=(S i).ch∧(S' i).cs=(S i).cs∧(S' i).send=(S i).send∧(S' i).live=(S i).live):Inv n nc ns G C S' P:=by
 constructor
 ·exact I.loc
 ·exact I.jV
 ·exact I.iW
 ·exact I.cap
 ·intro g a b i hi;obtain ⟨t1,t2,t3,t4⟩:=I.own g a b i hi;exact ⟨t1,t2.sH (h i).2.2.1 (h i).2.1 (h i).2.2.2.1,by rw [(h i).1];exact t3,t4⟩
 ·intro ch a b i hi;rw [(h i).1,(h i).2.1,(h i).2.2.1,(h i).2.2.2.1];exact I.q ch a b i hi
 ·exact I.nd
 ·intro k a b;rw [(h _).2.1,(h _).2.2.1];exact I.cT k a b
 ·intro k a b;rw [(h _).1,(h _).2.1];exact I.cl k a b
 ·intro k l a b c d;rw [(h _).1,(h _).1];exact I.rE k l a b c d
 ·exact I.wk
 ·exact I.qc
 ·intro i a b;rw [(h i).1,(h i).2.2.1,(h i).2.2.2.2];exact I.su i a b
 ·intro i a b;rw [(h i).1];exact I.lv i a b
theorem Inv.yC (I:Inv n nc ns G C S P) {ch i:Int} (a:1≤ch) (b:ch≤nc) (h:i∈(C ch).recv∨i∈(C ch).send):P i:=by
 obtain ⟨_,_,_,_,_,t6,t7,t8,_⟩:=I.q ch a b i h;exact (I.own _ t6 t7 i t8).2.2.2
theorem Inv.QK (I:Inv n nc ns G C S P) {h:Int} (a:0≤h) (b:h < n) (c:cR (G h)):P (G h).hold:=by
 obtain ⟨t1,t2,_,t4,_⟩:=I.cT h a b c;exact I.yC t1 t2 t4
theorem Inv.Et (I:Inv n nc ns G C S P) {h:Int} (a:0≤h) (b:h < n) (c:dy (G h)):P (G h).hold:=by
 obtain ⟨_,_,_,t4,t5,_,_,_,t9,_⟩:=I.cl h a b c;exact (I.own _ t4 t5 _ t9).2.2.2
theorem Inv.take (I:Inv n nc ns G C S P) {g i:Int} {x:Gr} {d:Su} (g0:0≤g) (g1:g < n) (i0:0≤i) (i1:i < ns) (hP:¬ P i) (lx:Loc nc ns n x) (hh:∀ ch,bS x ch↔bS (G g) ch)
  (ow:∀ j,Own x j↔Own (G g) j∨j=i) (mt:∀ j,Own (G g) j→Match x j (S j)) (md:Match x i d) (dg:d.g=g) (nq:∀ j k,¬ eH (G g) j k) (nw:¬ cR x) (oQ:¬ dy x) (wk:x.au=(G g).au) (wt:¬ Wt (G g)) :
  Inv n nc ns (up G g x) C (up S i d) (fun j=>P j∨j=i):=by
 have gg:=iD G g x;have gh:∀ {h},h≠g→up G g x h=G h:=fun a=>jd G x a
 have ss:=iD S i d;have sh:∀ {h},h≠i→up S i d h=S h:=fun a=>jd S d a
 have QL:∀ h,0≤h→h < n→¬ Own (G h) i:=fun h a b ho=>hP (I.own h a b i ho).2.2.2
 have yP:∀ h,0≤h→h < n→∀ j,Own (G h) j→Own (up G g x h) j:=by grind
 constructor
 ·intro h a b
  by_cases e:h=g
  ·grind
  ·rw [gh e];exact I.loc h a b
 ·exact I.jV
 ·intro h a b ch c1 c2
  by_cases e:h=g
  ·subst e;rw [gg,hh];exact I.iW h a b ch c1 c2
  ·rw [gh e];exact I.iW h a b ch c1 c2
 ·exact I.cap
 ·intro h a b j hj
  by_cases e:h=g
  ·subst e;rw [gg] at hj ⊢
   by_cases e2:j=i
   ·grind
   ·have rB:=((ow j).1 hj).resolve_right e2;rw [sh e2];obtain ⟨t1,t2,t3,t4⟩:=I.own h a b j rB;exact ⟨t1,mt j rB,t3,.inl t4⟩
  ·rw [gh e] at hj ⊢;have e2:j≠i:=fun e2=>QL h a b (e2 ▸ hj)
   rw [sh e2];obtain ⟨t1,t2,t3,t4⟩:=I.own h a b j hj;exact ⟨t1,t2,t3,.inl t4⟩
 ·intro ch a b j hj;have e2:j≠i:=fun e2=>hP (I.yC a b (e2 ▸ hj))
  rw [sh e2];obtain ⟨t1,t2,t3,t4,t5,t6,t7,t8,t9⟩:=I.q ch a b j hj;have e:(S j).g≠g:=fun e=>nq _ _ (e ▸ t9)
  rw [gh e];exact ⟨t1,t2,t3,t4,t5,t6,t7,t8,t9⟩
 ·exact I.nd
 ·intro h a b
  by_cases e:h=g
  ·subst e;rw [gg];exact fun c=>absurd c nw
  ·rw [gh e];intro c;rw [sh (fun e2=>hP (e2 ▸ I.QK a b c))];exact I.cT h a b c
 ·intro h a b
  by_cases e:h=g
  ·subst e;rw [gg];exact fun c=>absurd c oQ
  ·rw [gh e];intro c;rw [sh (fun e2=>hP (e2 ▸ I.Et a b c))];have:=I.cl h a b c;have e3:(S (G h).hold).g≠g:=fun e3=>wt (e3 ▸ this.2.2.2.2.2.2.1)
   rw [gh e3];exact this
 ·intro h k a b c d' e f
  by_cases eh:h=g
  ·subst eh;rw [gg] at e;exact absurd e oQ
  ·by_cases ek:k=g
   ·subst ek;rw [gg] at f;exact absurd f oQ
   ·rw [gh eh] at e ⊢;rw [gh ek] at f ⊢;rw [sh (fun e2=>hP (e2 ▸ I.Et a b e)),sh (fun e2=>hP (e2 ▸ I.Et c d' f))];exact I.rE h k a b c d' e f
 ·have wo:∀ h,(up G g x h).au=(G h).au:=by
   intro h;by_cases e:h=g
   ·subst e;rw [gg,wk]
   ·rw [gh e]
  intro h a b p hp;rw [wo] at hp;have:=I.wk h a b p hp;rw [gh (fun e=>wt (e ▸ this.2.1))];exact this
 ·have wo:∀ h,(up G g x h).au=(G h).au:=by
   intro h;by_cases e:h=g
   ·subst e;rw [gg,wk]
   ·rw [gh e]
  intro h k p a b c d e f;rw [wo] at e f;exact I.qc h k p a b c d e f
 ·intro j a b
  by_cases e:j=i
  ·subst e;rw [ss,dg,gg];refine ⟨g0,g1,?_,fun _=>(ow j).2 (.inr rfl)⟩;rcases md with md | md
   ·omega
   ·omega
  ·rw [sh e];obtain ⟨t1,t2,t3,t4⟩:=I.su j a b;exact ⟨t1,t2,t3,fun hl=>yP _ t1 t2 _ (t4 hl)⟩
 ·intro j hj b
  by_cases e:j=i
  ·grind
  ·rw [sh e];have rB:=hj.resolve_right e;exact yP _ (I.su j b.1 b.2).1 (I.su j b.1 b.2).2.1 _ (I.lv j rB b)
theorem Inv.cz (I:Inv n nc ns G C S P) {g i:Int} {x:Gr} (g0:0≤g) (g1:g < n) (hi:Own (G g) i) (lx:Loc nc ns n x) (hh:∀ ch,bS x ch↔bS (G g) ch)
  (ow:∀ j,Own x j↔Own (G g) j∧j≠i) (mt:∀ j,Own x j→Match x j (S j)) (nq:∀ j k,¬ eH (G g) j k) (nw:¬ cR x) (oQ:¬ dy x) (wk:x.au=(G g).au) (wt:¬ Wt (G g)) :
  Inv n nc ns (up G g x) C (up S i fB) (fun j=>P j∧j≠i):=by
 have gg:=iD G g x;have gh:∀ {h},h≠g→up G g x h=G h:=fun a=>jd G x a
 have ss:=iD S i fB;have sh:∀ {h},h≠i→up S i fB h=S h:=fun a=>jd S fB a
 have sig:=(I.own g g0 g1 i hi).2.2.1;have yQ:∀ ch,1≤ch→ch≤nc→¬ (i∈(C ch).recv∨i∈(C ch).send):=by
  intro ch a b h;have:=(I.q ch a b i h).2.2.2.2.2.2.2.2;rw [sig] at this;exact nq _ _ this
 have QM:∀ h,0≤h→h < n→cR (G h)→(G h).hold≠i:=by
  intro h a b c e;obtain ⟨t1,t2,_,t4,_⟩:=I.cT h a b c;exact yQ _ t1 t2 (e ▸ t4)
 have Eu:∀ h,0≤h→h < n→dy (G h)→(G h).hold≠i:=by
  intro h a b c e;obtain ⟨_,_,_,_,_,_,t7,_⟩:=I.cl h a b c;rw [e,sig] at t7;exact wt t7
 have yP:∀ h,∀ j,j≠i→Own (G h) j→Own (up G g x h) j:=by grind
 constructor
 ·intro h a b
  by_cases e:h=g
  ·grind
  ·rw [gh e];exact I.loc h a b
 ·exact I.jV
 ·intro h a b ch c1 c2
  by_cases e:h=g
  ·subst e;rw [gg,hh];exact I.iW h a b ch c1 c2
  ·rw [gh e];exact I.iW h a b ch c1 c2
 ·exact I.cap
 ·intro h a b j hj;have e2:j≠i:=by
   intro e2;subst e2
   by_cases e:h=g
   ·grind
   ·rw [gh e] at hj;exact e ((I.own h a b j hj).2.2.1.symm.trans sig)
  rw [sh e2]
  by_cases e:h=g
  ·subst e;rw [gg] at hj ⊢;obtain ⟨t1,t2,t3,t4⟩:=I.own h a b j ((ow j).1 hj).1;exact ⟨t1,mt j hj,t3,t4,e2⟩
  ·rw [gh e] at hj ⊢;obtain ⟨t1,t2,t3,t4⟩:=I.own h a b j hj;exact ⟨t1,t2,t3,t4,e2⟩
 ·intro ch a b j hj;have e2:j≠i:=fun e2=>yQ ch a b (e2 ▸ hj)
  rw [sh e2];obtain ⟨t1,t2,t3,t4,t5,t6,t7,t8,t9⟩:=I.q ch a b j hj;have e:(S j).g≠g:=fun e=>nq _ _ (e ▸ t9)
  rw [gh e];exact ⟨t1,t2,t3,t4,t5,t6,t7,t8,t9⟩
 ·exact I.nd
 ·intro h a b
  by_cases e:h=g
  ·subst e;rw [gg];exact fun c=>absurd c nw
  ·rw [gh e];intro c;rw [sh (QM h a b c)];exact I.cT h a b c
 ·intro h a b
  by_cases e:h=g
  ·subst e;rw [gg];exact fun c=>absurd c oQ
  ·rw [gh e];intro c;rw [sh (Eu h a b c)];have:=I.cl h a b c;have e3:(S (G h).hold).g≠g:=fun e3=>wt (e3 ▸ this.2.2.2.2.2.2.1)
   rw [gh e3];exact this
 ·intro h k a b c d' e f
  by_cases eh:h=g
  ·subst eh;rw [gg] at e;exact absurd e oQ
  ·by_cases ek:k=g
   ·subst ek;rw [gg] at f;exact absurd f oQ
   ·rw [gh eh] at e ⊢;rw [gh ek] at f ⊢;rw [sh (Eu h a b e),sh (Eu k c d' f)];exact I.rE h k a b c d' e f
 ·have wo:∀ h,(up G g x h).au=(G h).au:=by
   intro h;by_cases e:h=g
   ·subst e;rw [gg,wk]
   ·rw [gh e]
  intro h a b p hp;rw [wo] at hp;have:=I.wk h a b p hp;rw [gh (fun e=>wt (e ▸ this.2.1))];exact this
 ·have wo:∀ h,(up G g x h).au=(G h).au:=by
   intro h;by_cases e:h=g
   ·subst e;rw [gg,wk]
   ·rw [gh e]
  intro h k p a b c d e f;rw [wo] at e f;exact I.qc h k p a b c d e f
 ·intro j a b
  by_cases e:j=i
  ·subst e;rw [ss];exact ⟨by simp [fB],by simp only [fB];omega,by simp [fB],by simp [fB]⟩
  ·rw [sh e];obtain ⟨t1,t2,t3,t4⟩:=I.su j a b;exact ⟨t1,t2,t3,fun hl=>yP _ _ e (t4 hl)⟩
 ·intro j hj b;rw [sh hj.2];exact yP _ _ hj.2 (I.lv j hj.1 b)
theorem Inv.push (I:Inv n nc ns G C S P) {g i:Int} {x:Gr} {c:Int} {c':Cn} (g0:0≤g) (g1:g < n) (hi:Own (G g) i) (c0:1≤c) (c1:c≤nc) (sc:(S i).ch=c) (lx:Loc nc ns n x) (hh:∀ ch,bS x ch↔bS (G g) ch)
  (ow:∀ j,Own x j↔Own (G g) j) (mt:∀ j,Own x j→Match x j (S j)) (nq:¬ eH (G g) i (S i).cs) (qx:∀ j k,eH (G g) j k→eH x j k) (qi:eH x i (S i).cs) (nw:¬ cR x) (oQ:¬ dy x) (wk:x.au=(G g).au) (wt:¬ Wt (G g))
  (e1:c'.lock=(C c).lock) (e2:c'.cap=(C c).cap) (e3:c'.buf=(C c).buf) (er:c'.recv=if (S i).send=true then (C c).recv else (C c).recv ++ [i]) (es:c'.send=if (S i).send=true then (C c).send ++ [i] else (C c).send) :
  Inv n nc ns (up G g x) (up C c c') S P:=by
 have gg:=iD G g x;have gh:∀ {h},h≠g→up G g x h=G h:=fun a=>jd G x a
 have cc:=iD C c c';have IU:∀ {h},h≠c→up C c c' h=C h:=fun a=>jd C c' a
 obtain ⟨eJ,dM,sig,XK⟩:=I.own g g0 g1 i hi;have yQ:¬ (i∈(C c).recv∨i∈(C c).send):=by
  intro h;have:=(I.q c c0 c1 i h).2.2.2.2.2.2.2.2;rw [sig] at this;exact nq this
 have A8:∀ h j,Own (up G g x h) j↔Own (G h) j:=by grind
 have lock:∀ ch,(up C c c' ch).lock=(C ch).lock:=by grind
 have IV:∀ ch j,j∈(up C c c' ch).recv∨j∈(up C c c' ch).send→(j∈(C ch).recv∨j∈(C ch).send)∨j=i∧ch=c:=by grind
 have IW:∀ ch j,j≠i→(j∈(up C c c' ch).recv↔j∈(C ch).recv)∧(j∈(up C c c' ch).send↔j∈(C ch).send):=by grind
 have IX:∀ ch j,(j∈(C ch).recv→j∈(up C c c' ch).recv)∧(j∈(C ch).send→j∈(up C c c' ch).send):=by grind
 constructor
 ·intro h a b
  by_cases e:h=g
  ·grind
  ·rw [gh e];exact I.loc h a b
 ·intro ch a b;rw [lock];exact I.jV ch a b
 ·intro h a b ch c1 c2;rw [lock]
  by_cases e:h=g
  ·subst e;rw [gg,hh];exact I.iW h a b ch c1 c2
  ·rw [gh e];exact I.iW h a b ch c1 c2
 ·intro ch a b
  by_cases e:ch=c
  ·subst e;rw [cc,e2,e3];exact I.cap ch a b
  ·rw [IU e];exact I.cap ch a b
 ·intro h a b j hj;rw [A8] at hj;obtain ⟨t1,t2,t3,t4⟩:=I.own h a b j hj;refine ⟨t1,?_,t3,t4⟩
  by_cases e:h=g
  ·grind
  ·rw [gh e];exact t2
 ·intro ch a b j hj
  by_cases ej:j=i
  ·subst ej;have hc:ch=c:=by
    rcases IV ch j hj with h | h
    ·exact (I.q ch a b j h).2.2.1.symm.trans sc
    ·exact h.2
   subst hc;rw [sig,gg,cc,er,es];refine ⟨hi.1,eJ,sc,?_,?_,g0,g1,(ow j).2 hi,qi⟩
   ·grind
   ·grind
  ·rcases IV ch j hj with h | h
   ·obtain ⟨t1,t2,t3,t4,t5,t6,t7,t8,t9⟩:=I.q ch a b j h;have mr:=IW ch j ej;refine ⟨t1,t2,t3,?_,?_,t6,t7,(A8 _ _).2 t8,?_⟩
    ·grind
    ·grind
    ·grind
   ·exact absurd h.1 ej
 ·intro ch a b
  by_cases e:ch=c
  ·subst e;rw [cc,er,es];have:=I.nd ch a b;have n1:i∉(C ch).recv:=fun h=>yQ (.inl h)
   have n2:i∉(C ch).send:=fun h=>yQ (.inr h)
   split
   ·grind
   ·grind
  ·rw [IU e];exact I.nd ch a b
 ·intro h a b
  by_cases e:h=g
  ·subst e;rw [gg];exact fun c=>absurd c nw
  ·rw [gh e];intro cw;obtain ⟨t1,t2,t3,t4,t5⟩:=I.cT h a b cw;exact ⟨t1,t2,t3,t4.imp (IX _ _).1 (IX _ _).2,t5⟩
 ·intro h a b
  by_cases e:h=g
  ·subst e;rw [gg];exact fun c=>absurd c oQ
  ·rw [gh e];intro cw;have:=I.cl h a b cw;have e3:(S (G h).hold).g≠g:=fun e3=>wt (e3 ▸ this.2.2.2.2.2.2.1)
   rw [gh e3];obtain ⟨t1,t2,t3,t4,t5,t6,t7,t8,t9,t10,t11⟩:=this;refine ⟨t1,t2,t3,t4,t5,t6,t7,t8,t9,t10,fun hs=>?_⟩;have ne:(G h).hold≠i:=fun e4=>e3 (by rw [e4];exact sig)
   have mr:=IW (S (G h).hold).ch (G h).hold ne;rw [mr.1,mr.2];exact t11 hs
 ·intro h k a b c d' e f
  by_cases eh:h=g
  ·subst eh;rw [gg] at e;exact absurd e oQ
  ·by_cases ek:k=g
   ·subst ek;rw [gg] at f;exact absurd f oQ
   ·rw [gh eh] at e ⊢;rw [gh ek] at f ⊢;exact I.rE h k a b c d' e f
 ·have wo:∀ h,(up G g x h).au=(G h).au:=by
   intro h;by_cases e:h=g
   ·subst e;rw [gg,wk]
   ·rw [gh e]
  intro h a b p hp;rw [wo] at hp;have:=I.wk h a b p hp;rw [gh (fun e=>wt (e ▸ this.2.1))];exact this
 ·have wo:∀ h,(up G g x h).au=(G h).au:=by
   intro h;by_cases e:h=g
   ·subst e;rw [gg,wk]
   ·rw [gh e]
  intro h k p a b c d e f;rw [wo] at e f;exact I.qc h k p a b c d e f
 ·intro j a b;obtain ⟨t1,t2,t3,t4⟩:=I.su j a b;exact ⟨t1,t2,t3,fun hl=>(A8 _ _).2 (t4 hl)⟩
 ·intro j hj b;exact (A8 _ _).2 (I.lv j hj b)
theorem Loc.mono {x:Gr} (h:Loc nc ns n x) (e:nc≤nc + 1):Loc (nc + 1) ns n x:=by
 obtain ⟨a1,a2,a3,a4,a5,a6,a7,a8,a9,lM,nj,nV,oR,oS,oT,nW,rF,rG,qd,rH,rI,oU⟩:=h;refine ⟨a1,a2,a3,a4,a5,fun h1 h2 h3 h4 h5=>⟨(a6 h1 h2 h3 h4 h5).1,by have:=(a6 h1 h2 h3 h4 h5).2;omega⟩,a7,a8,a9,lM,nj,nV,oR,oS,oT,nW,rF,rG,qd,rH,rI,fun h1 h2=>?_⟩;obtain ⟨b1,b2,b3,b4,b5,b6,b7,b8,b9,mu,sJ,sK,nk,yR,yS,vZ,yT,we,wh,yU⟩:=oU h1 h2;exact ⟨b1,b2,b3,fun c hc=>⟨(b4 c hc).1,by have:=(b4 c hc).2;omega⟩,b5,b6,b7,b8,b9,mu,sJ,sK,nk,yR,yS,vZ,yT,we,wh,yU⟩
end
end Sx
namespace Sx
section
variable {n nc ns:Int} {G:Int→Gr} {C:Int→Cn} {S:Int→Su} {P:Int→Prop}
theorem Inv.sH (I:Inv n nc ns G C S P) {G':Int→Gr} {C':Int→Cn} {S':Int→Su} {P':Int→Prop} (hG:∀ g,0≤g→g < n→G' g=G g) (hC:∀ c,1≤c→c≤nc→C' c=C c) (hS:∀ i,0≤i→i < ns→S' i=S i) (hP:∀ i,0≤i→i < ns→(P' i↔P i)):Inv n nc ns G' C' S' P':=by
 have hd:∀ h,0≤h→h < n→cR (G h)∨dy (G h)→S' (G h).hold=S (G h).hold:=by
  intro h a b c;have:=(I.loc h a b).hd (by unfold cR dy at c;omega);exact hS _ this.1 this.2
 constructor
 ·intro h a b;rw [hG h a b];exact I.loc h a b
 ·intro ch a b;rw [hC ch a b];exact I.jV ch a b
 ·intro h a b ch c d;rw [hG h a b,hC ch c d];exact I.iW h a b ch c d
 ·intro ch a b;rw [hC ch a b];exact I.cap ch a b
 ·intro h a b i;rw [hG h a b];intro hi;obtain ⟨t1,t2,t3,t4⟩:=I.own h a b i hi;rw [hS i hi.1 t1];exact ⟨t1,t2,t3,(hP i hi.1 t1).2 t4⟩
 ·intro ch a b i;rw [hC ch a b];intro hi;obtain ⟨t1,t2,t3,t4,t5,t6,t7,t8,t9⟩:=I.q ch a b i hi;rw [hS i t1 t2,hG _ t6 t7];exact ⟨t1,t2,t3,t4,t5,t6,t7,t8,t9⟩
 ·intro ch a b;rw [hC ch a b];exact I.nd ch a b
 ·intro h a b;rw [hG h a b];intro c;obtain ⟨t1,t2,t3,t4,t5⟩:=I.cT h a b c;rw [hd h a b (.inl c),hC _ t1 t2];exact ⟨t1,t2,t3,t4,t5⟩
 ·intro h a b;rw [hG h a b];intro c;obtain ⟨t1,t2,t3,t4,t5,t6⟩:=I.cl h a b c;rw [hd h a b (.inr c),hC _ t1 t2,hG _ t4 t5];exact ⟨t1,t2,t3,t4,t5,t6⟩
 ·intro h k a b c d;rw [hG h a b,hG k c d];intro e f;rw [hd h a b (.inr e),hd k c d (.inr f)];exact I.rE h k a b c d e f
 ·intro h a b;rw [hG h a b];intro p hp;have:=(I.loc h a b).w3 p hp;rw [hG p this.1 this.2];exact I.wk h a b p hp
 ·intro h k p a b c d;rw [hG h a b,hG k c d];exact I.qc h k p a b c d
 ·intro i a b;obtain ⟨t1,t2,t3,t4⟩:=I.su i a b;rw [hS i a b,hG _ t1 t2];exact ⟨t1,t2,t3,t4⟩
 ·intro i hi b;have:=I.lv i ((hP i b.1 b.2).1 hi) b;rw [hS i b.1 b.2,hG _ (I.su i b.1 b.2).1 (I.su i b.1 b.2).2.1];exact this
theorem Inv.self (I:Inv n nc ns G C S P) {g:Int} {x:Gr} (g0:0≤g) (g1:g < n) (lx:Loc nc ns n x) (hh:∀ ch,bS x ch↔bS (G g) ch) (ow:∀ i,Own x i↔Own (G g) i) (mt:∀ i d,Own x i→Match (G g) i d→Match x i d)
  (qx:∀ i j,eH (G g) i j→eH x i j) (wn:cR x→1≤(S x.hold).ch∧(S x.hold).ch≤nc∧bS x (S x.hold).ch∧(x.hold∈(C (S x.hold).ch).recv∨x.hold∈(C (S x.hold).ch).send)∧0≤(S x.hold).cs)
  (gH:¬ dy x) (wx:∀ q∈x.au,q∈(G g).au) (wg:kR (G g)→kR x) (cg:mq (G g)→mq x∧(SR x→SR (G g))):Inv n nc ns (up G g x) C S P:=by
 have M:Move n nc ns G C S g n x (G n) C:=by
  refine ⟨g0,g1,by omega,lx,fun _ h=>by omega,Part.refl _,I.jV,fun ch a b=>by rw [hh];exact I.iW g g0 g1 ch a b,fun _ _ _ _ _ _ _=>Iff.rfl,I.cap,ow,fun i hi=>mt i _ hi (I.own g g0 g1 i ((ow i).1 hi)).2.1,fun _ _ _=>⟨List.Sublist.refl _,List.Sublist.refl _⟩,fun _ _ _ _=>⟨rfl,rfl⟩,fun _ _ _ _ _ _=>qx _ _,fun _ _ _ _ _ _=>id,wn,fun h=>absurd h gH,fun _ _ _ _ _ _=>cg,fun k a b _ c e=>?_,fun q hq=>.inl (wx q hq),fun h _=>wg h,fun h=>(I.wk g g0 g1 g (wx g h)).1 rfl,fun h=>?_,fun k a b _ hk=>?_⟩
  ·grind
  ·have:=(I.loc g g0 g1).w3 n (wx n h);omega
  ·grind
 refine (I.move M).sH (fun h a b=>?_) (fun _ _ _=>rfl) (fun _ _ _=>rfl) (fun _ _ _=>Iff.rfl)
 by_cases e:h=g
 ·subst e;rw [iD,Er]
 ·rw [jd _ _ e,Es _ _ _ e (by omega)]
end
def gA (s:ah) (g:Int):Gr:=aa s g.toNat
def V (s:ah):Prop:=Inv s.gs.length s.av.length s.aA.length (gA s) (cn s) (su s) (fun i=>gM s i=true)
end Sx
namespace Sx
section
variable {n nc ns:Int} {G:Int→Gr} {C:Int→Cn} {S:Int→Su} {P:Int→Prop}
structure jI (n:Int) (C:Int→Cn) (g:Int) (x0 x:Gr) (c:Int) (c':Cn):Prop where
 lock:c'.lock=(C c).lock∧(∀ ch,bS x ch↔bS x0 ch)∨(C c).lock=-1∧c'.lock=g∧(∀ ch,bS x ch↔bS x0 ch∨ch=c)∨bS x0 c∧c'.lock=-1∧(∀ ch,bS x ch↔bS x0 ch∧ch≠c)
 cap:0≤c'.cap∧c'.cap≤4∧(c'.buf.length:Int)≤c'.cap
 sub:c'.recv.Sublist (C c).recv∧c'.send.Sublist (C c).send
 hq:c'.recv=(C c).recv∧c'.send=(C c).send∨bS x0 c
theorem jI.jV (I:Inv n nc ns G C S P) {g:Int} (g0:0≤g) (g1:g < n) {x:Gr} {c:Int} {c':Cn} (h:jI n C g (G g) x c c') (ch:Int) (a:1≤ch) (b:ch≤nc):(up C c c' ch).lock=-1∨0≤(up C c c' ch).lock∧(up C c c' ch).lock < n:=by
 by_cases e:ch=c
 ·subst e;rw [iD];rcases h.lock with l | l | l
  ·rw [l.1];exact I.jV ch a b
  ·rw [l.2.1];omega
  ·exact .inl l.2.1
 ·rw [jd _ _ e];exact I.jV ch a b
theorem jI.yL (I:Inv n nc ns G C S P) {g:Int} (g0:0≤g) (g1:g < n) {x:Gr} {c:Int} {c':Cn} (h:jI n C g (G g) x c c') (ch:Int) (a:1≤ch) (b:ch≤nc):bS x ch↔(up C c c' ch).lock=g:=by
 have:=I.iW g g0 g1 ch a b
 by_cases e:ch=c
 ·subst e;rw [iD];rcases h.lock with l | l | l
  ·grind
  ·grind
  ·grind
 ·rw [jd _ _ e,← this];rcases h.lock with l | l | l
  ·rw [l.2]
  ·rw [l.2.2];simp [e]
  ·rw [l.2.2];simp [e]
theorem jI.yM (I:Inv n nc ns G C S P) {g:Int} (g0:0≤g) (g1:g < n) {x:Gr} {c:Int} {c':Cn} (h:jI n C g (G g) x c c') (ch k:Int) (a:1≤ch) (b:ch≤nc) (k0:0≤k) (k1:k < n) (kg:k≠g):(up C c c' ch).lock=k↔(C ch).lock=k:=by
 by_cases e:ch=c
 ·subst e;rw [iD];rcases h.lock with l | l | l
  ·rw [l.1]
  ·omega
  ·have:=(I.iW g g0 g1 ch a b).1 l.1;rw [l.2.1,this];omega
 ·rw [jd _ _ e]
theorem jI.Ev (I:Inv n nc ns G C S P) {g:Int} {x:Gr} {c:Int} {c':Cn} (h:jI n C g (G g) x c c') (ch:Int) (a:1≤ch) (b:ch≤nc):0≤(up C c c' ch).cap∧(up C c c' ch).cap≤4∧((up C c c' ch).buf.length:Int)≤(up C c c' ch).cap:=by
 by_cases e:ch=c
 ·subst e;rw [iD];exact h.cap
 ·rw [jd _ _ e];exact I.cap ch a b
theorem jI.q1 {g:Int} {x0 x:Gr} {c:Int} {c':Cn} (h:jI n C g x0 x c c') (ch:Int):(up C c c' ch).recv.Sublist (C ch).recv∧(up C c c' ch).send.Sublist (C ch).send:=by
 by_cases e:ch=c
 ·subst e;rw [iD];exact h.sub
 ·rw [jd _ _ e];exact ⟨List.Sublist.refl _,List.Sublist.refl _⟩
theorem jI.q2 {g:Int} {x0 x:Gr} {c:Int} {c':Cn} (h:jI n C g x0 x c c') (ch:Int) (hn:¬ bS x0 ch):(up C c c' ch).recv=(C ch).recv∧(up C c c' ch).send=(C ch).send:=by
 by_cases e:ch=c
 ·subst e;rw [iD];exact h.hq.resolve_right hn
 ·rw [jd _ _ e];exact ⟨rfl,rfl⟩
theorem Inv.chan (I:Inv n nc ns G C S P) {g:Int} {x:Gr} {c:Int} {c':Cn} (g0:0≤g) (g1:g < n) (lx:Loc nc ns n x) (hc:jI n C g (G g) x c c') (ow:∀ i,Own x i↔Own (G g) i) (mt:∀ i d,Own x i→Match (G g) i d→Match x i d)
  (qx:∀ i j,eH (G g) i j→(∀ ch,1≤ch→ch≤nc→i∈(up C c c' ch).recv∨i∈(up C c c' ch).send→eH x i j)) (nw:¬ cR x)
  (gH:¬ dy x) (wx:∀ q∈x.au,q∈(G g).au) (wg:kR (G g)→kR x) (cg:mq (G g)→mq x∧(SR x→SR (G g))):Inv n nc ns (up G g x) (up C c c') S P:=by
 have M:Move n nc ns G C S g n x (G n) (up C c c'):=by
  refine ⟨g0,g1,by omega,lx,fun _ h=>by omega,Part.refl _,hc.jV I g0 g1,hc.yL I g0 g1,hc.yM I g0 g1,hc.Ev I,ow,fun i hi=>mt i _ hi (I.own g g0 g1 i ((ow i).1 hi)).2.1,fun ch _ _=>hc.q1 ch,fun ch _ _=>hc.q2 ch,fun ch i a b hi _ hq=>qx _ _ hq ch a b hi,fun _ _ _ _ _ _=>id,fun h=>absurd h nw,fun h=>absurd h gH,fun _ _ _ _ _ _=>cg,fun k a b _ c e=>?_,fun q hq=>.inl (wx q hq),fun h _=>wg h,fun h=>(I.wk g g0 g1 g (wx g h)).1 rfl,fun h=>?_,fun k a b _ hk=>?_⟩
  ·grind
  ·have:=(I.loc g g0 g1).w3 n (wx n h);omega
  ·grind
 refine (I.move M).sH (fun h a b=>?_) (fun _ _ _=>rfl) (fun _ _ _=>rfl) (fun _ _ _=>Iff.rfl)
 by_cases e:h=g
 ·subst e;rw [iD,Er]
 ·rw [jd _ _ e,Es _ _ _ e (by omega)]
theorem Inv.A9 (I:Inv n nc ns G C S P) {ch i:Int} (a:1≤ch) (b:ch≤nc) (h:i∈(C ch).recv∨i∈(C ch).send):0≤i∧i < ns∧(S i).ch=ch∧0≤(S i).g∧(S i).g < n∧Own (G (S i).g) i∧eH (G (S i).g) i (S i).cs∧Match (G (S i).g) i (S i):=by
 obtain ⟨t1,t2,t3,t4,t5,t6,t7,t8,t9⟩:=I.q ch a b i h;exact ⟨t1,t2,t3,t6,t7,t8,t9,(I.own _ t6 t7 i t8).2.1⟩
theorem eH.mw {x:Gr} {i j:Int} (h:eH x i j) (hs:SE x) (o1:∀ i∈x.order,cr x i∈x.aB) (hj:j∈x.order) (hn:¬ bS x (cr x j)):Wt x∨x.place=31:=by
 rcases h with h | h
 ·grind [Wt,SE,SR]
 ·obtain ⟨_,_,_,_,h⟩:=h;have hl:=o1 j hj;rcases h with h | h | h | h | h | h
  ·exact absurd (.inr ⟨hs,.inl ⟨by omega,hl⟩⟩) hn
  ·exact .inl (.inr ⟨hs,.inl h⟩)
  ·exact .inl (.inr ⟨hs,.inr (.inl h)⟩)
  ·exact .inr h
  ·exact .inl (.inr ⟨hs,.inr (.inr h)⟩)
  ·exact absurd (.inr ⟨hs,.inl ⟨by omega,hl⟩⟩) hn
theorem Inv.IY (I:Inv n nc ns G C S P) {ch i g:Int} (a:1≤ch) (b:ch≤nc) (h:i∈(C ch).recv∨i∈(C ch).send) (g0:0≤g) (g1:g < n) (hh:bS (G g) ch) (bV:(S i).g≠g) :
  Wt (G (S i).g)∨SE (G (S i).g)∧(G (S i).g).place=31∧(G (S i).g).bG=true:=by
 obtain ⟨t1,t2,t3,t4,t5,t6,t7,t8⟩:=I.A9 a b h;have L:=I.loc _ t4 t5
 by_cases hs:SE (G (S i).g)
 ·rcases t8 with m | m
  ·exact absurd hs (by have:=m.1;unfold SR at this;unfold SE;omega)
  ·obtain ⟨_,m1,m2,m3,m4,m5,m6,_⟩:=m;have sp:c9 (G (S i).g).place:=by
    rcases t7 with q | q
    ·exact absurd hs (by have:=q.1;unfold SR at this;unfold SE;omega)
    ·unfold c9;omega
   have L2:=L.se hs sp;have nh:¬ bS (G (S i).g) (cr (G (S i).g) (S i).cs):=by
    intro hq;rw [← m4,t3,I.iW _ t4 t5 ch a b] at hq;rw [I.iW _ g0 g1 ch a b,hq] at hh;exact bV hh
   rcases t7.mw hs (fun i hi=>(L2.o1 i hi).2.2) m6 nh with w | w
   ·exact .inl w
   ·exact .inr ⟨hs,w,L2.c2 (by omega)⟩
 ·rcases t7 with q | q
  ·exact .inl (.inl ⟨q.1,q.2.1,q.2.2.1⟩)
  ·exact absurd q.1 hs
end
end Sx
namespace Sx
section
variable {n nc ns:Int} {G:Int→Gr} {C:Int→Cn} {S:Int→Su} {P:Int→Prop}
theorem SR.ne {x:Gr} (h:SR x):¬ SE x:=by unfold SR at h;unfold SE;omega
theorem gw.part {x y:Gr} (p:Part x y) (hp:SE x→x.bG=true→y.bG=true) (hs:SE x) (h:gw nc ns x):gw nc ns y:=by
 obtain ⟨b1,b2,b3,b4,b5,b6,b7,b8,b9,mu,sJ,sK,nk,yR,yS,vZ,yT,we,wh,yU⟩:=h;have ho:=p.aO;have hc:∀ j,cr y j=cr x j:=fun j=>by unfold cr;rw [ho]
 constructor <;> simp only [p.order,p.aB,p.aq,p.k,p.place,p.code,ho,hc] <;> try assumption
 exact fun h=>hp hs (wh h)
theorem Loc.part {x y:Gr} (p:Part x y) (L:Loc nc ns n x) (h0:y.status=0∨y.status=1∨y.status=2) (h1:y.status=1→y.place=14∨y.place=19) (h2:y.place=19→y.status=1) (h3:y.status=2→x.status=2)
  (h4:y.token=true→Wt y∧0≤y.param∧y.place≠14) (h5:-1≤y.param∧y.param < ns) (h6:y.place=14→y.status=0→0≤y.param) (h7:0≤y.param→Wt y∧Own y y.param) (h8:0≤y.param→SE y→y.bG=true) (h9:SE x→x.bG=true→y.bG=true):Loc nc ns n y:=by
 obtain ⟨a1,a2,a3,a4,a5,a6,a7,a8,a9,lM,nj,nV,oR,oS,oT,nW,rF,rG,qd,rH,rI,oU⟩:=L;have ho:=p.aO
 constructor <;> (try simp only [p.ops,p.at_,p.place,p.au,p.hold,p.bh,p.code,ho,p.sr]) <;> try assumption
 ·rw [← p.place];exact h1
 ·rw [← p.place];exact h2
 ·exact fun h=>lM (h3 h)
 ·rw [← p.place];exact h4
 ·rw [← p.place];exact h6
 ·rw [p.se];exact fun h1 h2=>(oU h1 h2).part p h9 h1
theorem Inv.QN (I:Inv n nc ns G C S P) {g i:Int} {x y:Gr} {c:Int} {c':Cn} (g0:0≤g) (g1:g < n) (lx:Loc nc ns n x) (hc:jI n C g (G g) x c c') (ow:∀ i,Own x i↔Own (G g) i) (mt:∀ i d,Own x i→Match (G g) i d→Match x i d)
  (nq:∀ i j,¬ eH (G g) i j) (nw:¬ cR x) (wx:∀ q∈x.au,q∈(G g).au) (mz:¬ Wt (G g))
  (hx:dy x) (xi:x.hold=i) (sc:(S i).ch=c) (c0:1≤c) (c1:c≤nc) (xh:bS x c) (hq:i∈(C c).recv∨i∈(C c).send) (py:Part (G (S i).g) y) (e1:y.param=(G (S i).g).param) (e2:y.token=(G (S i).g).token) (e3:y.status=(G (S i).g).status)
  (hp:(S i).cs < 0∧i∉c'.recv∧i∉c'.send∧y.bG=(G (S i).g).bG∨0≤(S i).cs∧(G (S i).g).bG=false∧y.bG=true∧bS (G g) c) :
  Inv n nc ns (iM G (S i).g y g x) (up C c c') S P:=by
 obtain ⟨t1,t2,t3,t4,t5,t6,t7,t8⟩:=I.A9 c0 c1 hq;have bV:(S i).g≠g:=fun e=>nq _ _ (e ▸ t7)
 have L:=I.loc _ t4 t5;have F:Wt (G (S i).g)∧(G (S i).g).param=-1:=by
  rcases hp with hp | hp
  ·rcases t7 with q | q
   ·exact ⟨.inl ⟨q.1,q.2.1,q.2.2.1⟩,q.2.2.2.2⟩
   ·omega
  ·have jW:SE (G (S i).g):=by
    rcases t8 with m | m
    ·omega
    ·exact m.1
   refine ⟨?_,?_⟩
   ·rcases I.IY c0 c1 hq g0 g1 hp.2.2.2 bV with w | w
    ·exact w
    ·grind
   ·by_cases e:0≤(G (S i).g).param
    ·have:=L.p3 e jW;rw [hp.2.1] at this;cases this
    ·have:=L.p0;omega
 have other:∀ k,0≤k→k < n→dy (G k)→(S (G k).hold).g=(S i).g→False:=by
  intro k a b cl e;obtain ⟨s1,s2,s3,s4,s5,s6,s7,s8,s9,oP,sL⟩:=I.cl k a b cl;rw [e] at s7 s8 s9 oP sL;rcases hp with hp | hp
  ·rcases t8 with m | m
   ·have k1:=sL m.1;have e5:(G k).hold=i:=by
     have m1:=s9.2;have m2:=t6.2;rcases m1 with m1 | m1
     ·rcases m2 with m2 | m2
      ·omega
      ·exact absurd m2.1 m.1.ne
     ·exact absurd m1.1 m.1.ne
    rw [e5,sc] at k1;rcases hq with hq | hq
    ·exact k1.1 hq
    ·exact k1.2 hq
   ·omega
  ·have jW:SE (G (S i).g):=by
    rcases t8 with m | m
    ·omega
    ·exact m.1
   have:=oP jW;rw [hp.2.1] at this;cases this
 have hw:Wt y:=py.wt.2 F.1;have pk:SE (G (S i).g)→(G (S i).g).bG=true→y.bG=true:=by grind
 have ly:Loc nc ns n y:=by
  refine L.part py (by rw [e3];exact L.kG) (by rw [e3,py.place];exact L.AZ) (by rw [e3,py.place];exact L.A7) (by rw [e3];exact id) (by rw [e2,e1,py.place,py.wt];exact L.tk) (by rw [e1];exact L.p0) (by rw [e1,e3,py.place];exact L.p1) (by rw [e1,F.2];intro h;omega) (by rw [e1,F.2];intro h;omega) pk
 refine I.move ⟨g0,g1,bV,lx,fun _ _=>ly,py,hc.jV I g0 g1,hc.yL I g0 g1,hc.yM I g0 g1,hc.Ev I,ow,fun i hi=>mt i _ hi (I.own g g0 g1 i ((ow i).1 hi)).2.1,fun ch _ _=>hc.q1 ch,fun ch _ _=>hc.q2 ch,fun ch i a b hi _ hq=>absurd hq (nq _ _),?_,fun h=>absurd h nw,?_,fun _ _ _ _ _ _ h=>absurd h.1 mz,fun k a b _ cl e=>absurd (other k a b cl e) id,fun q hq=>.inl (wx q hq),fun h _=>absurd h.1 mz,fun h=>(I.wk g g0 g1 g (wx g h)).1 rfl,?_,?_⟩
 ·intro ch j _ _ _ _ hq;unfold eH at hq ⊢;rw [py.sr,py.se,py.place,py.bh,e1,py.aq,py.order,py.k,py.code];exact hq
 ·intro _;rw [xi,sc];refine ⟨c0,c1,xh,rfl,t4,t5,⟨hw,by rw [e1];exact F.2,?_⟩,(py.own i).2 t6,?_⟩
  ·intro jW;rcases hp with hp | hp
   ·rcases t8 with m | m
    ·exact absurd (py.se.1 jW) m.1.ne
    ·omega
   ·exact hp.2.2.1
  ·intro ur;rw [iD];rcases hp with hp | hp
   ·grind
   ·rcases t8 with m | m
    ·omega
    ·exact absurd m.1 (py.sr.1 ur).ne
 ·intro h;have:=(I.wk g g0 g1 _ (wx _ h)).2.2.1;rw [F.2] at this;omega
 ·intro k a b _ _ w;have:=w.2.1;rw [F.2] at this;omega
theorem Inv.serve (I:Inv n nc ns G C S P) {g i:Int} {x y:Gr} {c:Int} {c':Cn} (g0:0≤g) (g1:g < n) (lx:Loc nc ns n x) (hc:jI n C g (G g) x c c') (ow:∀ i,Own x i↔Own (G g) i) (mt:∀ i d,Own x i→Match (G g) i d→Match x i d)
  (nq:∀ i j,¬ eH (G g) i j) (nw:¬ cR x) (gH:¬ dy x) (wx:∀ q∈x.au,q∈(G g).au∨q=(S i).g) (mz:¬ Wt (G g))
  (sc:(S i).ch=c) (t4:0≤(S i).g) (t5:(S i).g < n) (bV:(S i).g≠g) (F1:Wt (G (S i).g)) (F2:(G (S i).g).param=-1) (F3:Own (G (S i).g) i) (F4:SE (G (S i).g)→y.bG=true) (F5:i∉c'.recv∧i∉c'.send)
  (other:∀ k,0≤k→k < n→k≠g→dy (G k)→(S (G k).hold).g=(S i).g→False)
  (py:Part (G (S i).g) y) (e1:y.param=i) (e2:y.token=(G (S i).g).token) (e3:y.status=(G (S i).g).status) :
  Inv n nc ns (iM G (S i).g y g x) (up C c c') S P:=by
 have L:=I.loc _ t4 t5;have hw:Wt y:=py.wt.2 F1;have i1:=(I.own _ t4 t5 i F3).1;have tok:(G (S i).g).token=false:=by
  cases h:(G (S i).g).token
  ·rfl
  ·have:=(L.tk h).2.1;rw [F2] at this;omega
 have QO:(G (S i).g).place=14→(G (S i).g).status≠0:=fun a b=>by have:=L.p1 a b;rw [F2] at this;omega
 have ly:Loc nc ns n y:=by
  refine L.part py (by rw [e3];exact L.kG) (by rw [e3,py.place];exact L.AZ) (by rw [e3,py.place];exact L.A7) (by rw [e3];exact id) (by rw [e2,tok];intro h;cases h) (by rw [e1];have:=F3.1;omega) (by rw [e1];exact fun _ _=>F3.1) (by rw [e1];exact fun _=>⟨hw,(py.own i).2 F3⟩) (fun _ h=>F4 (py.se.1 h)) (fun h _=>F4 h)
 have wy:kR y:=⟨hw,by rw [e1];exact F3.1,by rw [e2];exact tok,by rw [py.place,e3];exact QO⟩
 have none:∀ k,0≤k→k < n→(S i).g∉(G k).au:=fun k a b h=>by
  have:=(I.wk k a b _ h).2.2.1;rw [F2] at this;omega
 refine I.move ⟨g0,g1,bV,lx,fun _ _=>ly,py,hc.jV I g0 g1,hc.yL I g0 g1,hc.yM I g0 g1,hc.Ev I,ow,fun i hi=>mt i _ hi (I.own g g0 g1 i ((ow i).1 hi)).2.1,fun ch _ _=>hc.q1 ch,fun ch _ _=>hc.q2 ch,fun ch i a b hi _ hq=>absurd hq (nq _ _),?_,fun h=>absurd h nw,fun h=>absurd h gH,fun _ _ _ _ _ _ h=>absurd h.1 mz,fun k a b kg cl e=>absurd (other k a b kg cl e) id,fun q hq=>(wx q hq).imp id (fun e=>⟨e,fun k a b _=>none k a b⟩),fun h _=>absurd h.1 mz,?_,fun _=>wy,fun k a b _ hk=>absurd hk (none k a b)⟩
 ·intro ch j a b hj _ hq;unfold eH at hq ⊢;rw [py.sr,py.se,py.place,py.bh,py.aq,py.order,py.k,py.code];rcases hq with hq | hq
  ·exfalso
   have ej:j=i:=by
    have:=F3.2;rcases this with m | m
    ·omega
    ·exact absurd m.1 hq.1.ne
   subst ej;have ff:j∈(C ch).recv∨j∈(C ch).send:=hj.imp (fun h=>(hc.q1 ch).1.subset h) (fun h=>(hc.q1 ch).2.subset h);have:=(I.A9 a b ff).2.2.1;rw [sc] at this;subst this;rw [iD] at hj;rcases hj with hj | hj
   ·exact F5.1 hj
   ·exact F5.2 hj
  ·exact .inr hq
 ·intro h;rcases wx g h with h | h
  ·exact (I.wk g g0 g1 g h).1 rfl
  ·exact bV h.symm
theorem Inv.readies (I:Inv n nc ns G C S P) {g p:Int} {x y:Gr} {l:List Int} (g0:0≤g) (g1:g < n) (lx:Loc nc ns n x) (hh:∀ ch,bS x ch↔bS (G g) ch) (ow:∀ i,Own x i↔Own (G g) i) (mt:∀ i d,Own x i→Match (G g) i d→Match x i d)
  (nq:∀ i j,¬ eH (G g) i j) (nw:¬ cR x) (gH:¬ dy x) (hw:(G g).au=p :: l) (wx:x.au=l) (mz:¬ Wt (G g)) (py:Part (G p) y) (e1:y.param=(G p).param) (e2:y.bG=(G p).bG)
  (e3:(G p).status=1∧y.status=0∧y.token=(G p).token∨(G p).status=0∧y.status=0∧y.token=true) :
  Inv n nc ns (iM G p y g x) C S P:=by
 have hp:p∈(G g).au:=by rw [hw];simp
 obtain ⟨k1,k2,k3,k4,k5⟩:=I.wk g g0 g1 p hp;obtain ⟨p0,p1⟩:=(I.loc g g0 g1).w3 p hp;have L:=I.loc p p0 p1;have nd:p∉l:=by have:=(I.loc g g0 g1).w4;rw [hw] at this;exact (List.nodup_cons.1 this).1
 have QT:(G p).status=1→(G p).place=14:=fun h=>by
  rcases L.AZ h with h | h
  ·exact h
  ·rcases k2 with k | k <;> omega
 have ly:Loc nc ns n y:=by
  refine L.part py ?_ ?_ ?_ ?_ ?_ ?_ ?_ ?_ ?_ ?_
  ·omega
  ·omega
  ·rw [py.place];intro h;have:=L.A7 h;have:=QT this;omega
  ·omega
  ·rw [py.wt,e1,py.place];intro h;rcases e3 with e | e
   ·grind
   ·grind
  ·rw [e1];exact L.p0
  ·omega
  ·rw [e1,py.wt,py.own];exact L.p2
  ·rw [e1,e2,py.se];exact L.p3
  ·grind
 refine I.move ⟨g0,g1,k1,lx,fun _ _=>ly,py,I.jV,fun ch a b=>by rw [hh];exact I.iW g g0 g1 ch a b,fun _ _ _ _ _ _ _=>Iff.rfl,I.cap,ow,fun i hi=>mt i _ hi (I.own g g0 g1 i ((ow i).1 hi)).2.1,fun _ _ _=>⟨List.Sublist.refl _,List.Sublist.refl _⟩,fun _ _ _ _=>⟨rfl,rfl⟩,fun ch i a b hi _ hq=>absurd hq (nq _ _),?_,fun h=>absurd h nw,fun h=>absurd h gH,fun _ _ _ _ _ _ h=>absurd h.1 mz,?_,fun q hq=>.inl (by rw [hw];rw [wx] at hq;exact List.mem_cons_of_mem _ hq),fun h _=>absurd h.1 mz,?_,?_,?_⟩
 ·intro ch j _ _ _ _ hq;unfold eH at hq ⊢;rw [py.sr,py.se,py.place,py.bh,e1,py.aq,py.order,py.k,py.code];exact hq
 ·intro k a b _ cl e w;have:=w.2.1;omega
 ·intro h;rw [wx] at h;exact (I.wk g g0 g1 g (by rw [hw];exact List.mem_cons_of_mem _ h)).1 rfl
 ·grind
 ·intro k a b e hk _;exact absurd (I.qc k g p a b g0 g1 hk hp) e
end
end Sx
namespace Sx
theorem Ew (s:ah) (l:List Gr) (hl:s.gs=l) (g h:Nat) (x:Gr) (hg:g < l.length) (s':ah) (e:s'.gs=l.set g x):aa s' h=if h=g then x else aa s h:=by
 unfold aa;rw [e,hl];simp only [List.getD_eq_getElem?_getD,List.getElem?_set]
 by_cases c:g=h
 ·subst c;simp [hg]
 ·grind
theorem rJ {s s':ah} {g:Nat} {x:Gr} (hg:g < s.gs.length) (e:s'.gs=s.gs.set g x) (h:Int) (h0:0≤h):gA s' h=up (gA s) g x h:=by
 unfold gA up;rw [Ew s s.gs rfl g h.toNat x hg s' e]
 by_cases c:h=g
 ·subst c;simp
 ·grind
theorem Ex {s s':ah} {g p:Nat} {x y:Gr} (hg:g < s.gs.length) (hp:p < s.gs.length) (e:s'.gs=(s.gs.set p y).set g x) (h:Int) (h0:0≤h):gA s' h=iM (gA s) p y g x h:=by
 have e1:=rJ (s:={ s with gs:=s.gs.set p y }) (s':=s') (g:=g) (x:=x) (by simpa using hg) e h h0;have e2:=rJ (s:=s) (s':={ s with gs:=s.gs.set p y }) (g:=p) (x:=y) hp rfl h h0;rw [e1];unfold iM;unfold up at e2 ⊢
 by_cases c:h=g
 ·grind
 ·grind
theorem nr {s s':ah} {c:Int} {x:Cn} (hc:1≤c) (cQ:c≤s.av.length) (e:s'.av=s.av.set (c - 1).toNat x) (ch:Int) (h1:1≤ch):cn s' ch=up (cn s) c x ch:=by
 unfold cn up;rw [e];simp only [List.getD_eq_getElem?_getD,List.getElem?_set]
 by_cases q:ch=c
 ·grind
 ·have:¬ (c - 1).toNat=(ch - 1).toNat:=by omega
  rw [if_neg q,if_neg this]
theorem Ba {s s':ah} {i:Int} {x:Su} (hi:0≤i) (dM:i < s.aA.length) (e:s'.aA=s.aA.set i.toNat x) (j:Int) (h1:0≤j):su s' j=up (su s) i x j:=by
 unfold su up;rw [e];simp only [List.getD_eq_getElem?_getD,List.getElem?_set]
 by_cases q:j=i
 ·grind
 ·grind
def nX (s:ah):Int:=((List.range s.gs.length).map (fun g=>(aa s g).at_)).sum
structure MInv (s:ah):Prop where
 v:V s
 n1:1≤s.gs.length
 n8:s.gs.length≤8
 c8:s.av.length≤8
 sn:(s.aA.length:Int)=s.dx
 mA:s.aA.length≤64
 c1:1≤s.bX
 sM:s.bX≤16
 ca:s.cache.length=s.gs.length
 f0:0≤s.fresh
 po:∃ H,Po.Inv s.dx.toNat s.bX.toNat ⟨s.cache,s.middle,s.fresh.toNat,H⟩
 rK:0≤s.drawn
 sO:s.drawn≤s.di.length
 du:∀ x∈s.di,0≤x∧x < 65536
 d5:s.di.length≤1000
 dn:(s.done.length:Int)=nX s
structure Rest (s s':ah):Prop where
 gl:s'.gs.length=s.gs.length
 cl:s'.av.length=s.av.length
 sl:s'.aA.length=s.aA.length
 sN:s'.dx=s.dx
 cN:s'.bX=s.bX
 ca:s'.cache=s.cache
 md:s'.middle=s.middle
 fr:s'.fresh=s.fresh
 dw:s'.di=s.di
 dn:s'.drawn=s.drawn
 Bb:s'.done=s.done
 at_:∀ g,g < s.gs.length→(aa s' g).at_=(aa s g).at_
theorem IZ {s s':ah} (gl:s'.gs.length=s.gs.length) (at_:∀ g,g < s.gs.length→(aa s' g).at_=(aa s g).at_):nX s'=nX s:=by
 unfold nX;rw [gl]
 congr 1
 exact List.map_congr_left fun g hg=>at_ g (by simpa using hg)
theorem Rest.live {s s':ah} (r:Rest s s') (i:Int):gM s' i=gM s i:=by unfold gM tX;rw [r.ca,r.md,r.fr]
theorem MInv.rest {s s':ah} (h:MInv s) (r:Rest s s') (v:V s'):MInv s':=by
 obtain ⟨a1,a2,a3,a4,a5,a6,a7,a8,a9,lM,nj,nV,oR,oS,oT,nW⟩:=h;refine ⟨v,?_,?_,?_,?_,?_,?_,?_,?_,?_,?_,?_,?_,?_,?_,?_⟩
 ·rw [r.gl];exact a2
 ·rw [r.gl];exact a3
 ·rw [r.cl];exact a4
 ·rw [r.sl,r.sN];exact a5
 ·rw [r.sl];exact a6
 ·rw [r.cN];exact a7
 ·rw [r.cN];exact a8
 ·rw [r.ca,r.gl];exact a9
 ·rw [r.fr];exact lM
 ·rw [r.sN,r.cN,r.ca,r.md,r.fr];exact nj
 ·rw [r.dn];exact nV
 ·rw [r.dn,r.dw];exact oR
 ·rw [r.dw];exact oS
 ·rw [r.dw];exact oT
 ·rw [r.Bb,IZ r.gl r.at_];exact nW
theorem V.of {s s':ah} (r:Rest s s') {G':Int→Gr} {C':Int→Cn} {S':Int→Su} (I:Inv s.gs.length s.av.length s.aA.length G' C' S' (fun i=>gM s i=true))
  (hG:∀ g,0≤g→gA s' g=G' g) (hC:∀ c,1≤c→cn s' c=C' c) (hS:∀ i,0≤i→su s' i=S' i):V s':=by
 unfold V;rw [r.gl,r.cl,r.sl];exact I.sH (fun g a _=>hG g a) (fun c a _=>hC c a) (fun i a _=>hS i a) (fun i _ _=>by rw [r.live])
structure Sf (nc ns n:Int) (x x':Gr):Prop where
 lx:Loc nc ns n x'
 hh:∀ ch,bS x' ch↔bS x ch
 ow:∀ i,Own x' i↔Own x i
 mt:∀ i d,Own x' i→Match x i d→Match x' i d
 qx:∀ i j,eH x i j→eH x' i j
 gH:¬ dy x'
 wx:∀ q∈x'.au,q∈x.au
 wg:kR x→kR x'
 cg:mq x→mq x'∧(SR x'→SR x)
theorem fE (s:ah) (g:Nat):gA s g=aa s g:=by unfold gA;simp
theorem je (s:ah) (g h:Nat) (x:Gr) (hg:g < s.gs.length):aa (ai s g x) h=if h=g then x else aa s h:=Ew s s.gs rfl g h x hg _ rfl
theorem Rest.dR (s:ah) {g:Nat} {x:Gr} (hg:g < s.gs.length) (ha:x.at_=(aa s g).at_):Rest s (ai s g x):=by
 refine ⟨by simp [Sx.ai],rfl,rfl,rfl,rfl,rfl,rfl,rfl,rfl,rfl,rfl,fun h _=>?_⟩;rw [je s g h x hg]
 split
 ·grind
 ·rfl
theorem MInv.self {s:ah} (h:MInv s) {g:Nat} (hg:g < s.gs.length) {x:Gr} (f:Sf s.av.length s.aA.length s.gs.length (aa s g) x) (ha:x.at_=(aa s g).at_)
  (wn:cR x→1≤(su s x.hold).ch∧(su s x.hold).ch≤s.av.length∧bS x (su s x.hold).ch∧(x.hold∈(cn s (su s x.hold).ch).recv∨x.hold∈(cn s (su s x.hold).ch).send)∧0≤(su s x.hold).cs):MInv (ai s g x):=by
 have r:=Rest.dR s hg ha;have e:=fE s g;refine h.rest r (V.of r (Inv.self h.v (g:=g) (x:=x) (by omega) (by omega) f.lx ?_ ?_ ?_ ?_ wn f.gH ?_ ?_ ?_) (fun k k0=>rJ hg rfl k k0) (fun _ _=>rfl) (fun _ _=>rfl))
 all_goals rw [e]
 ·exact f.hh
 ·exact f.ow
 ·exact f.mt
 ·exact f.qx
 ·exact f.wx
 ·exact f.wg
 ·exact f.cg
end Sx
namespace Sx
def hP (p:Int):Prop:=5≤p∧p≤12∨p=16∨21≤p∧p≤23
structure gZ (x x':Gr):Prop where
 ops:x'.ops=x.ops
 at_:x'.at_=x.at_
 status:x'.status=x.status
 token:x'.token=x.token
 param:x'.param=x.param
 au:x'.au=x.au
 ns:¬ SE x
 st:x.status=0
 p0:x.place≠0
 o1:¬ (11≤x.place∧x.place≤15)
 o2:¬ (11≤x'.place∧x'.place≤15)
 ok:bU (aO x).kind x'.place
 q1:x'.place≠0∧x'.place≠27∧(x'.place=17→x.au≠[])∧x'.place≠19
 q2:x'.place=18∨x.place≠18∧x.place≠19
 q3:x.au=[]∨x'.place=16∨x'.place=17∨x'.place=22∨x'.place=23
variable {nc ns n:Int} {x x':Gr}
theorem gZ.aO (h:gZ x x'):aO x'=aO x:=by unfold Sx.aO;rw [h.ops,h.at_]
theorem gZ.loc (h:gZ x x') (L:Loc nc ns n x) (hd:x'.place=7∨x'.place=8∨x'.place=23→0≤x'.hold∧x'.hold < ns):Loc nc ns n x':=by
 obtain ⟨a1,a2,a3,a4,a5,a6,a7,a8,a9,lM,nj,nV,oR,oS,oT,nW,rF,rG,qd,rH,rI,oU⟩:=L;have ho:=h.aO;obtain ⟨h1,h2,h3,h4,h5,h6,h7,h8,h9,mZ,mj,lJ,kD,rC,QU⟩:=h;have hk:¬ (Sx.aO x).kind=9:=h7;have hn:¬ Wt x:=by
  rintro (w | w)
  ·omega
  ·exact h7 w.1
 have XL:x.param=-1:=by grind
 have sP:x.token=false:=by grind
 have QV:x'.place≠26:=by
  intro e;clear a7 a8 a9 lM nV nW qd QU rC;unfold bU at lJ;rw [e] at lJ;omega
 have kH:=(a5.resolve_left h9).1
 constructor <;> (try simp only [h1,h2,h3,h4,h5,h6,ho]) <;> try assumption
 ·exact .inr ⟨kH,lJ⟩
 ·intro _ e1 e2 e3 e4;rcases rC with rC | rC
  ·exact absurd rC e1
  ·exact a6 h9 rC.1 rC.2 e3 e4
 ·rw [h8];simp
 ·omega
 ·rw [h8];simp
 ·rw [sP];simp
 ·grind
 ·exact kD.2.2.1
 ·intro e;rcases e with e | e | e | e | e
  ·exact hd (.inl e)
  ·omega
  ·exact hd (.inr (.inr e))
  ·exact absurd e QV
  ·omega
 ·omega
 ·omega
 ·omega
 ·omega
 ·intro e;unfold SE at e;rw [ho] at e;exact absurd e hk
theorem gZ.own (h:gZ x x') (i:Int):¬ Own x i∧¬ Own x' i:=by
 have ho:=h.aO;have hk:¬ (Sx.aO x).kind=9:=h.ns
 constructor
 ·rintro ⟨_,w | w⟩
  ·exact h.o1 ⟨w.2.1,w.2.2.1⟩
  ·exact h.ns w.1
 ·rintro ⟨_,w | w⟩
  ·exact h.o2 ⟨w.2.1,w.2.2.1⟩
  ·grind [Wt,SE,SR]
theorem gZ.nq (h:gZ x x') (i j:Int):¬ eH x i j:=by
 rintro (w | w)
 ·exact h.o1 (by omega)
 ·exact h.ns w.1
theorem gZ.nw (h:gZ x x'):¬ Wt x:=by
 rintro (w | w)
 ·exact h.o1 (by omega)
 ·exact h.ns w.1
theorem gZ.gH (h:gZ x x') (e:x'.place≠8):¬ dy x':=by
 rintro (w | w)
 ·exact e w
 ·exact h.q1.2.1 w
theorem gZ.hh (h:gZ x x') (e:hP x.place↔hP x'.place) (ch:Int):bS x' ch↔bS x ch:=by
 have ho:=h.aO;have hk:¬ (Sx.aO x).kind=9:=h.ns;unfold bS SE;rw [ho];unfold hP at e
 constructor
 ·omega
 ·omega
theorem gZ.sf (h:gZ x x') (L:Loc nc ns n x) (hd:x'.place=7∨x'.place=8∨x'.place=23→0≤x'.hold∧x'.hold < ns) (e:hP x.place↔hP x'.place) (n8:x'.place≠8):Sf nc ns n x x':=by
 refine ⟨h.loc L hd,h.hh e,fun i=>⟨fun w=>absurd w (h.own i).2,fun w=>absurd w (h.own i).1⟩,fun i d w=>absurd w (h.own i).2,fun i j w=>absurd w (h.nq i j),h.gH n8,fun q=>by rw [h.au];exact id,fun w=>absurd w.1 h.nw,fun w=>absurd w.1 h.nw⟩
end Sx
namespace Sx
variable {s:ah} {g:Nat}
theorem MInv.loc (h:MInv s) (hg:g < s.gs.length):Loc s.av.length s.aA.length s.gs.length (aa s g):=by
 have:=Inv.loc h.v (g:Int) (by omega) (by omega);rw [fE] at this;exact this
theorem MInv.I0 (h:MInv s) (hg:g < s.gs.length) {x:Gr} (f:gZ (aa s g) x) (e:hP (aa s g).place↔hP x.place) (nw:¬ cR x) (n8:x.place≠8):MInv (ai s g x) :=
 h.self hg (f.sf (h.loc hg) (fun q=>absurd (show cR x by unfold cR;omega) nw) e n8) f.at_ (fun w=>absurd w nw)
theorem Be (s:ah) (c:Int) (c':Cn) (h:Nat):aa (aE s c c') h=aa s h:=rfl
theorem QW (s:ah) (c:Int) (c':Su) (h:Nat):aa (aV s c c') h=aa s h:=rfl
theorem Rest.trans {s t u:ah} (a:Rest s t) (b:Rest t u):Rest s u:=by
 refine ⟨b.gl.trans a.gl,b.cl.trans a.cl,b.sl.trans a.sl,b.sN.trans a.sN,b.cN.trans a.cN,b.ca.trans a.ca,b.md.trans a.md,b.fr.trans a.fr,b.dw.trans a.dw,b.dn.trans a.dn,b.Bb.trans a.Bb,fun g hg=>?_⟩;rw [b.at_ g (by rw [a.gl];exact hg),a.at_ g hg]
theorem Rest.dS (s:ah) (c:Int) (c':Cn):Rest s (aE s c c'):=⟨rfl,by simp [Sx.aE],rfl,rfl,rfl,rfl,rfl,rfl,rfl,rfl,rfl,fun _ _=>rfl⟩
theorem MInv.chan (h:MInv s) (hg:g < s.gs.length) {x:Gr} {c:Int} {c':Cn} (c0:1≤c) (c1:c≤s.av.length) (lx:Loc s.av.length s.aA.length s.gs.length x) (hc:jI s.gs.length (cn s) g (aa s g) x c c') (ow:∀ i,Own x i↔Own (aa s g) i) (mt:∀ i d,Own x i→Match (aa s g) i d→Match x i d)
  (qx:∀ i j,eH (aa s g) i j→(∀ ch:Int,1≤ch→ch≤s.av.length→i∈(up (cn s) c c' ch).recv∨i∈(up (cn s) c c' ch).send→eH x i j)) (nw:¬ cR x)
  (gH:¬ dy x) (wx:∀ q∈x.au,q∈(aa s g).au) (wg:kR (aa s g)→kR x) (cg:mq (aa s g)→mq x∧(SR x→SR (aa s g))) (ha:x.at_=(aa s g).at_):MInv (ai (aE s c c') g x):=by
 have r:Rest s (Sx.ai (Sx.aE s c c') g x):=(Rest.dS s c c').trans (Rest.dR _ hg ha);have e:=fE s g;refine h.rest r (V.of r (Inv.chan h.v (g:=g) (x:=x) (c:=c) (c':=c') (by omega) (by omega) lx ?_ ?_ ?_ ?_ nw gH ?_ ?_ ?_) (fun k k0=>rJ hg rfl k k0) (fun ch q=>nr c0 c1 rfl ch q) (fun _ _=>rfl))
 all_goals rw [e]
 ·exact hc
 ·exact ow
 ·exact mt
 ·exact qx
 ·exact wx
 ·exact wg
 ·exact cg
theorem MInv.wj (h:MInv s) (hg:g < s.gs.length) {x:Gr} (f:gZ (aa s g) x) {c:Int} {c':Cn} (c0:1≤c) (c1:c≤s.av.length) (hc:jI s.gs.length (cn s) g (aa s g) x c c') (nw:¬ cR x) (n8:x.place≠8):MInv (ai (aE s c c') g x):=by
 refine h.chan hg c0 c1 (f.loc (h.loc hg) (fun q=>absurd (show cR x by unfold cR;omega) nw)) hc (fun i=>⟨fun w=>absurd w (f.own i).2,fun w=>absurd w (f.own i).1⟩) (fun i d w=>absurd w (f.own i).2) (fun i j w=>absurd w (f.nq i j)) nw (f.gH n8) (fun q=>by rw [f.au];exact id) (fun w=>absurd w.1 f.nw) (fun w=>absurd w.1 f.nw) f.at_
theorem MInv.rL (h:MInv s) (hg:g < s.gs.length) (e:(aa s g).place≠0∧(aa s g).place≠18∧(aa s g).place≠19) (k:2≤(ag s g).kind∧(ag s g).kind≤6):1≤(ag s g).ch∧(ag s g).ch≤s.av.length:=(h.loc hg).AY e.1 e.2.1 e.2.2 k.1 k.2
theorem MInv.gP (h:MInv s) {c:Int} (c0:1≤c) (c1:c≤s.av.length):0≤(cn s c).cap∧(cn s c).cap≤4∧((cn s c).buf.length:Int)≤(cn s c).cap:=Inv.cap h.v c c0 c1
theorem nt {c:Int}:Sx.aT s c=true↔1≤c∧c≤s.av.length:=by unfold Sx.aT;simp
theorem MInv.s4 (h:MInv s) (hg:g < s.gs.length) (st:(aa s g).status=0) (k:2≤(ag s g).kind∧(ag s g).kind≤6) (e:(aa s g).place=4) (p:Int) (hp:(ag s g).kind=6∧p=21∨(ag s g).kind≠6∧p=5) (hl:(cn s (ag s g).ch).lock=-1):MInv (aS (aE s (ag s g).ch { cn s (ag s g).ch with lock:=g }) g p):=by
 obtain ⟨c0,c1⟩:=h.rL hg (by omega) k;have hk:(aO (aa s g)).kind=(ag s g).kind:=rfl;have L:=h.loc hg;refine h.wj hg (x:={ aa s g with place:=p }) ⟨rfl,rfl,rfl,rfl,rfl,rfl,?_,st,?_,?_,?_,?_,?_,?_,?_⟩ c0 c1 ⟨.inr (.inl ⟨hl,rfl,fun ch=>?_⟩),h.gP c0 c1,⟨List.Sublist.refl _,List.Sublist.refl _⟩,.inl ⟨rfl,rfl⟩⟩ ?_ ?_
 ·unfold SE;omega
 ·omega
 ·omega
 ·simp only;omega
 ·unfold bU;simp only;omega
 ·grind
 ·simp only;omega
 ·by_cases w:(aa s g).au=[]
  ·exact .inl w
  ·have:=L.w1 w;omega
 ·have ho:aO { aa s g with place:=p }=aO (aa s g):=rfl;unfold bS SE;rw [ho,hk];simp only [e]
  constructor
  ·rintro (w | w)
   ·exact .inr w.2.2.1
   ·omega
  ·rintro (w | w)
   ·omega
   ·exact .inl ⟨k.1,k.2,w,by omega⟩
 ·unfold cR;simp only;omega
 ·simp only;omega
end Sx
namespace Sx
variable {s:ah} {g:Nat} {nc ns n:Int}
theorem QX {x y:Gr} (L:Loc nc ns n x) (k:SR x) (e:x.place=12) (st:x.status=0) (hy:y={ x with place:=13 }):Loc nc ns n y:=by
 have ho:aO y=aO x:=by subst hy;rfl
 have h1:y.ops=x.ops∧y.at_=x.at_∧y.place=13∧y.status=x.status∧y.token=x.token∧y.param=x.param∧y.bh=x.bh∧y.au=x.au∧y.aq=x.aq:=by subst hy;simp
 clear hy;obtain ⟨a1,a2,a3,a4,a5,a6,a7,a8,a9,lM,nj,nV,oR,oS,oT,nW,rF,rG,qd,rH,rI,oU⟩:=L
 constructor <;> simp only [Wt,SR,SE,e,st,Own,bU,c9,ho,h1] at * <;> grind
theorem Own.sr {x y:Gr} {i:Int} (k:SR x) (ho:aO y=aO x) (hm:y.bh=x.bh) (p:11≤y.place∧y.place≤15) (h:Own x i):Own y i:=by
 rcases h with ⟨h0,h | h⟩
 ·exact ⟨h0,.inl ⟨by unfold SR;rw [ho];exact k,p.1,p.2,hm.trans h.2.2.2⟩⟩
 ·exact absurd h.1 k.ne
theorem Own.Bf {x y:Gr} {i:Int} (k:SR x) (ho:aO y=aO x) (hm:y.bh=x.bh) (p:11≤y.place∧y.place≤15) (q:11≤x.place∧x.place≤15):Own y i↔Own x i :=
 ⟨Own.sr (by unfold SR;rw [ho];exact k) ho.symm hm.symm q,Own.sr k ho hm p⟩
theorem MInv.QY (h:MInv s) (hg:g < s.gs.length) (st:(aa s g).status=0) (e:(aa s g).place=12) (k:2≤(ag s g).kind∧(ag s g).kind≤6):MInv (aS (free s (ag s g).ch) g 13):=by
 have L:=h.loc hg;have ks:SR (aa s g):=by
  have:=(L.pl.resolve_left (by omega)).2;have hk:(aO (aa s g)).kind=(ag s g).kind:=rfl;unfold bU at this;unfold SR;rw [e] at this;omega
 obtain ⟨c0,c1⟩:=h.rL hg (by omega) k;have ho:aO { aa s g with place:=13 }=aO (aa s g):=rfl;have hk:(aO (aa s g)).kind=(ag s g).kind:=rfl;have hh:bS (aa s g) (ag s g).ch:=.inl ⟨k.1,k.2,rfl,by omega⟩;have jr:=ks.ne;have pl:({ aa s g with place:=13 }:Gr).place=13:=rfl;refine h.chan hg c0 c1 (x:={ aa s g with place:=13 }) (QX L ks e st rfl) ⟨.inr (.inr ⟨hh,rfl,fun ch=>?_⟩),h.gP c0 c1,⟨List.Sublist.refl _,List.Sublist.refl _⟩,.inl ⟨rfl,rfl⟩⟩ ?_ ?_ ?_ ?_ ?_ (fun q=>id) ?_ ?_ rfl
 ·unfold bS;have n1:¬ SE { aa s g with place:=13 }:=jr;simp only [ho,e,jr,n1,false_and,or_false]
  constructor
  ·intro w;omega
  ·intro w;exact absurd w.1.2.2.1 w.2
 ·intro i;exact Own.Bf ks rfl rfl (by rw [pl];decide) (by rw [e];decide)
 ·intro i d _ m;rcases m with m | m
  ·exact .inl m
  ·exact absurd m.1 jr
 ·intro i j q _ _ _ _;rcases q with q | q
  ·exact .inl ⟨q.1,by rw [pl];decide,by rw [pl];decide,q.2.2.2⟩
  ·exact absurd q.1 jr
 ·unfold cR;simp
 ·unfold dy;simp
 ·rintro ⟨w1,w2,w3,w4⟩
  exact ⟨.inl ⟨ks,by rw [pl];decide,by rw [pl];decide⟩,w2,w3,by simp⟩
 ·rintro ⟨w1,w2,w3⟩
  exact ⟨⟨.inl ⟨ks,by rw [pl];decide,by rw [pl];decide⟩,w2,fun h=>absurd h jr⟩,fun _=>ks⟩
theorem gw.wm {x:Gr} (e:x.place=13) (b:gw nc ns x) {y:Gr} (h1:aO y=aO x) (h2:y.order=x.order) (h3:y.aB=x.aB) (h4:y.k=x.k) (h5:y.aq=x.aq) (h6:y.res.code=x.res.code) (h7:y.place=14):gw nc ns y:=by
 have hc:∀ j,cr y j=cr x j:=fun j=>by unfold cr;rw [h1]
 obtain ⟨b1,b2,b3,b4,b5,b6,b7,b8,b9,mu,sJ,sK,nk,yR,yS,vZ,yT,we,wh,yU⟩:=b
 constructor <;> (try simp only [h1,h2,h3,h4,h5,h6,h7,hc]) <;> (try assumption) <;> (try simp)
 ·exact sK (by omega)
 ·exact vZ (by omega)
 ·exact we (by omega)
theorem Sf.wm {x y:Gr} (L:Loc nc ns n x) (e:x.place=13) (st:x.status=0) (h1:y.ops=x.ops) (h2:y.at_=x.at_) (h3:y.bh=x.bh) (h4:y.hold=x.hold) (h5:y.res.code=x.res.code) (h6:y.order=x.order) (h7:y.aB=x.aB) (h8:y.aq=x.aq) (h9:y.au=x.au) (mZ:y.k=x.k) (mj:y.param=x.param) (lJ:y.bG=x.bG) (kD:y.place=14)
  (hs:x.token=true∧y.token=false∧y.status=0∨x.token=false∧y.token=false∧y.status=1):Sf nc ns n x y:=by
 have ho:aO y=aO x:=by unfold aO;rw [h1,h2]
 have w0:Wt x:=by
  have:=(L.pl.resolve_left (by omega)).2;unfold bU at this;unfold Wt SR SE;rw [e] at this ⊢;omega
 have ur:SR y↔SR x:=by unfold SR;rw [ho]
 have jW:SE y↔SE x:=by unfold SE;rw [ho]
 have w1:Wt y:=by grind [Wt,SE,SR]
 have ow:∀ i,Own y i↔Own x i:=by
  intro i;unfold Own;rw [ur,jW,kD,e,h3,h8];simp
 refine ⟨?_,?_,ow,?_,?_,?_,fun q=>by rw [h9];exact id,?_,?_⟩
 ·obtain ⟨a1,a2,a3,a4,a5,a6,a7,a8,a9,lM,nj,nV,oR,oS,oT,nW,rF,rG,qd,rH,rI,oU⟩:=L
  constructor <;> (try simp only [h1,h2,h3,h4,h9,mj,lJ,ho,ur,jW]) <;> (try assumption)
  ·rw [kD];rw [e] at a5;refine .inr ⟨(a5.resolve_left (by decide)).1,?_⟩;have:=(a5.resolve_left (by decide)).2;unfold bU at this ⊢;omega
  ·omega
  ·omega
  ·omega
  ·omega
  ·intro h;omega
  ·grind
  ·grind
  ·omega
  ·intro h;omega
  ·grind
  ·grind
  ·grind
  ·intro h1 _;exact (oU h1 (by unfold c9;omega)).wm e ho h6 h7 mZ h8 h5 kD
 ·intro ch;unfold bS;rw [jW,kD,e,ho,h7,mZ];simp
 ·intro i d _ m;unfold Match at m ⊢;have hc:∀ j,cr y j=cr x j:=fun j=>by unfold cr;rw [ho]
  rw [ur,jW,ho,h8,h6,hc];exact m
 ·intro i j q;unfold eH at q ⊢;rw [ur,jW,kD,h3,mj,h8,h6,mZ,h5];rcases q with q | q
  ·grind
  ·grind
 ·unfold dy;rw [kD];decide
 ·rintro ⟨v1,v2,v3,v4⟩
  refine ⟨w1,by rw [mj];exact v2,?_,?_⟩
  ·grind
  ·grind
 ·rintro ⟨v1,v2,v3⟩
  exact ⟨⟨w1,by rw [mj];exact v2,fun h=>by rw [lJ];exact v3 (jW.1 h)⟩,ur.1⟩
theorem MInv.wm (h:MInv s) (hg:g < s.gs.length) (st:(aa s g).status=0) (e:(aa s g).place=13):MInv (gi (aS s g 14) g):=by
 have L:=h.loc hg;have hs:gi (aS s g 14) g=ai s g (if (aa s g).token=true then { aa s g with place:=14,token:=false } else { aa s g with place:=14,status:=1 }):=by
  unfold gi aS;simp only [je s g g _ hg,if_true,st,true_and];unfold ai;simp only [List.set_set]
 rw [hs]
 cases ht:(aa s g).token
 ·rw [if_neg (by simp)];exact h.self hg (Sf.wm L e st rfl rfl rfl rfl rfl rfl rfl rfl rfl rfl rfl rfl rfl (.inr ⟨ht,ht,rfl⟩)) rfl (fun w=>by unfold cR at w;simp at w)
 ·rw [if_pos rfl];exact h.self hg (Sf.wm L e st rfl rfl rfl rfl rfl rfl rfl rfl rfl rfl rfl rfl rfl (.inl ⟨ht,rfl,st⟩)) rfl (fun w=>by unfold cR at w;simp at w)
end Sx
namespace Sx
variable {s:ah} {g:Nat} {nc ns n:Int}
theorem QZ {C:List (List Int)} {M:List Int} {f:Nat} {H:List Bool} {x:Int}:x∈M ++ C.flatten↔1≤Po.ei ⟨C,M,f,H⟩ x:=by
 unfold Po.ei;simp only;rw [List.mem_append,← List.count_pos_iff (a:=x) (l:=M),← List.count_pos_iff (a:=x) (l:=C.flatten)];omega
theorem mO {s:ah} {H:List Bool} {f:Nat} (hf:s.fresh=f) {x:Int}:gM s x=true↔0≤x∧x < s.fresh∧Po.ei ⟨s.cache,s.middle,f,H⟩ x=0:=by
 unfold gM tX;simp only [Bool.and_eq_true,decide_eq_true_eq,Bool.not_eq_true',List.contains_eq_mem,decide_eq_false_iff_not];rw [QZ (f:=f) (H:=H)];omega
theorem I3 (h:MInv s) (hg:g < s.gs.length):s.cache[g]?=some (s.cache.getD g []):=by
 have:g < s.cache.length:=by rw [h.ca];exact hg
 rw [List.getD_eq_getElem?_getD,List.getElem?_eq_getElem this];rfl
structure I4 (s t:ah) (g:Nat) (i:Int):Prop where
 i0:0≤i
 i1:i < s.aA.length
 nl:gM s i=false
 live:∀ j,gM t j=true↔gM s j=true∨j=i
 gs:t.gs=s.gs
 av:t.av=s.av
 aA:t.aA=s.aA
 sN:t.dx=s.dx
 cN:t.bX=s.bX
 di:t.di=s.di
 drawn:t.drawn=s.drawn
 done:t.done=s.done
 step:t.step=s.step
 cl:t.cache.length=s.cache.length
 f0:0≤t.fresh
 po:∃ H,Po.Inv t.dx.toNat t.bX.toNat ⟨t.cache,t.middle,t.fresh.toNat,H⟩
theorem Bi (h:MInv s) (hg:g < s.gs.length) (ok:(bn s g).2.2=true):I4 s (bn s g).1 g (bn s g).2.1:=by
 obtain ⟨H,I⟩:=h.po;have hf:s.fresh=(s.fresh.toNat:Int):=by have:=h.f0;omega
 have XM:=h.sn;have hc:=I3 h hg;have m1:=I.m1;unfold bn at ok ⊢
 split at ok
 ·rename_i e
  split at ok
  ·rename_i e2;rw [if_pos e,if_pos e2];have e0:=Po.Dw m1 e;have nc:Po.ei ⟨s.cache,s.middle,s.fresh.toNat,H⟩ s.fresh=0:=by
    by_cases q:1≤Po.ei ⟨s.cache,s.middle,s.fresh.toNat,H⟩ s.fresh
    ·have:=(I.bound _ q).2;simp only at this;omega
    ·omega
   refine ⟨h.f0,by simp only;omega,?_,?_,rfl,rfl,rfl,rfl,rfl,rfl,rfl,rfl,rfl,rfl,by simp only;have:=h.f0;omega,?_⟩
   ·cases q:gM s s.fresh
    ·rfl
    ·have:=(mO (H:=H) hf).1 q;omega
   ·intro j;rw [mO (H:=H) hf,mO (s:={ s with fresh:=s.fresh + 1 }) (H:=H) (f:=s.fresh.toNat + 1) (by simp only;omega)];simp only;have e3:Po.ei ⟨s.cache,s.middle,s.fresh.toNat + 1,H⟩ j=Po.ei ⟨s.cache,s.middle,s.fresh.toNat,H⟩ j:=rfl;rw [e3]
    constructor
    ·omega
    ·grind
   ·refine ⟨H,?_⟩;simp only;have:(s.fresh + 1).toNat=s.fresh.toNat + 1:=by have:=h.f0;omega
    rw [this];exact I.fresh (by simp only;omega)
  ·cases ok
 ·rename_i e;rw [if_neg e];obtain ⟨b0,b1⟩:0≤(Po.own s.bX.toNat (s.cache.getD g []) s.middle).getLastD 0∧Po.ei ⟨s.cache,s.middle,s.fresh.toNat,H⟩ ((Po.own s.bX.toNat (s.cache.getD g []) s.middle).getLastD 0)=1:=by
   have oV:=Po.Dx (size:=0) (s:=⟨s.cache,s.middle,s.fresh.toNat,H⟩) (most:=s.bX.toNat) hc e ((Po.own s.bX.toNat (s.cache.getD g []) s.middle).getLastD 0);have hi:Po.ind ((Po.own s.bX.toNat (s.cache.getD g []) s.middle).getLastD 0) ((Po.own s.bX.toNat (s.cache.getD g []) s.middle).getLastD 0)=1:=by simp [Po.ind]
   simp only at oV;rw [hi] at oV;have h1:1≤Po.ei ⟨s.cache,s.middle,s.fresh.toNat,H⟩ ((Po.own s.bX.toNat (s.cache.getD g []) s.middle).getLastD 0):=by omega
   exact ⟨(I.bound _ h1).1,by have:=I.one ((Po.own s.bX.toNat (s.cache.getD g []) s.middle).getLastD 0);omega⟩
  have oV:=fun a=>Po.Dx (size:=0) (s:=⟨s.cache,s.middle,s.fresh.toNat,H⟩) (most:=s.bX.toNat) hc e a
  have Bj:=I.sA hc e;have uf:=(I.bound _ (Nat.le_of_eq b1.symm)).2;simp only at oV uf Bj;unfold Po.sA at oV Bj;simp only at oV Bj;generalize (Po.own s.bX.toNat (s.cache.getD g []) s.middle).getLastD 0=i at *;generalize Po.own s.bX.toNat (s.cache.getD g []) s.middle=ow at *;refine ⟨b0,?_,?_,?_,rfl,rfl,rfl,rfl,rfl,rfl,rfl,rfl,rfl,by simp,h.f0,?_⟩
  ·have:=I.fl;simp only at this uf ⊢;omega
  ·cases q:gM s i
   ·rfl
   ·have:=((mO (H:=H) hf).1 q).2.2;omega
  ·intro j;have hj:=oV j;rw [mO (H:=H) hf,mO (s:={ s with cache:=s.cache.set g ow.dropLast,middle:=Po.bH s.bX.toNat (s.cache.getD g []) s.middle }) (H:=H.set i.toNat false) (f:=s.fresh.toNat) hf];simp only;unfold Po.ind at hj
   by_cases q:i=j
   ·grind
   ·grind
  ·exact ⟨_,Bj⟩
structure Q0 (s t:ah) (g:Nat) (i:Int):Prop where
 live:∀ j,gM t j=true↔gM s j=true∧j≠i
 gs:t.gs=s.gs
 av:t.av=s.av
 aA:t.aA=s.aA
 sN:t.dx=s.dx
 cN:t.bX=s.bX
 di:t.di=s.di
 drawn:t.drawn=s.drawn
 done:t.done=s.done
 step:t.step=s.step
 cl:t.cache.length=s.cache.length
 f0:0≤t.fresh
 po:∃ H,Po.Inv t.dx.toNat t.bX.toNat ⟨t.cache,t.middle,t.fresh.toNat,H⟩
theorem Q1 (h:MInv s) (hg:g < s.gs.length) {i:Int} (hl:gM s i=true):Q0 s (dO s g i) g i:=by
 obtain ⟨H,I⟩:=h.po;have hf:s.fresh=(s.fresh.toNat:Int):=by have:=h.f0;omega
 have hc:=I3 h hg;have XN:=(mO (H:=H) hf).1 hl;have hL:Po.live s.fresh.toNat H i=true:=by
  have:=I.live i;simp only at this;rw [this];simp;omega
 have Ey:=I.qY hc hL;have oV:=fun a=>Po.Hh (most:=s.bX.toNat) (s:=⟨s.cache,s.middle,s.fresh.toNat,H⟩) hc i a
 unfold dO;rw [if_pos hl];unfold Po.qY at Ey oV;simp only at Ey oV;refine ⟨?_,rfl,rfl,rfl,rfl,rfl,rfl,rfl,rfl,rfl,by simp,h.f0,_,Ey⟩;intro j;have hj:=oV j;rw [mO (H:=H) hf,mO (s:={ s with cache:=s.cache.set g ((s.cache.getD g []).take ((s.cache.getD g []).length - Po.ez s.bX.toNat (s.cache.getD g [])) ++ [i]),middle:=s.middle ++ (s.cache.getD g []).reverse.take (Po.ez s.bX.toNat (s.cache.getD g [])) }) (H:=H.set i.toNat true) (f:=s.fresh.toNat) hf];simp only;unfold Po.ind at hj
 by_cases q:i=j
 ·grind
 ·grind
end Sx
namespace Sx
variable {s t:ah} {g:Nat} {nc ns n:Int}
theorem at_sum {s t:ah} {g:Nat} {x:Gr} (hg:g < s.gs.length) (e:t.gs=s.gs.set g x) (ha:x.at_=(aa s g).at_):nX t=nX s:=by
 refine IZ (by rw [e,List.length_set]) fun h _=>?_
 rw [Ew s s.gs rfl g h x hg t e]
 split
 ·grind
 ·rfl
theorem yV {s t:ah} (e:t.av=s.av) (c:Int):cn t c=cn s c:=by unfold cn;rw [e]
theorem MInv.take (h:MInv s) (hg:g < s.gs.length) {i:Int} (T:I4 s t g i) {x:Gr} {d:Su} (lx:Loc s.av.length s.aA.length s.gs.length x) (hh:∀ ch,bS x ch↔bS (aa s g) ch)
  (ow:∀ j,Own x j↔Own (aa s g) j∨j=i) (mt:∀ j,Own (aa s g) j→Match x j (su s j)) (md:Match x i d) (dg:d.g=g) (nq:∀ j k,¬ eH (aa s g) j k) (nw:¬ cR x) (gH:¬ dy x) (wk:x.au=(aa s g).au) (wt:¬ Wt (aa s g)) (ha:x.at_=(aa s g).at_) :
  MInv (ai (aV t i d) g x):=by
 have e:=fE s g;have mC:(ai (aV t i d) g x).gs=s.gs.set g x:=by simp only [ai,aV];rw [T.gs]
 have oW:(ai (aV t i d) g x).aA=s.aA.set i.toNat d:=by simp only [ai,aV];rw [T.aA]
 have uu:(ai (aV t i d) g x).av=s.av:=T.av;have hv:=Inv.take h.v (g:=g) (i:=i) (x:=x) (d:=d) (by omega) (by omega) T.i0 T.i1 (by simp [T.nl]) lx (by rw [e];exact hh) (by rw [e];exact ow) (by rw [e];exact mt) md dg (by rw [e];exact nq) nw gH (by rw [e];exact wk) (by rw [e];exact wt);obtain ⟨H,hH⟩:=T.po;refine ⟨?_,?_,?_,?_,?_,?_,?_,?_,?_,T.f0,⟨H,hH⟩,?_,?_,?_,?_,?_⟩
 ·unfold V;rw [mC,oW,uu,List.length_set,List.length_set];refine hv.sH (fun k k0 _=>rJ hg mC k k0) (fun ch _ _=>yV uu ch) (fun j j0 _=>Ba T.i0 T.i1 oW j j0) (fun j _ _=>?_);exact T.live j
 ·grind
 ·rw [mC,List.length_set];exact h.n8
 ·rw [uu];exact h.c8
 ·rw [oW,List.length_set];exact h.sn.trans T.sN.symm
 ·rw [oW,List.length_set];exact h.mA
 ·show 1≤t.bX;rw [T.cN];exact h.c1
 ·show t.bX≤16;rw [T.cN];exact h.sM
 ·rw [mC,List.length_set];exact T.cl.trans h.ca
 ·show 0≤t.drawn;rw [T.drawn];exact h.rK
 ·show t.drawn≤t.di.length;rw [T.drawn,T.di];exact h.sO
 ·show ∀ x∈t.di,_;rw [T.di];exact h.du
 ·show t.di.length≤1000;rw [T.di];exact h.d5
 ·rw [at_sum hg mC ha];show (t.done.length:Int)=_;rw [T.done];exact h.dn
theorem MInv.I5 (h:MInv s) (hg:g < s.gs.length) {i:Int} (hi:Own (aa s g) i) {x:Gr} (lx:Loc s.av.length s.aA.length s.gs.length x) (hh:∀ ch,bS x ch↔bS (aa s g) ch)
  (ow:∀ j,Own x j↔Own (aa s g) j∧j≠i) (mt:∀ j d,Own x j→Match (aa s g) j d→Match x j d) (nq:∀ j k,¬ eH (aa s g) j k) (nw:¬ cR x) (gH:¬ dy x) (wk:x.au=(aa s g).au) (wt:¬ Wt (aa s g)) (ha:x.at_=(aa s g).at_) :
  MInv (ai (cz s g i) g x):=by
 have e:=fE s g;have uv:=Inv.own h.v (g:Int) (by omega) (by omega) i (by rw [e];exact hi);have T:=Q1 h hg uv.2.2.2;have i0:=hi.1;have i1:=uv.1;unfold cz;generalize dO s g i=t at *;have mC:(ai (aV t i fB) g x).gs=s.gs.set g x:=by simp only [ai,aV];rw [T.gs]
 have oW:(ai (aV t i fB) g x).aA=s.aA.set i.toNat fB:=by simp only [ai,aV];rw [T.aA]
 have uu:(ai (aV t i fB) g x).av=s.av:=T.av;have hv:=Inv.cz h.v (g:=g) (i:=i) (x:=x) (by omega) (by omega) (by rw [e];exact hi) lx (by rw [e];exact hh) (by rw [e];exact ow) (fun j hj=>mt j _ hj (by
  have:=(Inv.own h.v (g:Int) (by omega) (by omega) j (by rw [e];exact ((ow j).1 hj).1)).2.1;rw [e] at this;exact this)) (by rw [e];exact nq) nw gH (by rw [e];exact wk) (by rw [e];exact wt)
 obtain ⟨H,hH⟩:=T.po;refine ⟨?_,?_,?_,?_,?_,?_,?_,?_,?_,T.f0,⟨H,hH⟩,?_,?_,?_,?_,?_⟩
 ·unfold V;rw [mC,oW,uu,List.length_set,List.length_set];refine hv.sH (fun k k0 _=>rJ hg mC k k0) (fun ch _ _=>yV uu ch) (fun j j0 _=>Ba i0 i1 oW j j0) (fun j _ _=>?_);exact T.live j
 ·grind
 ·rw [mC,List.length_set];exact h.n8
 ·rw [uu];exact h.c8
 ·rw [oW,List.length_set];exact h.sn.trans T.sN.symm
 ·rw [oW,List.length_set];exact h.mA
 ·show 1≤t.bX;rw [T.cN];exact h.c1
 ·show t.bX≤16;rw [T.cN];exact h.sM
 ·rw [mC,List.length_set];exact T.cl.trans h.ca
 ·show 0≤t.drawn;rw [T.drawn];exact h.rK
 ·show t.drawn≤t.di.length;rw [T.drawn,T.di];exact h.sO
 ·show ∀ x∈t.di,_;rw [T.di];exact h.du
 ·show t.di.length≤1000;rw [T.di];exact h.d5
 ·rw [at_sum hg mC ha];show (t.done.length:Int)=_;rw [T.done];exact h.dn
theorem Q2 {x y:Gr} (L:Loc nc ns n x) (k:SR x) (e:x.place=15) (st:x.status=0) (hy:y={ x with place:=18,bh:=-1 }):Loc nc ns n y:=by
 have ho:aO y=aO x:=by subst hy;rfl
 have h1:y.ops=x.ops∧y.at_=x.at_∧y.place=18∧y.status=x.status∧y.token=x.token∧y.param=x.param∧y.bh=-1∧y.au=x.au∧y.aq=x.aq:=by subst hy;simp
 clear hy;obtain ⟨a1,a2,a3,a4,a5,a6,a7,a8,a9,lM,nj,nV,oR,oS,oT,nW,rF,rG,qd,rH,rI,oU⟩:=L
 constructor <;> simp only [Wt,SR,SE,e,st,Own,bU,c9,ho,h1] at * <;> grind
theorem nY (s:ah) (g:Nat) (x:Gr) (p:Int) (hg:g < s.gs.length):aS (ai s g x) g p=ai s g { x with place:=p }:=by
 unfold aS;rw [je s g g x hg,if_pos rfl];unfold ai;simp only [List.set_set]
theorem MInv.Q3 (h:MInv s) (hg:g < s.gs.length) (st:(aa s g).status=0) (e:(aa s g).place=15) (k:2≤(ag s g).kind∧(ag s g).kind≤6):MInv (aS (ai (cz s g (aa s g).bh) g { aa s g with bh:=-1 }) g 18):=by
 have L:=h.loc hg;have ks:SR (aa s g):=by
  have:=(L.pl.resolve_left (by omega)).2;have hk:(aO (aa s g)).kind=(ag s g).kind:=rfl;unfold bU at this;unfold SR;rw [e] at this;omega
 have jr:=ks.ne;have hm:=L.mi ks (by omega) (by omega);have uv:Own (aa s g) (aa s g).bh:=⟨hm.1,.inl ⟨ks,by omega,by omega,rfl⟩⟩
 have iE:g < (cz s g (aa s g).bh).gs.length:=by
  unfold cz aV;simp only;unfold dO;split <;> exact hg
 rw [nY _ _ _ _ iE];have ho:aO { aa s g with place:=18,bh:=-1 }=aO (aa s g):=rfl;refine h.I5 hg uv (x:={ aa s g with place:=18,bh:=-1 }) (Q2 L ks e st rfl) ?_ ?_ ?_ ?_ ?_ ?_ rfl ?_ rfl
 ·intro ch;unfold bS;have n1:¬ SE { aa s g with place:=18,bh:=-1 }:=jr;simp only [ho,e,jr,n1,false_and,or_false];omega
 ·intro j;have n1:¬ SE { aa s g with place:=18,bh:=-1 }:=jr
  constructor
  ·rintro ⟨_,w | w⟩
   ·grind
   ·exact absurd w.1 n1
  ·rintro ⟨⟨_,w | w⟩,w2⟩
   ·omega
   ·exact absurd w.1 jr
 ·intro j d w;rcases w with ⟨_,w | w⟩
  ·grind
  ·exact absurd w.1 jr
 ·rintro i j (q | q)
  ·omega
  ·exact absurd q.1 jr
 ·unfold cR;simp
 ·unfold dy;simp
 ·rintro (w | w)
  ·omega
  ·exact absurd w.1 jr
end Sx
namespace Sx
variable {s t:ah} {g:Nat} {nc ns n:Int}
theorem MInv.Q4 (h:MInv s) (hg:g < s.gs.length) (st:(aa s g).status=0) (e:(aa s g).place=16) (k:2≤(ag s g).kind∧(ag s g).kind≤6):MInv (au (free s (ag s g).ch) g):=by
 obtain ⟨c0,c1⟩:=h.rL hg (by omega) k;have hk:(aO (aa s g)).kind=(ag s g).kind:=rfl;have hh:bS (aa s g) (ag s g).ch:=.inl ⟨k.1,k.2,rfl,by omega⟩;have key:∀ p:Int,(p=17∧(aa s g).au≠[]∨p=18∧(aa s g).au=[])→MInv (aS (free s (ag s g).ch) g p):=by
  intro p hp;refine h.wj hg (x:={ aa s g with place:=p }) ⟨rfl,rfl,rfl,rfl,rfl,rfl,?_,st,?_,?_,?_,?_,?_,?_,?_⟩ c0 c1 ⟨.inr (.inr ⟨hh,rfl,fun ch=>?_⟩),h.gP c0 c1,⟨List.Sublist.refl _,List.Sublist.refl _⟩,.inl ⟨rfl,rfl⟩⟩ ?_ ?_
  ·unfold SE;omega
  ·omega
  ·omega
  ·simp only;omega
  ·unfold bU;simp only;omega
  ·grind
  ·simp only;omega
  ·grind
  ·have ho:aO { aa s g with place:=p }=aO (aa s g):=rfl;unfold bS SE;rw [ho,hk];simp only [e]
   constructor
   ·intro w;omega
   ·rintro ⟨w | w,w2⟩
    ·exact absurd w.2.2.1 w2
    ·omega
  ·unfold cR;simp only;omega
  ·simp only;omega
 unfold au
 split
 ·rename_i q;refine key 17 (.inl ⟨rfl,fun w=>?_⟩);have:(aa (free s (ag s g).ch) g).au=(aa s g).au:=rfl;rw [this,w] at q;simp at q
 ·rename_i q;refine key 18 (.inr ⟨rfl,?_⟩);have:(aa (free s (ag s g).ch) g).au=(aa s g).au:=rfl;rw [this] at q;exact List.length_eq_zero_iff.1 (by omega)
theorem Rest.two (s:ah) {g p:Nat} {x y:Gr} (hg:g < s.gs.length) (hp:p < s.gs.length) (hx:x.at_=(aa s g).at_) (hy:y.at_=(aa s p).at_) (bV:p≠g):Rest s (Sx.ai (Sx.ai s p y) g x):=by
 refine (Rest.dR s hp hy).trans (Rest.dR _ (by simpa [Sx.ai] using hg) ?_);rw [je s p g y hp,az];exact hx
theorem Q5 {x y:Gr} {p:Int} {l:List Int} (L:Loc nc ns n x) (e:x.place=17) (st:x.status=0) (hw:x.au=p :: l) (h1:y.ops=x.ops) (h2:y.at_=x.at_) (h3:y.status=x.status) (h4:y.token=x.token) (h5:y.param=x.param) (h6:y.au=l) (hp:y.place=17∧l≠[]∨y.place=18∧l=[])
  (nP:x.param=-1) (nT:x.token=false):Loc nc ns n y:=by
 have ho:aO y=aO x:=by unfold aO;rw [h1,h2]
 have I6:=L.w4;have Ez:=L.w3;rw [hw] at I6 Ez;have nh:=List.nodup_cons.1 I6;have hy:y.place=17∨y.place=18:=by omega
 have qR:=(L.pl.resolve_left (by omega))
 have kG:=L.kG;have mk:=L.AY;have p0:=L.p0
 constructor
 ·rw [h1];exact L.nU
 ·rw [h1];exact L.ig
 ·rw [h2];exact L.a0
 ·grind
 ·rw [h1,h2,ho];refine .inr ⟨qR.1,?_⟩;rcases hp with c | c
  ·grind
  ·rw [c.1];exact .inl rfl
 ·grind
 ·rw [h3];exact kG
 ·rw [h3];omega
 ·omega
 ·rw [h3];omega
 ·rw [h4,nT];simp
 ·grind
 ·grind
 ·grind
 ·rw [h6];exact nh.2
 ·omega
 ·intro _ c1 c2;omega
 ·rw [h5];exact p0
 ·omega
 ·rw [h5];omega
 ·rw [h5];omega
 ·intro _ c;unfold c9 at c;omega
theorem MInv.Q6 (h:MInv s) (hg:g < s.gs.length) (st:(aa s g).status=0) (e:(aa s g).place=17) :
  MInv (au (ai (ready s ((aa s g).au.headD 0).toNat) g { aa s g with au:=(aa s g).au.tail }) g):=by
 have L:=h.loc hg;have eA:=fE s g;obtain ⟨p,l,hw⟩:∃ p l,(aa s g).au=p :: l:=by
  cases w:(aa s g).au with
  | nil=>exact absurd w (L.w2 e)
  | cons p l=>exact ⟨p,l,rfl⟩
 have hp:=L.w3 p (by rw [hw];simp);obtain ⟨k1,k2,k3,k4,k5⟩:=Inv.wk h.v (g:Int) (by omega) (by omega) p (by rw [eA,hw];simp);obtain ⟨q,rfl⟩:∃ q:Nat,p=q:=⟨p.toNat,by omega⟩
 have hq:q < s.gs.length:=by omega
 have yN:q≠g:=by omega
 rw [fE] at k2 k3 k4 k5;have Lq:=h.loc hq;have oB:(aa s q).status=0∨(aa s q).status=1:=by
  rcases Lq.kG with w | w | w
  ·exact .inl w
  ·exact .inr w
  ·have:=(Lq.IT w).1;rcases k2 with k2 | k2 <;> omega
 obtain ⟨y,hy⟩:∃ y,(if (aa s q).status=1 then { aa s q with status:=0 } else if (aa s q).status=0 then { aa s q with token:=true } else aa s q)=y:=⟨_,rfl⟩
 have er:ready s q=ai s q y:=by unfold ready;rw [hy]
 have Q7:((aa s g).au.headD 0).toNat=q:=by rw [hw];simp
 have Q8:(aa s g).au.tail=l:=by rw [hw];rfl
 rw [Q7,Q8,er];obtain ⟨pl,qR,hs⟩:∃ pl:Int,(pl=17∧l≠[]∨pl=18∧l=[])∧au (ai (ai s q y) g { aa s g with au:=l }) g=ai (ai s q y) g { aa s g with au:=l,place:=pl }:=by
  have iE:g < (ai s q y).gs.length:=by simpa [ai] using hg
  by_cases c:l=[]
  ·refine ⟨18,.inr ⟨rfl,c⟩,?_⟩;unfold au;rw [je _ g g _ iE,if_pos rfl,if_neg (by simp [c]),nY _ _ _ _ iE]
  ·refine ⟨17,.inl ⟨rfl,c⟩,?_⟩;unfold au;rw [je _ g g _ iE,if_pos rfl,if_pos (List.length_pos_iff.2 c),nY _ _ _ _ iE]
 rw [hs];have py:Part (aa s q) y∧y.param=(aa s q).param∧y.bG=(aa s q).bG∧((aa s q).status=1∧y.status=0∧y.token=(aa s q).token∨(aa s q).status=0∧y.status=0∧y.token=true):=by
  rw [← hy];rcases oB with w | w
  ·rw [az,if_pos w];exact ⟨⟨rfl,rfl,rfl,rfl,rfl,rfl,rfl,rfl,rfl,rfl,rfl⟩,rfl,rfl,.inr ⟨w,w,rfl⟩⟩
  ·rw [if_pos w];exact ⟨⟨rfl,rfl,rfl,rfl,rfl,rfl,rfl,rfl,rfl,rfl,rfl⟩,rfl,rfl,.inl ⟨w,rfl,rfl⟩⟩
 obtain ⟨x,hx⟩:∃ x,({ aa s g with au:=l,place:=pl }:Gr)=x:=⟨_,rfl⟩
 have x1:x.ops=(aa s g).ops∧x.at_=(aa s g).at_∧x.place=pl∧x.status=(aa s g).status∧x.token=(aa s g).token∧x.param=(aa s g).param∧x.bh=(aa s g).bh∧x.aq=(aa s g).aq:=by subst hx;simp
 have x2:x.au=l:=by subst hx;rfl
 have ho:aO x=aO (aa s g):=by subst hx;rfl
 rw [hx];have I7:x.place=17∨x.place=18:=by omega
 have I8:∀ (z:Gr) i,z.place=17∨z.place=18→¬ Own z i:=by
  rintro z i c ⟨_,w | w⟩
  ·omega
  ·have:=w.2.1;omega
 have nS:∀ i,¬ Own (aa s g) i∧¬ Own x i:=fun i=>⟨I8 _ i (.inl e),I8 _ i I7⟩
 have Q9:¬ Wt (aa s g):=by rintro (w | w) <;> omega
 have nZ:∀ i j,¬ eH (aa s g) i j:=by rintro i j (w | w) <;> omega
 have qF:∀ ch,bS x ch↔bS (aa s g) ch:=by
  have I9:∀ (z:Gr) ch,z.place=17∨z.place=18→¬ bS z ch:=by
   rintro z ch c (w | w)
   ·omega
   ·have:=w.2;omega
  exact fun ch=>⟨fun w=>absurd w (I9 _ _ I7),fun w=>absurd w (I9 _ _ (.inl e))⟩
 have nP:(aa s g).param=-1:=by
  have:=L.p0
  by_cases c:0≤(aa s g).param
  ·exact absurd (L.p2 c).2 (nS _).1
  ·omega
 have nT:(aa s g).token=false:=by
  cases c:(aa s g).token
  ·rfl
  ·have:=(L.tk c).2.1;omega
 have lx:Loc s.av.length s.aA.length s.gs.length x:=Q5 L e st hw x1.1 x1.2.1 x1.2.2.2.1 x1.2.2.2.2.1 x1.2.2.2.2.2.1 x2 (by rw [x1.2.2.1];exact qR) nP nT;refine h.rest (by subst hx;exact Rest.two s hg hq rfl py.1.at_ yN) (V.of (by subst hx;exact Rest.two s hg hq rfl py.1.at_ yN) (Inv.readies h.v (g:=g) (p:=(q:Int)) (x:=x) (y:=y) (l:=l) (by omega) (by omega) lx ?_ ?_ ?_ ?_ ?_ ?_ ?_ x2 ?_ ?_ ?_ ?_ ?_) (fun k k0=>Ex hg hq rfl k k0) (fun _ _=>rfl) (fun _ _=>rfl))
 all_goals (try rw [eA]);(try rw [fE])
 ·exact qF
 ·grind
 ·grind
 ·exact nZ
 ·unfold cR;omega
 ·unfold dy;omega
 ·exact hw
 ·exact Q9
 ·exact py.1
 ·exact py.2.1
 ·exact py.2.2.1
 ·exact py.2.2.2
theorem MInv.common (h:MInv s) (hg:g < s.gs.length) (st:(aa s g).status=0) (k:2≤(ag s g).kind∧(ag s g).kind≤6∨(aa s g).place=13∨(aa s g).place=17):MInv (common s g).1:=by
 unfold Sx.common;simp only
 by_cases e4:(aa s g).place=4
 ·rw [if_pos e4];have k:=k.resolve_right (by omega);unfold tryLock
  by_cases hl:(cn s (ag s g).ch).lock=-1
  ·simp only [if_pos hl]
   by_cases k6:(ag s g).kind=6
   ·simp only [if_pos k6,if_true];exact h.s4 hg st k e4 21 (.inl ⟨k6,rfl⟩) hl
   ·simp only [if_neg k6,if_true];exact h.s4 hg st k e4 5 (.inr ⟨k6,rfl⟩) hl
  ·grind
 rw [if_neg e4]
 by_cases rM:(aa s g).place=12
 ·rw [if_pos rM];exact h.QY hg st rM (k.resolve_right (by omega))
 rw [if_neg rM]
 by_cases oX:(aa s g).place=13
 ·rw [if_pos oX];exact h.wm hg st oX
 rw [if_neg oX]
 by_cases rN:(aa s g).place=15
 ·rw [if_pos rN];exact h.Q3 hg st rN (k.resolve_right (by omega))
 rw [if_neg rN]
 by_cases rO:(aa s g).place=16
 ·rw [if_pos rO];exact h.Q4 hg st rO (k.resolve_right (by omega))
 rw [if_neg rO]
 by_cases nu:(aa s g).place=17
 ·rw [if_pos nu];exact h.Q6 hg st nu
 rw [if_neg nu];exact h
end Sx
namespace Sx
variable {s t:ah} {g:Nat} {nc ns n:Int}
theorem Ja {s:ah} {c:Int} (c0:1≤c) (c1:c≤s.av.length):aE s c (cn s c)=s:=by
 unfold aE cn;have:(c - 1).toNat < s.av.length:=by omega
 rw [List.getD_eq_getElem?_getD,List.getElem?_eq_getElem this];simp
structure wq (s:ah) (g:Nat) (c i:Int) (o:Nat):Prop where
 i0:0≤i
 i1:i < s.aA.length
 ch:(su s i).ch=c
 g_:(su s i).g=o
 o1:o < s.gs.length
 own:Own (aa s o) i
 q:eH (aa s o) i (su s i).cs
 mt:Match (aa s o) i (su s i)
theorem MInv.uw (h:MInv s) {c i:Int} (c0:1≤c) (c1:c≤s.av.length) (hq:i∈(cn s c).recv∨i∈(cn s c).send):∃ o,wq s g c i o:=by
 obtain ⟨t1,t2,t3,t4,t5,t6,t7,t8⟩:=Inv.A9 h.v c0 c1 hq;refine ⟨(su s i).g.toNat,t1,t2,t3,by omega,by omega,t6,t7,t8⟩
theorem MInv.Bk (h:MInv s) (hg:g < s.gs.length) {i:Int} {o:Nat} {x y:Gr} {c:Int} {c':Cn} (q:wq s g c i o) (lx:Loc s.av.length s.aA.length s.gs.length x) (hc:jI s.gs.length (cn s) g (aa s g) x c c') (ow:∀ i,Own x i↔Own (aa s g) i) (mt:∀ i d,Own x i→Match (aa s g) i d→Match x i d)
  (nq:∀ i j,¬ eH (aa s g) i j) (nw:¬ cR x) (wx:∀ q∈x.au,q∈(aa s g).au) (mz:¬ Wt (aa s g))
  (hx:dy x) (xi:x.hold=i) (c0:1≤c) (c1:c≤s.av.length) (xh:bS x c) (hq:i∈(cn s c).recv∨i∈(cn s c).send) (py:Part (aa s o) y) (e1:y.param=(aa s o).param) (e2:y.token=(aa s o).token) (e3:y.status=(aa s o).status)
  (hp:(su s i).cs < 0∧i∉c'.recv∧i∉c'.send∧y.bG=(aa s o).bG∨0≤(su s i).cs∧(aa s o).bG=false∧y.bG=true∧bS (aa s g) c) (ha:x.at_=(aa s g).at_) :
  MInv (ai (ai (aE s c c') o y) g x):=by
 have bV:o≠g:=fun e=>nq _ _ (e ▸ q.q)
 have eA:=fE s g;have eO:gA s (su s i).g=aa s o:=by rw [q.g_,fE]
 have r:Rest s (ai (ai (aE s c c') o y) g x):=(Rest.dS s c c').trans (Rest.two (Sx.aE s c c') (g:=g) (p:=o) hg q.o1 ha py.at_ bV);refine h.rest r (V.of r (Inv.QN h.v (g:=g) (i:=i) (x:=x) (y:=y) (c:=c) (c':=c') (by omega) (by omega) lx (by rw [eA];exact hc) (by rw [eA];exact ow) (by rw [eA];exact mt) (by rw [eA];exact nq) nw (by rw [eA];exact wx) (by rw [eA];exact mz) hx xi q.ch c0 c1 xh hq (by rw [eO];exact py) (by rw [eO];exact e1) (by rw [eO];exact e2) (by rw [eO];exact e3) (by rw [eO,eA];exact hp)) (fun k k0=>?_) (fun ch w=>nr c0 c1 rfl ch w) (fun _ _=>rfl));rw [q.g_];exact Ex (s:=s) hg q.o1 rfl k k0
theorem MInv.EA (h:MInv s) (hg:g < s.gs.length) {i:Int} {o:Nat} {x y:Gr} {c:Int} {c':Cn} {d:Su} (c0:1≤c) (c1:c≤s.av.length) (lx:Loc s.av.length s.aA.length s.gs.length x) (hc:jI s.gs.length (cn s) g (aa s g) x c c') (ow:∀ i,Own x i↔Own (aa s g) i) (mt:∀ i d,Own x i→Match (aa s g) i d→Match x i d)
  (nq:∀ i j,¬ eH (aa s g) i j) (nw:¬ cR x) (gH:¬ dy x) (wx:∀ q∈x.au,q∈(aa s g).au∨q=(o:Int)) (mz:¬ Wt (aa s g))
  (sc:(su s i).ch=c) (so:(su s i).g=o) (o1:o < s.gs.length) (bV:o≠g) (F1:Wt (aa s o)) (F2:(aa s o).param=-1) (F3:Own (aa s o) i) (F4:SE (aa s o)→y.bG=true) (F5:i∉c'.recv∧i∉c'.send)
  (other:∀ k:Nat,k < s.gs.length→k≠g→dy (aa s k)→(su s (aa s k).hold).g=o→False)
  (py:Part (aa s o) y) (e1:y.param=i) (e2:y.token=(aa s o).token) (e3:y.status=(aa s o).status) (ha:x.at_=(aa s g).at_)
  (hd:d.g=(su s i).g∧d.ch=(su s i).ch∧d.cs=(su s i).cs∧d.send=(su s i).send∧d.live=(su s i).live) :
  MInv (ai (aV (ai (aE s c c') o y) i d) g x):=by
 have eA:=fE s g;have eO:gA s (su s i).g=aa s o:=by rw [so,fE]
 have i1:=(Inv.own h.v (o:Int) (by omega) (by omega) i (by rw [fE];exact F3)).1;have i0:=F3.1;have r:Rest s (ai (aV (ai (aE s c c') o y) i d) g x):=by
  have r1:=(Rest.dS s c c').trans (Rest.two (Sx.aE s c c') (g:=g) (p:=o) hg o1 ha py.at_ bV);refine ⟨r1.gl,r1.cl,by simp [Sx.aV,Sx.ai,Sx.aE],r1.sN,r1.cN,r1.ca,r1.md,r1.fr,r1.dw,r1.dn,r1.Bb,r1.at_⟩
 have v:=Inv.serve h.v (g:=g) (i:=i) (x:=x) (y:=y) (c:=c) (c':=c') (by omega) (by omega) lx (by rw [eA];exact hc) (by rw [eA];exact ow) (by rw [eA];exact mt) (by rw [eA];exact nq) nw gH (by rw [eA,so];exact wx) (by rw [eA];exact mz) sc (by omega) (by omega) (by omega) (by rw [eO];exact F1) (by rw [eO];exact F2) (by rw [eO];exact F3) (by rw [eO];exact F4) F5 (fun k k0 k1 kg cl e=>by
  refine other k.toNat (by omega) (by omega) cl (by rw [← so];exact e)) (by rw [eO];exact py) e1 (by rw [eO];exact e2) (by rw [eO];exact e3)
 have v2:=v.QJ (S':=up (su s) i d) (fun j=>by
  unfold up
  by_cases e:j=i
  ·rw [if_pos e,e];exact hd
  ·rw [if_neg e];exact ⟨rfl,rfl,rfl,rfl,rfl⟩)
 refine h.rest r (V.of r v2 (fun k k0=>?_) (fun ch w=>nr c0 c1 rfl ch w) (fun j j0=>Ba i0 i1 rfl j j0));rw [so];exact Ex (s:=s) hg o1 rfl k k0
def cC (c:Cn) (i:Int):Cn:={ c with recv:=gO c.recv i,send:=gO c.send i }
theorem drop_eq {s:ah} {i c:Int} (e:(su s i).ch=c) (c0:1≤c) (c1:c≤s.av.length):aZ s i=aE s c (cC (cn s c) i):=by
 subst e;unfold aZ;rw [if_pos (nt.2 ⟨c0,c1⟩)];rfl
theorem n9 {l:List Int} {i:Int}:i∉gO l i:=by unfold gO;simp
theorem js {l:List Int} {i:Int}:(gO l i).Sublist l:=by unfold gO;exact List.filter_sublist
theorem Bl {l:List Gr} {g o:Nat} {a b c:Gr} (h:o≠g):((l.set g a).set o b).set g c=(l.set o b).set g c:=by
 rw [List.set_comm _ _ (by omega:g≠o),List.set_set]
theorem Jb {s:ah} {g o:Nat} {i:Int} (hg:g < s.gs.length) (so:(su s i).g=o) (bV:o≠g):pair s g i=ai (ai s o { aa s o with bT:=(aa s g).t,wi:=g,dm:=(su s i).cs }) g { aa s g with bT:=(aa s g).t,wi:=o }:=by
 unfold pair;simp only [so,Int.toNat_natCast]
theorem gy {s:ah} {g h:Nat} {x:Gr} (hg:g < s.gs.length):aa (ai s g x) h=if h=g then x else aa s h:=je s g h x hg
theorem eV {s:ah} {g:Nat} {x:Gr}:(ai s g x).gs.length=s.gs.length:=by simp [ai]
theorem EB (hg:g < s.gs.length) {i c:Int} {o:Nat} {cT hand:Int} (so:(su s i).g=o) (bV:o≠g) (sc:(su s i).ch=c) (c0:1≤c) (c1:c≤s.av.length) (hn:¬ 0≤(su s i).cs) :
  taken s g i cT hand=ai (ai (aE s c (cC (cn s c) i)) o { aa s o with bT:=s.step,wi:=g,dm:=(su s i).cs }) g { aa s g with hold:=i,t:=s.step,bT:=s.step,wi:=o,place:=hand }:=by
 unfold taken;rw [if_neg hn];have e1:aZ (ai s g { aa s g with hold:=i,t:=s.step }) i=aE (ai s g { aa s g with hold:=i,t:=s.step }) c (cC (cn s c) i):=drop_eq (s:=ai s g { aa s g with hold:=i,t:=s.step }) sc c0 c1;have iE:g < (aE (ai s g { aa s g with hold:=i,t:=s.step }) c (cC (cn s c) i)).gs.length:=by show g < (ai s g _).gs.length;rw [eV];exact hg
 rw [e1,Jb iE so bV];have g1:aa (aE (ai s g { aa s g with hold:=i,t:=s.step }) c (cC (cn s c) i)) g={ aa s g with hold:=i,t:=s.step }:=by rw [Be,gy hg,if_pos rfl]
 have g2:aa (aE (ai s g { aa s g with hold:=i,t:=s.step }) c (cC (cn s c) i)) o=aa s o:=by rw [Be,gy hg,if_neg bV]
 rw [g1,g2,nY _ _ _ _ (by rw [eV];exact iE)];unfold ai aE;simp only;rw [Bl bV];rfl
theorem EC {i:Int} {cT hand:Int} (hg:g < s.gs.length) (hn:0≤(su s i).cs):taken s g i cT hand=ai s g { aa s g with hold:=i,place:=cT }:=by
 unfold taken;rw [if_pos hn,nY _ _ _ _ hg]
theorem wq.ne (h:MInv s) {c i:Int} {o:Nat} (q:wq s g c i o) (nq:∀ i j,¬ eH (aa s g) i j):o≠g:=fun e=>nq _ _ (e ▸ q.q)
theorem MInv.s6 (h:MInv s) (hg:g < s.gs.length) (st:(aa s g).status=0) (k:2≤(ag s g).kind∧(ag s g).kind≤5) (e:(aa s g).place=6) {i:Int} (hq:i∈(cn s (ag s g).ch).recv∨i∈(cn s (ag s g).ch).send):MInv (taken s g i 7 8):=by
 obtain ⟨c0,c1⟩:=h.rL hg (by omega) (by omega);have hk:(aO (aa s g)).kind=(ag s g).kind:=rfl;have L:=h.loc hg;obtain ⟨o,q⟩:=h.uw (g:=g) c0 c1 hq;have eI:(aa s g).au=[]:=by
  by_cases w:(aa s g).au=[]
  ·exact w
  ·have:=L.w1 w;omega
 have go:∀ (x:Gr) (p:Int),p=7∨p=8→x.ops=(aa s g).ops→x.at_=(aa s g).at_→x.status=(aa s g).status→x.token=(aa s g).token→x.param=(aa s g).param→x.au=(aa s g).au→x.place=p→gZ (aa s g) x:=by
  intro x p hp h1 h2 h3 h4 h5 h6 h7;refine ⟨h1,h2,h3,h4,h5,h6,by unfold SE;omega,st,by omega,by omega,by omega,?_,⟨by omega,by omega,by omega,by omega⟩,by omega,.inl eI⟩;unfold bU;omega
 have hH:∀ x:Gr,aO x=aO (aa s g)→(x.place=7∨x.place=8)→bS x (ag s g).ch:=fun x ho hp=>.inl ⟨by rw [ho];omega,by rw [ho];omega,by rw [ho];rfl,by omega⟩
 by_cases hn:0≤(su s i).cs
 ·rw [EC hg hn];have G:=go { aa s g with hold:=i,place:=7 } 7 (.inl rfl) rfl rfl rfl rfl rfl rfl rfl;refine h.self hg (G.sf L (fun _=>⟨q.i0,q.i1⟩) ?_ (by simp)) rfl (fun _=>?_)
  ·rw [e];unfold hP;simp
  ·simp only;rw [q.ch];exact ⟨c0,c1,hH _ rfl (.inl rfl),hq,hn⟩
 ·have G:=go { aa s g with hold:=i,t:=s.step,bT:=s.step,wi:=o,place:=8 } 8 (.inr rfl) rfl rfl rfl rfl rfl rfl rfl;rw [EB hg q.g_ (q.ne h (G.nq)) q.ch c0 c1 hn];refine h.Bk hg q (G.loc L (fun _=>⟨q.i0,q.i1⟩)) ⟨.inl ⟨rfl,G.hh (by rw [e];unfold hP;simp)⟩,h.gP c0 c1,⟨js,js⟩,.inr ?_⟩ (fun i=>⟨fun w=>absurd w (G.own i).2,fun w=>absurd w (G.own i).1⟩) (fun i d w=>absurd w (G.own i).2) G.nq (by unfold cR;simp) (fun q=>id) G.nw (.inl rfl) rfl c0 c1 (hH _ rfl (.inr rfl)) hq ⟨rfl,rfl,rfl,rfl,rfl,rfl,rfl,rfl,rfl,rfl,rfl⟩ rfl rfl rfl (.inl ⟨by omega,n9,n9,rfl⟩) rfl;exact .inl ⟨by omega,by omega,rfl,by omega⟩
end Sx
namespace Sx
variable {s t:ah} {g:Nat} {nc ns n:Int}
theorem MInv.buf (h:MInv s) {c:Int} {c':Cn} (c0:1≤c) (c1:c≤s.av.length) (e1:c'.lock=(cn s c).lock) (e2:c'.recv=(cn s c).recv) (e3:c'.send=(cn s c).send) (e4:0≤c'.cap∧c'.cap≤4∧(c'.buf.length:Int)≤c'.cap):MInv (aE s c c'):=by
 refine h.rest (Rest.dS s c c') ?_;have I:=h.v;have key:∀ ch,1≤ch→(cn (aE s c c') ch).lock=(cn s ch).lock∧(cn (aE s c c') ch).recv=(cn s ch).recv∧(cn (aE s c c') ch).send=(cn s ch).send:=by
  intro ch a;rw [nr c0 c1 rfl ch a]
  by_cases e:ch=c
  ·subst e;rw [iD];exact ⟨e1,e2,e3⟩
  ·rw [jd _ _ e];exact ⟨rfl,rfl,rfl⟩
 have J:Inv s.gs.length s.av.length s.aA.length (gA s) (cn (aE s c c')) (su s) (fun i=>gM s i=true):=by
  constructor
  ·exact I.loc
  ·intro ch a b;rw [(key ch a).1];exact I.jV ch a b
  ·intro k a b ch c d;rw [(key ch c).1];exact I.iW k a b ch c d
  ·intro ch a b;rw [nr c0 c1 rfl ch a]
   by_cases e:ch=c
   ·subst e;rw [iD];exact e4
   ·rw [jd _ _ e];exact I.cap ch a b
  ·exact I.own
  ·intro ch a b i;rw [(key ch a).2.1,(key ch a).2.2];exact I.q ch a b i
  ·intro ch a b;rw [(key ch a).2.1,(key ch a).2.2];exact I.nd ch a b
  ·intro k a b w;have:=I.cT k a b w;rw [(key _ this.1).2.1,(key _ this.1).2.2];exact this
  ·intro k a b w;have:=I.cl k a b w;rw [(key _ this.1).2.1,(key _ this.1).2.2];exact this
  ·exact I.rE
  ·exact I.wk
  ·exact I.qc
  ·exact I.su
  ·exact I.lv
 refine V.of (Rest.dS s c c') J (fun _ _=>rfl) (fun _ _=>rfl) (fun _ _=>rfl)
theorem Jc {s:ah} {g:Nat} {back on:Int} (hp:(aa s (su s (aa s g).hold).g.toNat).bG=true):cT s g back on=ai (aZ s (aa s g).hold) g { aa s g with hold:=-1,place:=back }:=by
 unfold cT;simp only;rw [if_pos hp]
theorem ED {s:ah} {g o:Nat} {back on:Int} (hg:g < s.gs.length) (ho:o < s.gs.length) (so:(su s (aa s g).hold).g=o) (bV:o≠g) (hp:(aa s o).bG=false) :
  cT s g back on=ai (ai s o { aa s o with bG:=true,bT:=s.step,wi:=g,dm:=(su s (aa s g).hold).cs }) g { aa s g with t:=s.step,bT:=s.step,wi:=o,place:=on }:=by
 unfold cT;simp only [so,Int.toNat_natCast];rw [if_neg (by rw [hp];simp)];have iE:g < (ai (ai s g { aa s g with t:=s.step }) o { aa s o with bG:=true }).gs.length:=by rw [eV,eV];exact hg
 have sC:o < (ai s g { aa s g with t:=s.step }).gs.length:=by rw [eV];exact ho
 have Ra:(su (ai (ai s g { aa s g with t:=s.step }) o { aa s o with bG:=true }) (aa s g).hold).g=o:=so;rw [Jb iE Ra bV];have g1:aa (ai (ai s g { aa s g with t:=s.step }) o { aa s o with bG:=true }) g={ aa s g with t:=s.step }:=by rw [gy sC,if_neg (by omega),gy hg,if_pos rfl]
 have g2:aa (ai (ai s g { aa s g with t:=s.step }) o { aa s o with bG:=true }) o={ aa s o with bG:=true }:=by rw [gy sC,if_pos rfl]
 rw [g1,g2,nY _ _ _ _ (by rw [eV];exact iE)];unfold ai;simp only [List.set_set];rw [Bl bV];rfl
theorem MInv.yW (h:MInv s) (hg:g < s.gs.length) (w:cR (aa s g)):∃ o,wq s g (su s (aa s g).hold).ch (aa s g).hold o∧1≤(su s (aa s g).hold).ch∧(su s (aa s g).hold).ch≤s.av.length∧bS (aa s g) (su s (aa s g).hold).ch∧((aa s g).hold∈(cn s (su s (aa s g).hold).ch).recv∨(aa s g).hold∈(cn s (su s (aa s g).hold).ch).send)∧0≤(su s (aa s g).hold).cs:=by
 have:=Inv.cT h.v g (by omega) (by omega);rw [fE] at this;obtain ⟨c0,c1,k1,k2,k3⟩:=this w;obtain ⟨o,q⟩:=h.uw (g:=g) c0 c1 k2;exact ⟨o,q,c0,c1,k1,k2,k3⟩
structure EE (s:ah) (g:Nat) (i c:Int) (o:Nat):Prop where
 c0:1≤c
 c1:c≤s.av.length
 sc:(su s i).ch=c
 so:(su s i).g=o
 o1:o < s.gs.length
 ne:o≠g
 hh:bS (aa s g) c
 wt:Wt (aa s o)
 pm:(aa s o).param=-1
 own:Own (aa s o) i
 se:SE (aa s o)→(aa s o).bG=true
 sr:SR (aa s o)→i∉(cn s c).recv∧i∉(cn s c).send
theorem MInv.Bm (h:MInv s) (hg:g < s.gs.length) (w:dy (aa s g)):∃ o,EE s g (aa s g).hold (su s (aa s g).hold).ch o∧∀ k:Nat,k < s.gs.length→k≠g→dy (aa s k)→(su s (aa s k).hold).g=o→False:=by
 have:=Inv.cl h.v g (by omega) (by omega);rw [fE] at this;obtain ⟨c0,c1,k1,k2,k3,k4,k5,k6,k7,k8,k9⟩:=this w;refine ⟨(su s (aa s g).hold).g.toNat,⟨c0,c1,rfl,by omega,by omega,by omega,k1,k5,k6,k7,k8,k9⟩,fun k a b cl e=>?_⟩;have:=Inv.rE h.v k g (by omega) (by omega) (by omega) (by omega) (by rw [fE];exact cl) (by rw [fE];exact w) (by rw [fE,fE];omega);omega
theorem yX {s:ah} {g o:Nat} {i:Int} {d:Bool} (hg:g < s.gs.length) (ho:o < s.gs.length) (so:(su s i).g=o) (bV:o≠g) :
  serve s g i d=ai (aV (ai s o { aa s o with param:=i }) i { su s i with done:=d }) g { aa s g with au:=(aa s g).au ++ [(o:Int)],hold:=-1 }:=by
 have g1:aa (aV (ai s o { aa s o with param:=i }) i { su s i with done:=d }) g=aa s g:=by rw [QW,gy ho,if_neg (by omega)]
 have e:serve s g i d=ai (aV (ai s (su s i).g.toNat { aa s (su s i).g.toNat with param:=i }) i { su s i with done:=d }) g { aa (aV (ai s (su s i).g.toNat { aa s (su s i).g.toNat with param:=i }) i { su s i with done:=d }) g with au:=(aa (aV (ai s (su s i).g.toNat { aa s (su s i).g.toNat with param:=i }) i { su s i with done:=d }) g).au ++ [(su s i).g],hold:=-1 }:=rfl;rw [e,so,Int.toNat_natCast,g1]
end Sx
namespace Sx
variable {s t:ah} {g:Nat} {nc ns n:Int}
theorem Loc.EF {x:Gr} (L:Loc nc ns n x) {l:List Int} (h1:x.place=16∨x.place=17∨x.place=22∨x.place=23∨x.place=34∨x.place=30∧x.res.code≠0) (h2:∀ p∈l,0≤p∧p < n) (h3:l.Nodup) (h4:l≠[]):Loc nc ns n { x with au:=l } :=
 ⟨L.nU,L.ig,L.a0,L.a1,L.pl,L.AY,L.kG,L.AZ,L.A7,L.IT,L.tk,fun _=>h1,fun _=>h4,h2,h3,L.hd,L.mi,L.p0,L.p1,L.p2,L.p3,fun a b=>by
  obtain ⟨b1,b2,b3,b4,b5,b6,b7,b8,b9,mu,sJ,sK,nk,yR,yS,vZ,yT,we,wh,yU⟩:=L.se a b;exact ⟨b1,b2,b3,b4,b5,b6,b7,b8,b9,mu,sJ,sK,nk,yR,yS,vZ,yT,we,wh,yU⟩⟩
theorem MInv.s7 (h:MInv s) (hg:g < s.gs.length) (st:(aa s g).status=0) (k:2≤(ag s g).kind∧(ag s g).kind≤5) (e:(aa s g).place=7):MInv (cT s g 6 8):=by
 have hk:(aO (aa s g)).kind=(ag s g).kind:=rfl;have L:=h.loc hg;have eI:(aa s g).au=[]:=by
  by_cases w:(aa s g).au=[]
  ·exact w
  ·have:=L.w1 w;omega
 have hd:=L.hd (by omega);have go:∀ (x:Gr) (p:Int),p=6∨p=8→x.ops=(aa s g).ops→x.at_=(aa s g).at_→x.status=(aa s g).status→x.token=(aa s g).token→x.param=(aa s g).param→x.au=(aa s g).au→x.place=p→gZ (aa s g) x:=by
  intro x p hp h1 h2 h3 h4 h5 h6 h7;refine ⟨h1,h2,h3,h4,h5,h6,by unfold SE;omega,st,by omega,by omega,by omega,?_,⟨by omega,by omega,by omega,by omega⟩,by omega,.inl eI⟩;unfold bU;omega
 obtain ⟨o,q,c0,c1,hh,hq,jK⟩:=h.yW hg (.inl e);have bV:o≠g:=q.ne h (go { aa s g with place:=6 } 6 (.inl rfl) rfl rfl rfl rfl rfl rfl rfl).nq
 cases hp:(aa s o).bG with
 | true =>
  rw [Jc (by rw [q.g_];exact hp)];rw [drop_eq rfl c0 c1];have G:=go { aa s g with hold:=-1,place:=6 } 6 (.inl rfl) rfl rfl rfl rfl rfl rfl rfl;refine h.wj hg G c0 c1 ⟨.inl ⟨rfl,G.hh (by rw [e];unfold hP;simp)⟩,h.gP c0 c1,⟨js,js⟩,.inr hh⟩ (by unfold cR;simp) (by simp)
 | false =>
  rw [ED hg q.o1 q.g_ bV hp];have G:=go { aa s g with t:=s.step,bT:=s.step,wi:=o,place:=8 } 8 (.inr rfl) rfl rfl rfl rfl rfl rfl rfl;have Rb:=(G.hh (by rw [e];unfold hP;simp) (su s (aa s g).hold).ch).2 hh;have:=h.Bk hg q (c':=cn s (su s (aa s g).hold).ch) (G.loc L (fun _=>hd)) ⟨.inl ⟨rfl,G.hh (by rw [e];unfold hP;simp)⟩,h.gP c0 c1,⟨List.Sublist.refl _,List.Sublist.refl _⟩,.inr hh⟩ (fun i=>⟨fun w=>absurd w (G.own i).2,fun w=>absurd w (G.own i).1⟩) (fun i d w=>absurd w (G.own i).2) G.nq (by unfold cR;simp) (fun q=>id) G.nw (.inl rfl) rfl c0 c1 Rb hq (y:={ aa s o with bG:=true,bT:=s.step,wi:=g,dm:=(su s (aa s g).hold).cs }) ⟨rfl,rfl,rfl,rfl,rfl,rfl,rfl,rfl,rfl,rfl,rfl⟩ rfl rfl rfl (.inr ⟨jK,hp,rfl,hh⟩) rfl;rw [Ja c0 c1] at this;exact this
theorem MInv.s8 (h:MInv s) (hg:g < s.gs.length) (st:(aa s g).status=0) (k:2≤(ag s g).kind∧(ag s g).kind≤5) (e:(aa s g).place=8) {o:Nat} {c i:Int} (hi:(aa s g).hold=i) (q:EE s g i c o) (other:∀ k:Nat,k < s.gs.length→k≠g→dy (aa s k)→(su s (aa s k).hold).g=o→False) (r:Md.aj) (d:Su)
  (hd:d.g=(su s i).g∧d.ch=(su s i).ch∧d.cs=(su s i).cs∧d.send=(su s i).send∧d.live=(su s i).live) :
  MInv (ai (aV (ai (aE s c (cC (cn s c) i)) o { aa s o with param:=i }) i d) g { aa s g with au:=(aa s g).au ++ [(o:Int)],hold:=-1,res:=r,place:=16 }):=by
 have hk:(aO (aa s g)).kind=(ag s g).kind:=rfl;have L:=h.loc hg;have eI:(aa s g).au=[]:=by
  by_cases w:(aa s g).au=[]
  ·exact w
  ·have:=L.w1 w;omega
 have G:gZ (aa s g) { aa s g with hold:=-1,res:=r,place:=16 }:=by
  refine ⟨rfl,rfl,rfl,rfl,rfl,rfl,by unfold SE;omega,st,by omega,by omega,by simp,?_,?_,?_,.inl eI⟩
  ·show bU (aO (aa s g)).kind 16;rw [hk];unfold bU;omega
  ·grind
  ·simp only;omega
 have G1:=G.loc L (by simp);have lx:Loc s.av.length s.aA.length s.gs.length { aa s g with au:=(aa s g).au ++ [(o:Int)],hold:=-1,res:=r,place:=16 } :=
  G1.EF (.inl rfl) (by rw [eI];have:=q.o1;simp;omega) (by rw [eI];simp) (by simp)
 have yY:∀ i,¬ Own { aa s g with au:=(aa s g).au ++ [(o:Int)],hold:=-1,res:=r,place:=16 } i:=by
  rintro i ⟨_,w | w⟩
  ·grind
  ·grind
 have qF:∀ ch,bS { aa s g with au:=(aa s g).au ++ [(o:Int)],hold:=-1,res:=r,place:=16 } ch↔bS (aa s g) ch:=by
  intro ch;have:=G.hh (by rw [e];unfold hP;simp) ch;exact this
 refine h.EA hg q.c0 q.c1 lx ⟨.inl ⟨rfl,qF⟩,h.gP q.c0 q.c1,⟨js,js⟩,.inr q.hh⟩ (fun i=>⟨fun w=>absurd w (yY i),fun w=>absurd w (G.own i).1⟩) (fun i d w=>absurd w (yY i)) G.nq (by unfold cR;simp) (by unfold dy;simp) (fun q hq=>?_) G.nw q.sc q.so q.o1 q.ne q.wt q.pm q.own (fun w=>q.se w) ⟨n9,n9⟩ other ⟨rfl,rfl,rfl,rfl,rfl,rfl,rfl,rfl,rfl,rfl,rfl⟩ rfl rfl rfl rfl hd;rcases List.mem_append.1 hq with w | w
 ·exact .inl w
 ·grind
end Sx
namespace Sx
variable {s t:ah} {g:Nat} {nc ns n:Int}
theorem Jd {s:ah} {i:Int} {d:Su} (hi:0≤i) (dM:i < s.aA.length):su (aV s i d) i=d:=by
 rw [Ba hi dM rfl i hi,iD]
theorem Rc {s:ah} {g o:Nat} {i c:Int} {d:Su} {x:Gr→Gr} {r:Md.aj} {p:Int} (hg:g < s.gs.length) (ho:o < s.gs.length) (so:d.g=o) (bV:o≠g) (i0:0≤i) (i1:i < s.aA.length) :
  ai (serve (aV (aE s c (cC (cn s c) i)) i d) g i true) g { aa (serve (aV (aE s c (cC (cn s c) i)) i d) g i true) g with res:=r,place:=p } =
  ai (aV (ai (aE s c (cC (cn s c) i)) o { aa s o with param:=i }) i { d with done:=true }) g { aa s g with au:=(aa s g).au ++ [(o:Int)],hold:=-1,res:=r,place:=p }:=by
 have s1:su (aV (aE s c (cC (cn s c) i)) i d) i=d:=Jd i0 i1;have e:=yX (s:=aV (aE s c (cC (cn s c) i)) i d) (g:=g) (o:=o) (i:=i) (d:=true) hg ho (by rw [s1];exact so) bV;rw [e,s1];have g1:aa (aV (aE s c (cC (cn s c) i)) i d) g=aa s g:=rfl;have g2:aa (aV (aE s c (cC (cn s c) i)) i d) o=aa s o:=rfl;rw [g1,g2];have g3:∀ y z,aa (ai (aV (ai (aV (aE s c (cC (cn s c) i)) i d) o y) i { d with done:=true }) g z) g=z:=fun y z=>by
  rw [gy (by show g < (ai _ _ _).gs.length;rw [eV];exact hg),if_pos rfl]
 rw [g3];unfold ai aV aE;simp only [List.set_set]
theorem Je {s:ah} {g o:Nat} {i c:Int} {r:Md.aj} {p:Int} (hg:g < s.gs.length) (ho:o < s.gs.length) (so:(su s i).g=o) (bV:o≠g) :
  ai (serve (aE s c (cC (cn s c) i)) g i true) g { aa (serve (aE s c (cC (cn s c) i)) g i true) g with res:=r,place:=p } =
  ai (aV (ai (aE s c (cC (cn s c) i)) o { aa s o with param:=i }) i { su s i with done:=true }) g { aa s g with au:=(aa s g).au ++ [(o:Int)],hold:=-1,res:=r,place:=p }:=by
 have e:=yX (s:=aE s c (cC (cn s c) i)) (g:=g) (o:=o) (i:=i) (d:=true) hg ho so bV;rw [e];have g1:aa (aE s c (cC (cn s c) i)) g=aa s g:=rfl;have g2:aa (aE s c (cC (cn s c) i)) o=aa s o:=rfl;have g4:su (aE s c (cC (cn s c) i)) i=su s i:=rfl;rw [g1,g2,g4];have g3:∀ y z,aa (ai (aV (ai (aE s c (cC (cn s c) i)) o y) i { su s i with done:=true }) g z) g=z:=fun y z=>by
  rw [gy (by show g < (ai _ _ _).gs.length;rw [eV];exact hg),if_pos rfl]
 rw [g3];unfold ai aV aE;simp only [List.set_set]
theorem Jf {s:ah} {c c2 i:Int} {b:List Int} (c0:1≤c) (c1:c≤s.av.length) (d0:1≤c2) (d1:c2≤s.av.length) :
  aE (aE s c (cC (cn s c) i)) c2 { cn (aE s c (cC (cn s c) i)) c2 with buf:=b }=aE (aE s c2 { cn s c2 with buf:=b }) c (cC (cn (aE s c2 { cn s c2 with buf:=b }) c) i):=by
 have len:∀ (c:Int) (x:Cn),(aE s c x).av.length=s.av.length:=fun c x=>by simp [aE]
 have e1:cn (aE s c (cC (cn s c) i)) c2=up (cn s) c (cC (cn s c) i) c2:=nr c0 c1 rfl c2 d0;have e2:cn (aE s c2 { cn s c2 with buf:=b }) c=up (cn s) c2 { cn s c2 with buf:=b } c:=nr d0 d1 rfl c c0;rw [e1,e2]
 by_cases q:c2=c
 ·subst q;rw [iD,iD];unfold aE;simp only [List.set_set];rfl
 ·rw [jd _ _ q,jd _ _ (Ne.symm q)];unfold aE;simp only;rw [List.set_comm _ _ (by omega)]
theorem Jg (l:List Int) (r v:Int):(fh l r v).1.length=l.length:=by
 unfold fh
 split
 ·rfl
 ·grind
theorem MInv.Rd (h:MInv s) (hg:g < s.gs.length) (st:(aa s g).status=0) (k:2≤(ag s g).kind∧(ag s g).kind≤5) (e:(aa s g).place=8) (v:Int):MInv (ai (mS s g v) g { aa (mS s g v) g with res:=oH,place:=16 }):=by
 obtain ⟨o,q,wu⟩:=h.Bm hg (.inl e);have L:=h.loc hg;have hd:=L.hd (by omega);unfold mS;simp only;rw [drop_eq q.sc q.c0 q.c1];have e1:su (aE s (su s (aa s g).hold).ch (cC (cn s (su s (aa s g).hold).ch) (aa s g).hold)) (aa s g).hold=su s (aa s g).hold:=rfl;rw [e1,Rc (x:=id) hg q.o1 (by exact q.so) q.ne hd.1 hd.2];exact h.s8 hg st k e rfl q wu _ _ ⟨rfl,rfl,rfl,rfl,rfl⟩
theorem MInv.Re (h:MInv s) (hg:g < s.gs.length) (st:(aa s g).status=0) (k:2≤(ag s g).kind∧(ag s g).kind≤5) (e:(aa s g).place=8) :
  MInv (ai (serve (hand (aZ s (aa s g).hold) (ag s g).ch (aa s g).hold).1 g (aa s g).hold true) g { aa (serve (hand (aZ s (aa s g).hold) (ag s g).ch (aa s g).hold).1 g (aa s g).hold true) g with res:=eB (hand (aZ s (aa s g).hold) (ag s g).ch (aa s g).hold).2 true,place:=16 }):=by
 obtain ⟨o,q,wu⟩:=h.Bm hg (.inl e);obtain ⟨d0,d1⟩:=h.rL hg (by omega) (by omega);have L:=h.loc hg;have hd:=L.hd (by omega);generalize (eB (hand (aZ s (aa s g).hold) (ag s g).ch (aa s g).hold).2 true)=r;unfold hand;simp only;rw [drop_eq q.sc q.c0 q.c1]
 split
 ·rw [Je hg q.o1 q.so q.ne];exact h.s8 hg st k e rfl q wu _ _ ⟨rfl,rfl,rfl,rfl,rfl⟩
 ·simp only;rw [Jf q.c0 q.c1 d0 d1];obtain ⟨b,hb,EG⟩:∃ b,(fh (cn (aE s (su s (aa s g).hold).ch (cC (cn s (su s (aa s g).hold).ch) (aa s g).hold)) (ag s g).ch).buf (cn (aE s (su s (aa s g).hold).ch (cC (cn s (su s (aa s g).hold).ch) (aa s g).hold)) (ag s g).ch).cap (su (aE s (su s (aa s g).hold).ch (cC (cn s (su s (aa s g).hold).ch) (aa s g).hold)) (aa s g).hold).v).1=b∧b.length=(cn s (ag s g).ch).buf.length:=by
   refine ⟨_,rfl,?_⟩;rw [Jg,nr q.c0 q.c1 rfl _ d0];unfold up
   split
   ·rename_i c;rw [c];rfl
   ·rfl
  rw [hb];have ux:=h.gP d0 d1;have h2:MInv (aE s (ag s g).ch { cn s (ag s g).ch with buf:=b }):=h.buf d0 d1 rfl rfl rfl ⟨ux.1,ux.2.1,by simp only;rw [EG];exact ux.2.2⟩;obtain ⟨s2,iX⟩:∃ s2,aE s (ag s g).ch { cn s (ag s g).ch with buf:=b }=s2:=⟨_,rfl⟩
  have eg:∀ j,aa s2 j=aa s j:=fun j=>by rw [← iX];rfl
  have es:∀ j,su s2 j=su s j:=fun j=>by rw [← iX];rfl
  have el:s2.gs.length=s.gs.length:=by rw [← iX];rfl
  have ec:s2.av.length=s.av.length:=by rw [← iX];simp [aE]
  have eq:∀ ch,1≤ch→(cn s2 ch).recv=(cn s ch).recv∧(cn s2 ch).send=(cn s ch).send:=by
   intro ch a;rw [← iX,nr d0 d1 rfl ch a];unfold up
   split
   ·grind
   ·exact ⟨rfl,rfl⟩
  rw [iX] at h2 ⊢;have eo:ag s2 g=ag s g:=by unfold ag;rw [eg]
  rw [← es,← eg];rw [Je (by rw [el];exact hg) (by rw [el];exact q.o1) (by rw [es,eg];exact q.so) q.ne];refine h2.s8 (by rw [el];exact hg) (by rw [eg];exact st) (by rw [eo];exact k) (by rw [eg];exact e) rfl ⟨?_,?_,rfl,?_,?_,q.ne,?_,?_,?_,?_,?_,?_⟩ ?_ _ _ ⟨rfl,rfl,rfl,rfl,rfl⟩
  ·rw [es,eg];exact q.c0
  ·rw [es,eg,ec];exact q.c1
  ·rw [es,eg];exact q.so
  ·rw [el];exact q.o1
  ·rw [es,eg];exact q.hh
  ·rw [eg];exact q.wt
  ·rw [eg];exact q.pm
  ·rw [eg,eg];exact q.own
  ·rw [eg];exact q.se
  ·rw [es,eg,eg,(eq _ q.c0).1,(eq _ q.c0).2];exact q.sr
  ·grind
end Sx
namespace Sx
variable {s t:ah} {g:Nat} {nc ns n:Int}
theorem MInv.wv (h:MInv s) (hg:g < s.gs.length) (e:(aa s g).place≤15∨18≤(aa s g).place∧(aa s g).place≤21∨24≤(aa s g).place∧(aa s g).place≤29):(aa s g).au=[]:=by
 by_cases w:(aa s g).au=[]
 ·exact w
 ·have:=(h.loc hg).w1 w;omega
theorem MInv.EH (h:MInv s) (hg:g < s.gs.length) (st:(aa s g).status=0) (k:(ag s g).kind≤8) (e:1≤(aa s g).place∧(aa s g).place≤10∨(aa s g).place=20∨(aa s g).place=21) {x:Gr} (h1:x.ops=(aa s g).ops) (h2:x.at_=(aa s g).at_) (h3:x.status=(aa s g).status) (h4:x.token=(aa s g).token) (h5:x.param=(aa s g).param) (h6:x.au=(aa s g).au)
  (ok:bU (ag s g).kind x.place) (p:1≤x.place∧x.place≤10∨x.place=16∨x.place=18∨x.place=20∨x.place=22):gZ (aa s g) x:=by
 have hk:(aO (aa s g)).kind=(ag s g).kind:=rfl;refine ⟨h1,h2,h3,h4,h5,h6,by unfold SE;omega,st,by omega,by omega,by omega,ok,⟨by omega,by omega,by omega,by omega⟩,by omega,.inl (h.wv hg (by omega))⟩
theorem MInv.iN (h:MInv s) (hg:g < s.gs.length) (st:(aa s g).status=0) (k:(ag s g).kind≤8) (e:1≤(aa s g).place∧(aa s g).place≤10∨(aa s g).place=20∨(aa s g).place=21) {x:Gr} (h1:x.ops=(aa s g).ops) (h2:x.at_=(aa s g).at_) (h3:x.status=(aa s g).status) (h4:x.token=(aa s g).token) (h5:x.param=(aa s g).param) (h6:x.au=(aa s g).au)
  (ok:bU (ag s g).kind x.place) (p:1≤x.place∧x.place≤6∨x.place=9∨x.place=10∨x.place=16∨x.place=18∨x.place=20∨x.place=22) (hp:hP (aa s g).place↔hP x.place):MInv (ai s g x) :=
 h.I0 hg (h.EH hg st k e h1 h2 h3 h4 h5 h6 ok (by omega)) hp (by unfold cR;omega) (by omega)
theorem MInv.s9 (h:MInv s) (hg:g < s.gs.length) (st:(aa s g).status=0) (k:2≤(ag s g).kind∧(ag s g).kind≤5) (e:(aa s g).place=9) {b:List Int} (hb:(b.length:Int)≤(cn s (ag s g).ch).cap) (r:Md.aj):MInv (cq (aE s (ag s g).ch { cn s (ag s g).ch with buf:=b }) g r 16):=by
 obtain ⟨c0,c1⟩:=h.rL hg (by omega) (by omega);have G:=h.EH hg st (by omega) (by omega) (x:={ aa s g with bT:=s.step,res:=r,place:=16 }) rfl rfl rfl rfl rfl rfl (by show bU _ 16;unfold bU;omega) (by simp);have hc:=h.gP c0 c1;exact h.wj hg G c0 c1 ⟨.inl ⟨rfl,G.hh (by rw [e];unfold hP;simp)⟩,⟨hc.1,hc.2.1,hb⟩,⟨List.Sublist.refl _,List.Sublist.refl _⟩,.inl ⟨rfl,rfl⟩⟩ (by unfold cR;simp) (by simp)
theorem MInv.oP (h:MInv s) (hg:g < s.gs.length) (st:(aa s g).status=0) (k:(ag s g).kind=2∨(ag s g).kind=3) (e:(aa s g).place=10) {d:Su} (hd:d.g=g∧d.cs=-1∧d.ch=(ag s g).ch∧(d.send=true↔(ag s g).kind=2)):MInv (bh s g d):=by
 have L:=h.loc hg;have hk:aO (aa s g)=ag s g:=rfl;have ks:SR (aa s g):=k;unfold bh
 split
 ·rename_i ok;have T:=Bi h hg ok;obtain ⟨i,hi⟩:∃ i,(bn s g).2.1=i:=⟨_,rfl⟩
  rw [hi] at T ⊢;obtain ⟨x,hx⟩:∃ x,({ aa s g with bh:=i,place:=11 }:Gr)=x:=⟨_,rfl⟩
  rw [hx];have h1:x.ops=(aa s g).ops∧x.at_=(aa s g).at_∧x.place=11∧x.status=(aa s g).status∧x.token=(aa s g).token∧x.param=(aa s g).param∧x.bh=i∧x.au=(aa s g).au∧x.aq=(aa s g).aq:=by subst hx;simp
  have ho:aO x=aO (aa s g):=by subst hx;rfl
  have wk:=h.wv hg (by omega);have i0:=T.i0;have i1:=T.i1;have nO:∀ j,¬ Own (aa s g) j:=by
   rintro j ⟨_,w | w⟩
   ·omega
   ·omega
  have jr:¬ SE x:=by unfold SE;rw [ho];exact ks.ne
  refine h.take hg T (x:=x) (d:=d) ?_ ?_ ?_ (fun j w=>absurd w (nO j)) ?_ hd.1 ?_ ?_ ?_ (by rw [h1.2.2.2.2.2.2.2.1]) ?_ h1.2.1
  ·clear hx;obtain ⟨a1,a2,a3,a4,a5,a6,a7,a8,a9,lM,nj,nV,oR,oS,oT,nW,rF,rG,qd,rH,rI,oU⟩:=L
   constructor <;> simp only [Wt,SR,SE,e,st,Own,bU,c9,ho,h1,hk] at * <;> grind
  ·intro ch;unfold bS;rw [ho,h1.2.2.1,e];simp only [jr,ks.ne,false_and,or_false]
   constructor <;> (intro w;exact ⟨w.1,w.2.1,w.2.2.1,by omega⟩)
  ·intro j
   constructor
   ·rintro ⟨_,w | w⟩
    ·omega
    ·exact absurd w.1 jr
   ·rintro (w | w)
    ·exact absurd w (nO j)
    ·subst w;exact ⟨i0,.inl ⟨by unfold SR;rw [ho];exact ks,by omega,by omega,h1.2.2.2.2.2.2.1⟩⟩
  ·exact .inl ⟨by unfold SR;rw [ho];exact ks,hd.2.1,by rw [ho,hk];exact hd.2.2.1,by rw [ho,hk];exact hd.2.2.2⟩
  ·rintro j l (w | w)
   ·omega
   ·omega
  ·unfold cR;omega
  ·unfold dy;omega
  ·rintro (w | w)
   ·omega
   ·omega
 ·rename_i ok;have e1:(bn s g).1=s:=by
   unfold bn at ok ⊢
   split
   ·grind
   ·grind
  rw [e1];exact h.iN hg st (by omega) (by omega) (x:={ aa s g with res:={ (aa s g).res with code:=6 },place:=16 }) rfl rfl rfl rfl rfl rfl (by show bU _ 16;unfold bU;omega) (by simp) (by rw [e];unfold hP;simp)
theorem MInv.sL (h:MInv s) (hg:g < s.gs.length) (st:(aa s g).status=0) (k:(ag s g).kind=2∨(ag s g).kind=3) (e:(aa s g).place=11) {c':Cn} {a:Int} (e1:c'.lock=(cn s (ag s g).ch).lock) (e2:c'.cap=(cn s (ag s g).ch).cap) (e3:c'.buf=(cn s (ag s g).ch).buf)
  (er:c'.recv=if (ag s g).kind=2 then (cn s (ag s g).ch).recv else (cn s (ag s g).ch).recv ++ [(aa s g).bh]) (es:c'.send=if (ag s g).kind=2 then (cn s (ag s g).ch).send ++ [(aa s g).bh] else (cn s (ag s g).ch).send) :
  MInv (ai (aE s (ag s g).ch c') g { aa s g with iy:=a,place:=12 }):=by
 obtain ⟨c0,c1⟩:=h.rL hg (by omega) (by omega);have L:=h.loc hg;have hk:aO (aa s g)=ag s g:=rfl;have ks:SR (aa s g):=k;have hm:=L.mi ks (by omega) (by omega);have eA:=fE s g;have uv:Own (aa s g) (aa s g).bh:=⟨hm.1,.inl ⟨ks,by omega,by omega,rfl⟩⟩
 have hO:=Inv.own h.v (g:Int) (by omega) (by omega) (aa s g).bh (by rw [eA];exact uv);have hM:=hO.2.1;rw [eA] at hM;obtain ⟨m1,m2,m3,m4⟩:SR (aa s g)∧(su s (aa s g).bh).cs=-1∧(su s (aa s g).bh).ch=(ag s g).ch∧((su s (aa s g).bh).send=true↔(ag s g).kind=2):=by
  rcases hM with w | w
  ·exact w
  ·exact absurd w.1 ks.ne
 obtain ⟨x,hx⟩:∃ x,({ aa s g with iy:=a,place:=12 }:Gr)=x:=⟨_,rfl⟩
 have h1:x.ops=(aa s g).ops∧x.at_=(aa s g).at_∧x.place=12∧x.status=(aa s g).status∧x.token=(aa s g).token∧x.param=(aa s g).param∧x.bh=(aa s g).bh∧x.au=(aa s g).au∧x.aq=(aa s g).aq:=by subst hx;simp
 have ho:aO x=aO (aa s g):=by subst hx;rfl
 have wk:=h.wv hg (by omega);have wz:SR x:=by unfold SR;rw [ho];exact ks
 have jr:¬ SE x:=wz.ne;have pm:(aa s g).param=-1:=by
  have:=L.p0
  by_cases c:0≤(aa s g).param
  ·have:=(L.p2 c).1;rcases this with w | w
   ·omega
   ·omega
  ·omega
 rw [hx];have r:Rest s (ai (aE s (ag s g).ch c') g x):=(Rest.dS s _ c').trans (Rest.dR _ hg h1.2.1);refine h.rest r (V.of r (Inv.push h.v (g:=g) (i:=(aa s g).bh) (x:=x) (c:=(ag s g).ch) (c':=c') (by omega) (by omega) (by rw [eA];exact uv) c0 c1 m3 ?_ ?_ ?_ ?_ ?_ ?_ ?_ ?_ ?_ ?_ ?_ e1 e2 e3 ?_ ?_) (fun j j0=>rJ hg rfl j j0) (fun ch q=>nr c0 c1 rfl ch q) (fun _ _=>rfl))
 ·clear hx r;obtain ⟨a1,a2,a3,a4,a5,a6,a7,a8,a9,lM,nj,nV,oR,oS,oT,nW,rF,rG,qd,rH,rI,oU⟩:=L
  constructor <;> simp only [Wt,SR,SE,e,st,Own,bU,c9,ho,h1,hk] at * <;> grind
 ·intro ch;rw [eA];unfold bS;rw [ho,h1.2.2.1,e];simp only [jr,ks.ne,false_and,or_false]
  constructor <;> (intro w;exact ⟨w.1,w.2.1,w.2.2.1,by omega⟩)
 ·intro j;rw [eA];exact Own.Bf ks ho h1.2.2.2.2.2.2.1 (by omega) (by omega)
 ·intro j w;have w2:=(Own.Bf ks ho h1.2.2.2.2.2.2.1 (by omega) (by omega)).1 w;have:j=(aa s g).bh:=by
   rcases w2 with ⟨_,w | w⟩
   ·exact w.2.2.2.symm
   ·omega
  subst this;exact .inl ⟨wz,m2,by rw [ho];exact m3,by rw [ho];exact m4⟩
 ·rw [eA];rintro (w | w)
  ·omega
  ·omega
 ·rw [eA];rintro i j (w | w)
  ·omega
  ·omega
 ·exact .inl ⟨wz,by omega,by omega,h1.2.2.2.2.2.2.1,by rw [h1.2.2.2.2.2.1];exact pm⟩
 ·unfold cR;omega
 ·unfold dy;omega
 ·grind
 ·rw [eA];rintro (w | w)
  ·omega
  ·omega
 ·grind
 ·grind
theorem MInv.Jh (h:MInv s) (hg:g < s.gs.length) (st:(aa s g).status=0) (k:(ag s g).kind=2∨(ag s g).kind=3) (e:(aa s g).place=14) (r:Md.aj):MInv (ai s g { aa s g with res:=r,param:=-1,place:=15 }):=by
 have L:=h.loc hg;have hk:aO (aa s g)=ag s g:=rfl;have ks:SR (aa s g):=k;have pm:=L.p1 e st;obtain ⟨x,hx⟩:∃ x,({ aa s g with res:=r,param:=-1,place:=15 }:Gr)=x:=⟨_,rfl⟩
 have h1:x.ops=(aa s g).ops∧x.at_=(aa s g).at_∧x.place=15∧x.status=(aa s g).status∧x.token=(aa s g).token∧x.param=-1∧x.bh=(aa s g).bh∧x.au=(aa s g).au∧x.aq=(aa s g).aq:=by subst hx;simp
 have ho:aO x=aO (aa s g):=by subst hx;rfl
 have wk:=h.wv hg (by omega);have wz:SR x:=by unfold SR;rw [ho];exact ks
 have jr:¬ SE x:=wz.ne;rw [hx];refine h.self hg ⟨?_,?_,?_,?_,?_,?_,?_,?_,?_⟩ h1.2.1 (fun w=>by unfold cR at w;omega)
 ·clear hx;obtain ⟨a1,a2,a3,a4,a5,a6,a7,a8,a9,lM,nj,nV,oR,oS,oT,nW,rF,rG,qd,rH,rI,oU⟩:=L
  constructor <;> simp only [Wt,SR,SE,e,st,Own,bU,c9,ho,h1,hk] at * <;> grind
 ·intro ch;unfold bS;rw [ho,h1.2.2.1,e];simp only [jr,ks.ne,false_and,or_false];omega
 ·intro j;exact Own.Bf ks ho h1.2.2.2.2.2.2.1 (by omega) (by omega)
 ·intro j d _ w;rcases w with w | w
  ·exact .inl ⟨wz,w.2.1,by rw [ho];exact w.2.2.1,by rw [ho];exact w.2.2.2⟩
  ·exact absurd w.1 ks.ne
 ·rintro i j (w | w)
  ·omega
  ·exact absurd w.1 ks.ne
 ·unfold dy;omega
 ·grind
 ·intro w;exact absurd st (w.2.2.2 e)
 ·intro w;have:=w.2.1;omega
end Sx
end Go.Proofs.YtdjhhbpedllnhaaGreat
