/-
  What the laws need, part D14.
  Conditions: none.
-/
import Derived.Test.YtofnbflkhgammaaGreatD12
import Derived.Test.YtofnbflkhgammaaGreatD13
import Derived.Laws.Pointers
set_option linter.unusedVariables false
set_option linter.unusedSimpArgs false
set_option linter.unnecessarySimpa false
set_option maxHeartbeats 2000000
namespace Go.Proofs.YtofnbflkhgammaaGreat
open Go.RowKit
theorem UD (w:World) (size cL most:Int) :
  Calls Tryz.prog 123 #[.int .i64 size,.int .i64 cL,.int .i64 most] w fun e w'=>e=.returned (.bool (Po.fits size cL most))∧w=w':=by
 have zm:size < 0∨(0≤size∧64 < size)∨(0≤size∧size≤64∧cL < 0)∨(0≤size∧size≤64∧0≤cL∧8 < cL)∨(0≤size∧size≤64∧0≤cL∧cL≤8∧most < 1)∨(0≤size∧size≤64∧0≤cL∧cL≤8∧1≤most∧16 < most)∨(0≤size∧size≤64∧0≤cL∧cL≤8∧1≤most∧most≤16):=by omega
 obtain ⟨c,hc⟩:∃ c,c=Po.fits size cL most:=⟨_,rfl⟩
 have HC:=Lib.hid hc;rw [← hc];clear hc;rcases zm with h1 | ⟨h1,h2⟩ | ⟨h1,h2,h3⟩ | ⟨h1,h2,h3,h4⟩ | ⟨h1,h2,h3,h4,h5⟩ | ⟨h1,h2,h3,h4,h5,h6⟩ | ⟨h1,h2,h3,h4,h5,h6⟩
 all_goals go_enter Tryz.func123,Tryz.ntmps123
 all_goals go_wp2_with fail
 all_goals go_ret
 all_goals exact ⟨eI (by rw [HC.out,Bool.eq_iff_iff];simp [Po.fits];omega),rfl⟩
open Go.RowKit
namespace Fl
open Sx
set_option maxRecDepth 100000
theorem UE (s g c:Int):Po.fits s g c=Sx.can s g c:=by
 rfl
theorem UF (s g c:Int):Pure Tryz.prog 123 [.c (nI s),.c (nI g),.c (nI c)] (.c (bI (Sx.can s g c))) :=
 ax.plain fun ok e xs hd=>by
  obtain rfl:=hd.v3;refine (UD e s g c).mono ?_
  rintro en w' ⟨rfl,rfl⟩
  rw [UE];exact ⟨_,rfl,aq.refl _ _,RD.v rfl⟩
def LQ (sn:Nat) (cn:Int) (d:List Int) (g su k:A):List A:=[nI sn,nI cn,nI 0,g,.v (.slice none 0 0),su,k,.v (.slice none 0 0),nI 0,nr d,nI 0,.v (.slice none 0 0)]
theorem UG (p:List (List Pn.Op)) (sn cn:Int) (d:List Int) :
  Pure Tryz.prog 49 [.c (sw p),.agg [nI sn,nI cn],.c (nr d)] (.aZ [.agg (az (Sx.new p sn cn d).1),.c (nI (Sx.new p sn cn d).2)]):=by
 have CR:=Uz p;have CC:=UF sn p.length cn
 cases hr:Pn.right p with
 | false =>
  have e1:Sx.new p sn cn d=(tg,3):=by unfold Sx.new;rw [if_pos hr]
  rw [e1];rw [hr] at CR;refine ax.intro Tryz.func49 rfl rfl rfl (fun ok e=>?_)
  repeat (first | (refine K.store ?_;refine JO.ld (Ld.aX rfl rfl rfl (by exact rfl) (by exact rfl)) rfl (fun _=>?_)) | refine av ?_ | intro _)
  (exact J.ret Tryz.func49 rfl (.cons (.cell 0 rfl rfl rfl) (.cons (.tmp rfl) .nil)) () (by (exact .aZ (by repeat (first | exact .nil | refine .cons (.agg (by repeat (first | exact .nil | refine .cons .refl ?_ | refine .cons .nil ?_))) ?_ | refine .cons .refl ?_)))) [] .nil rfl rfl)
 | true =>
  rw [hr] at CR
  cases hc:Sx.can sn p.length cn with
  | false =>
   have e1:Sx.new p sn cn d=(tg,1):=by unfold Sx.new;rw [if_neg (by simp [hr]),if_pos hc]
   rw [e1];rw [hc] at CC;refine ax.intro Tryz.func49 rfl rfl rfl (fun ok e=>?_)
   repeat (first | (refine K.store ?_;refine JO.ld (Ld.aX rfl rfl rfl (by exact rfl) (by exact rfl)) rfl (fun _=>?_)) | refine av ?_ | intro _)
   (exact J.ret Tryz.func49 rfl (.cons (.cell 0 rfl rfl rfl) (.cons (.tmp rfl) .nil)) () (by (exact .aZ (by repeat (first | exact .nil | refine .cons (.agg (by repeat (first | exact .nil | refine .cons .refl ?_ | refine .cons .nil ?_))) ?_ | refine .cons .refl ?_)))) [] .nil rfl rfl)
  | true =>
   have e1:Sx.new p sn cn d=(Sx.start p sn cn d,0):=by unfold Sx.new;rw [if_neg (by simp [hr]),if_neg (by simp [hc])]
   rw [e1];rw [hc] at CC;obtain ⟨r1,r2,r3⟩:=UB hr;unfold Sx.can at hc;simp only [decide_eq_true_eq] at hc;obtain ⟨sm,rfl⟩:∃ sm:Nat,sn=sm:=⟨sn.toNat,by omega⟩
   refine ax.intro Tryz.func49 rfl rfl rfl (fun ok e=>?_)
   repeat (first | (refine K.store ?_;refine JO.ld (Ld.aX rfl rfl rfl (by exact rfl) (by exact rfl)) rfl (fun _=>?_)) | refine av ?_ | intro _)
   rename_i b4 b6 b8 _;refine J.oB 47 25 ?_;refine J.oB 28 1 ?_;refine J.loop (ι:={ q:Nat × Value × Value // q.1≤p.length }) (fun q=>[(30,.c (nI q.1.1)),(29,.c (nI p.length)),(28,.c (sw p)),(8,.c (.v (.pointer (some ⟨b8,0,none⟩)))),(6,.c (.v (.pointer (some ⟨b6,0,none⟩)))),(4,.c (.v (.pointer (some ⟨b4,0,none⟩))))]) (fun q=>.row q.1.2.1 28 1 (((p.take q.1.1).map fun _=>([]:List Int)).map fun l=>[ints l]) :: .row q.1.2.2 47 25 (((p.take q.1.1).map (clean · 0)).map eG) :: .box b8 36 (LQ sm cn d (.v q.1.2.2) (.v (.slice none 0 0)) (.v q.1.2.1)) :: .box b6 36 rP :: .box b4 24 [nI sm,nI cn] :: []) (fun q=>p.length - q.1.1) ⟨(0,.slice none 0 0,.slice none 0 0),Nat.zero_le _⟩ (fun X h=>h.aW ⟨rfl,rfl,rfl,rfl,rfl,rfl,trivial⟩) (fun q ih=>?_);obtain ⟨⟨k,vc,vg⟩,hk⟩:=q;simp only at hk ih ⊢
   by_cases aQ:k < p.length
   ·have t1:(decide ((k:Int) < (p.length:Int)))=true:=by simpa using aQ
    obtain ⟨ops,ho⟩:∃ ops,p[k]?=some ops:=⟨_,List.getElem?_eq_getElem aQ⟩
    have J1:(p.map fun ops=>[A.r 6 (ops.map dH)])[((k:Int)).toNat]?=some [A.r 6 (ops.map dH)]:=by rw [Int.toNat_natCast,List.getElem?_map,ho];rfl
    have fD:(p.take k).length=k:=by rw [List.length_take];omega
    repeat (refine gn ?_)
    refine J.draw (by kernel_rfl) rfl ?_;refine JW.iS [1] (some 7) ?_;refine tk 0 ?_;refine tk 1 ?_;refine tk 2 ?_;refine cW 3 (FG ops 0) ?_;refine jl 4 rfl rfl rfl rfl (Ld.oZ (qb rfl) rfl rfl rfl rfl rfl) .none (fun _=>?_);refine jl 5 rfl rfl rfl rfl (Ld.cA (qb rfl) rfl rfl .read (by (simp;omega))) (.uI rfl) (fun _=>?_);refine jk 6 rfl rfl rfl rfl (Qt.fieldAddr rfl rfl) ?_;refine jt 7 rfl rfl (Ld.cZ rfl rfl (by exact rfl)) (fun _=>?_);refine bS ?_
    repeat (first | (refine K.store ?_;refine JO.ld (Ld.cZ rfl rfl (by exact rfl)) rfl (fun _=>?_)) | (refine K.lit ?_;first | (refine JO.ld (Ld.Qo (qb rfl)) rfl (fun _=>?_)) | (refine JO.ld (Ld.oZ (qb rfl) rfl rfl rfl rfl rfl) rfl (fun _=>?_))) | (refine K.bi ?_;refine JO.ld (Ld.cA (qb rfl) rfl rfl .read (by (simp;omega))) rfl (fun _=>?_)) | refine gn ?_)
    rename_i Fu _ _ _ Fv _;refine J.fK ?_ ((ih ⟨(k + 1,Fv,Fu),by simp only;omega⟩ (by simp only;omega)).aW ⟨rfl,rfl,rfl,rfl,rfl,rfl,trivial⟩);rw [List.take_add_one,ho,List.map_append,List.map_append,List.map_append,List.map_append];rfl
   ·have t1:(decide ((k:Int) < (p.length:Int)))=false:=by simpa using aQ
    obtain rfl:k=p.length:=by omega
    rw [List.take_of_length_le (Nat.le_refl _)];refine J.nk 0 2 6 rfl rfl rfl ?_;refine J.nk 0 1 3 rfl rfl rfl ?_
    repeat (refine gn ?_)
    refine J.oB 52 7 ?_;refine J.loop (ι:={ q:Nat × Value // q.1≤sm }) (fun q=>[(11,.c (nI q.1.1)),(8,.c (.v (.pointer (some ⟨b8,0,none⟩)))),(6,.c (.v (.pointer (some ⟨b6,0,none⟩)))),(4,.c (.v (.pointer (some ⟨b4,0,none⟩))))]) (fun q=>.row q.1.2 52 7 ((List.replicate q.1.1 fj).map eS) :: .box b8 36 (LQ sm cn d (.r 25 ((p.map (clean · 0)).map eG)) (.v q.1.2) (.r 1 ((p.map fun _=>([]:List Int)).map fun l=>[ints l]))) :: .box b6 36 rP :: .box b4 24 [nI sm,nI cn] :: []) (fun q=>sm - q.1.1) ⟨(0,.slice none 0 0),Nat.zero_le _⟩ (fun X h=>h.aW ⟨rfl,rfl,rfl,rfl,trivial⟩) (fun q ih=>?_);obtain ⟨⟨j,vs⟩,hj⟩:=q;simp only at hj ih ⊢
    by_cases fy:j < sm
    ·have t1:(decide ((j:Int) < (sm:Int)))=true:=by simpa using fy
     repeat (first | (refine K.store ?_;refine JO.ld (Ld.cZ rfl rfl (by exact rfl)) rfl (fun _=>?_)) | (refine K.lit ?_;refine JO.ld (Ld.oZ (qb rfl) rfl rfl rfl rfl rfl) rfl (fun _=>?_)) | (refine K.bi ?_;refine JO.ld (Ld.cA (qb rfl) rfl rfl .read (by (simp;omega))) rfl (fun _=>?_)) | refine gn ?_)
     rename_i LS _;refine J.fK ?_ ((ih ⟨(j + 1,LS),by simp only;omega⟩ (by simp only;omega)).aW ⟨rfl,rfl,rfl,rfl,trivial⟩);rw [List.replicate_succ',List.map_append];rfl
    ·have t1:(decide ((j:Int) < (sm:Int)))=false:=by simpa using fy
     obtain rfl:j=sm:=by omega
     refine J.nk 0 1 5 rfl rfl rfl ?_
     repeat (first | (refine K.store ?_;refine JO.ld (Ld.aX rfl rfl rfl (by exact rfl) (by exact rfl)) rfl (fun _=>?_)) | refine gn ?_)
     (exact J.ret Tryz.func49 rfl (.cons (.cell 1 rfl rfl rfl) (.cons (.tmp rfl) .nil)) () (by (exact .aZ (by repeat (first | exact .nil | refine .cons (.agg (by repeat (first | exact .nil | refine .cons .refl ?_ | refine .cons .nil ?_))) ?_ | refine .cons .refl ?_)))) [] .nil rfl rfl)
end Fl
open Go.RowKit
namespace Fl
open Sx
set_option maxRecDepth 100000
section
variable {P:Program} {c:Cx} {f:Fm} {L:List ak} {T X:TypeId} {ps:String} {af:Array Edge} {gd:Option (Nat × Bool)} {t:Nat}
theorem Qt.BX {x y:Operand} {Y:Nat} {p:Option Addr} (hu:P.underlying X=some (.pointer (P.pointee X))) (h:aU f x=some (.c (.v (.pointer p)))) (hy:aU f y=some (.c (.v (.pointer none)))):Qt P c [] ⟨t,.binOp .eql X x y Y,T,ps,af,gd⟩ f L (.c (.v (.bool p.isNone))):=⟨fun a w s=>by
 have rx:=s.val h;have ry:=s.val hy;refine ⟨.bool p.isNone,by unfold RD RA;exact ⟨rfl,rfl⟩,fun w' k=>?_⟩;simp [execOp,rx,ry,eqGuard_at_pointer,Sem.run_bind,run_eql_pointer_nil _ _ _ hu]⟩
theorem jg.LU {ok:Nat→Prop} {w:World}:∀ {xs ys:List A},jg xs ys→∀ {vs:List Value},RC ok w xs vs→RC ok w ys vs
 | _,_,.nil,vs,r=>r
 | _,_,.refl,vs,r=>r
 | _,_,.cons h k,vs,r=>by
  unfold RC at r;obtain ⟨x,zs,rfl,r1,r2⟩:=r;exact RC.cons (h.rep r1) (jg.LU k r2)
end
theorem BY:Tryz.prog.underlying 39=some (.pointer (Tryz.prog.pointee 39)):=by kernel_rfl
end Fl
open Go.RowKit Go.ChangeShapes Go.WideShapes Go.Deep
namespace Fl
open Sx
section
variable {α:Type} {E:World→List Value→α→List Nat→Prop} {enc:α→List A}
def Si (enc:α→List A) (E:World→List Value→α→List Nat→Prop):Prop :=
 ∀ (ok:Nat→Prop) (w:World) (cs:List Value) (a:α) (U:List Nat),E w cs a U→(∀ x∈U,ok x)→RC ok w (enc a) cs
theorem Si.rx (h:Si enc E) {ok:Nat→Prop} {w:World} {sz:Nat} {S:List Nat} (hS:∀ x∈S,ok x):∀ {l:List α} {xs:List Value},xs.length=l.length * sz→ru E sz w xs l S→RX ok w sz (l.map enc) xs
 | [],xs,hl,r=>by simp at hl;subst hl;rfl
 | a :: l,xs,hl,r=>by
  have Bb:xs.length=l.length * sz + sz:=by rw [hl,List.length_cons,Nat.add_mul];omega
  refine ⟨xs.take sz,xs.drop sz,(List.take_append_drop sz xs).symm,by rw [List.length_take];omega,?_,Si.rx h hS (by rw [List.length_drop];omega) fun k b hk=>?_⟩
  ·obtain ⟨U,u1,u2⟩:=r 0 a rfl;have:chunk xs sz 0=xs.take sz:=by unfold chunk;simp
   rw [this] at u1;exact h ok w _ a U u1 fun x hx=>hS x (u2 x hx)
  ·obtain ⟨U,u1,u2⟩:=r (k + 1) b (by simpa using hk);have:chunk xs sz (k + 1)=chunk (xs.drop sz) sz k:=by
    unfold chunk;rw [List.drop_drop,show (k + 1) * sz=sz + k * sz by rw [Nat.add_mul];omega]
   rw [this] at u1;exact ⟨U,u1,u2⟩
theorem Si.ra (h:Si enc E) {ok:Nat→Prop} {w:World} {sz:Nat} {v:Value} {l:List α} {S:List Nat} (r:GV E sz w v l S) (hS:∀ x∈S,ok x):RA ok w (.r sz (l.map enc)) v:=by
 obtain ⟨xs,T,v1,v2,v3,v4,v5⟩:=r;exact RA.Bi (ys:=xs) (S:=T) (by rw [List.length_map];exact v1) (h.rx hS v1.len v2) fun g hg=>hS g (v3 g hg)
theorem Si.row (h:Si enc E) {sz:Nat}:Si (fun l:List α=>[A.r sz (l.map enc)]) (qm E sz):=fun ok w cs l U r hS=>by
 obtain ⟨v,rfl,g⟩:=r;exact RC.cons (h.ra g hS) RC.nil
end
theorem RA.w {ok:Nat→Prop} {w:World} {v:Value} (h:v.oneCell'=true):RA ok w (.v v) v:=by unfold RA;exact ⟨rfl,h⟩
theorem UH:Si tr mM:=fun ok w cs c U r _=>by
 obtain ⟨rfl,_⟩:=r;exact RC.cons (RA.w rfl) (RC.cons (RA.w rfl) (RC.cons (RA.w rfl) RC.nil))
theorem UI:Si dH wV:=fun ok w cs o U r hS=>by
 obtain ⟨vc,rfl,g⟩:=r;exact RC.cons (RA.w rfl) (RC.cons (RA.w rfl) (RC.cons (RA.w rfl) (RC.cons (RA.w rfl) (RC.cons (UH.ra g hS) (RC.cons (RA.w rfl) RC.nil)))))
theorem UJ:Si (fun l:List Pn.Op=>[A.r 6 (l.map dH)]) tK:=UI.row
theorem UK:Si (fun n:Int=>[A.v (.int .u16 n)]) (kf .u16):=fun ok w cs n U r _=>by
 obtain ⟨rfl,_⟩:=r;exact RC.cons (RA.w rfl) RC.nil
theorem FI:Si (fun n:Int=>[nI n]) (kf .i64):=fun ok w cs n U r _=>by
 obtain ⟨rfl,_⟩:=r;exact RC.cons (RA.w rfl) RC.nil
structure sy where
 p:List (List Pn.Op)
 sn:Int
 cn:Int
 d:List Int
def qP (w:World) (cs:List Value) (a:sy) (U:List Nat):Prop :=
 ∃ vp vd,cs=[vp,.int .i64 a.sn,.int .i64 a.cn,vd]∧GV tK 1 w vp a.p U∧GV (kf .u16) 1 w vd a.d U
theorem UL:Kept qP :=
 ⟨fun h k hn=>by obtain ⟨vp,vd,h1,h2,h3⟩:=h;exact ⟨vp,vd,h1,h2.aY LC k hn,h3.aY (I6 _) k hn⟩,fun h=>by obtain ⟨vp,vd,h1,h2,h3⟩:=h;exact h2.lt⟩
def mO (p:List (List Pn.Op)) (sn cn:Int) (d:List Int):List A:=[sw p,nI sn,nI cn,nr d]
theorem FJ {ok:Nat→Prop} {w:World} {cs:List Value} {a:sy} {U:List Nat} (h:qP w cs a U) (hS:∀ x∈U,ok x):RC ok w (mO a.p a.sn a.cn a.d) cs:=by
 obtain ⟨vp,vd,rfl,h2,h3⟩:=h;exact RC.cons (UJ.ra h2 hS) (RC.cons (RA.w rfl) (RC.cons (RA.w rfl) (RC.cons (UK.ra h3 hS) RC.nil)))
theorem FK:fE Tryz.prog 3 (kf .i64) 1:=A7 Tryz.underlying3 (by kernel_rfl)
theorem UM:fE Tryz.prog 115 (kf .u16) 1:=A7 Tryz.underlying115 (by kernel_rfl)
theorem UN:fE Tryz.prog 25 (qm (kf .u16) 1) 1:=yh Tryz.underlying25 (by kernel_rfl) UM
def LV (w:World) (cs:List Value) (a:Int × Int) (U:List Nat):Prop:=cs=[.int .i64 a.1,.int .i64 a.2]∧U=[]
theorem UO:Kept LV:=⟨fun h _ _=>h,fun h x hx=>by obtain ⟨_,rfl⟩:=h;simp at hx⟩
theorem UP:fE Tryz.prog 24 LV 2:=by
 refine ⟨by omega,UO,by kernel_rfl,?_⟩;intro H enc W fuel cs x h;obtain ⟨xs,n,_,_,hl,ki,hf⟩:=DataW.trod_struct Tryz.underlying24 h;have jX:cs.length=2:=hl.trans (by kernel_rfl);obtain ⟨v0,v1,rfl⟩:=Pj jX;have rF:xs.length=2:=ki.trans (by kernel_rfl);have hs:∀ i,i < 2→(xs[i]?).isSome=true:=fun i hi=>by simp [rF,hi]
 obtain ⟨o0,_,a0,U0,e0,_,_⟩:=FK.field rfl rfl (hs 0 (by omega)) (hf 0 _ rfl);obtain ⟨o1,_,a1,U1,e1,_,_⟩:=FK.field rfl rfl (hs 1 (by omega)) (hf 1 _ rfl);simp at e0 e1 o0 o1;subst e0 e1;exact ⟨rfl,(by intro y hy;simp at hy;rcases hy with rfl | rfl <;> rfl),(a0,a1),[],rfl,rfl⟩
theorem FL:fE Tryz.prog 27 qP 4:=by
 refine ⟨by omega,UL,by kernel_rfl,?_⟩;intro H enc W fuel cs x h;obtain ⟨xs,n,_,_,hl,ki,hf⟩:=DataW.trod_struct Tryz.underlying27 h;have UQ:cs.length=4:=hl.trans (by kernel_rfl);obtain ⟨v0,v1,v2,v3,rfl⟩:=Pm UQ;have yL:xs.length=3:=ki.trans (by kernel_rfl);have hs:∀ i,i < 3→(xs[i]?).isSome=true:=fun i hi=>by simp [yL,hi]
 obtain ⟨o0,_,a0,U0,vp,e0,h0⟩:=Ub.field rfl rfl (hs 0 (by omega)) (hf 0 _ rfl);obtain ⟨o1,_,a1,U1,e1,_⟩:=UP.field rfl rfl (hs 1 (by omega)) (hf 1 _ rfl);obtain ⟨o2,_,a2,U2,vd,e2,h2⟩:=UN.field rfl rfl (hs 2 (by omega)) (hf 2 _ rfl);simp at e0 e1 e2 o0 o1 o2;obtain ⟨UR,US⟩:=e1;subst e0 UR US e2;have ck:∀ x∈U0 ++ U2,x < W.heap.size:=fun x hx=>by
  rcases List.mem_append.1 hx with h | h
  ·exact h0.lt x h
  ·exact h2.lt x h
 exact ⟨rfl,(by intro y hy;simp at hy;rcases hy with rfl | rfl | rfl | rfl <;> first | rfl | assumption),⟨a0,a1.1,a1.2,a2⟩,U0 ++ U2,_,_,rfl,h0.mono (fun x hx=>by simp [hx]) ck,h2.mono (fun x hx=>by simp [hx]) ck⟩
theorem FM {P:Program} {F:FuncId} {ds:List D} (h:Pure P F ds (.c (bI true))) {w:World} {xs:List Value} (hd:bU (fun _=>True) w ds xs):Calls P F xs.toArray w fun e w'=>e=.returned (.bool true)∧aq [] w w':=by
 refine Calls.mono (h.go (fun _=>True) w xs hd (by simp) List.Pairwise.nil (by simp [aT])) ?_
 rintro en w' ⟨i,x,rfl,kp,_,_,_,r⟩
 unfold RD bI RA at r;exact ⟨by rw [r.1],by simpa [aT] using kp⟩
end Fl
open Go.RowKit
namespace Fl
open Sx
theorem LW (off:Nat):∀ (l:List Value) (k:Nat) (z:Array Value),off + (k + l.length)≤z.size →
  (l.zipIdx k).foldl (fun cs x=>cs.setIfInBounds (off + x.2) x.1) z=(z.toList.take (off + k) ++ l ++ z.toList.drop (off + (k + l.length))).toArray
 | [],k,z,hz=>by simp
 | x :: l,k,z,hz=>by
  simp only [List.length_cons] at hz;rw [List.zipIdx_cons,List.foldl_cons,LW off l (k + 1) _ (by simp;omega)];apply congrArg;simp only [Array.toList_setIfInBounds,List.length_cons];rw [← Nat.add_assoc,List.take_add_one,List.take_set,List.getElem?_set_self (by simp;omega)];rw [List.set_eq_of_length_le (by simp;omega),List.drop_set,if_pos (by omega)];simp only [Option.toList_some,List.append_assoc,List.singleton_append,List.cons_append,List.nil_append];rw [show k + (l.length + 1)=k + 1 + l.length by omega]
theorem LX (sz:Nat):∀ (vs:List Value) (k:Nat) (z:Array Value),(∀ v∈vs,v.cells.size=sz)→(k + vs.length) * sz≤z.size →
  Instr.fill (fun j=>some (j * sz,sz)) z ((List.range' k vs.length).zip vs)=some (z.toList.take (k * sz) ++ vs.flatMap (·.cells.toList) ++ z.toList.drop ((k + vs.length) * sz)).toArray
 | [],k,z,h,hz=>by simp [Instr.fill]
 | v :: vs,k,z,h,hz=>by
  have hv:=h v (by simp);have e0:(k + (vs.length + 1)) * sz=k * sz + sz + vs.length * sz:=by simp [Nat.add_mul];omega
  simp only [List.length_cons] at hz;rw [e0] at hz;have P:=LW (k * sz) v.cells.toList 0 z (by simp [hv];omega);simp only [Nat.zero_add,Nat.add_zero,Array.length_toList,hv] at P;have P':(v.cells.zipIdx.foldl (fun cs x=>cs.setIfInBounds (k * sz + x.2) x.1) z)=(z.toList.take (k * sz) ++ v.cells.toList ++ z.toList.drop (k * sz + sz)).toArray:=by
   rw [← Array.foldl_toList,Array.toList_zipIdx];exact P
  have ih:=LX sz vs (k + 1) (z.toList.take (k * sz) ++ v.cells.toList ++ z.toList.drop (k * sz + sz)).toArray (fun u hu=>h u (by simp [hu])) (by simp [Nat.add_mul,hv];omega);simp only [List.length_cons,List.range'_succ,List.zip_cons_cons,Instr.fill];rw [if_neg (by simp [hv];omega)];refine Eq.trans (congrArg (fun z=>Instr.fill _ z _) P') (ih.trans ?_);have l1:(z.toList.take (k * sz) ++ v.cells.toList).length=(k + 1) * sz:=by simp [Nat.add_mul,hv];omega
  congr 2
  simp only [List.toList_toArray];rw [← l1,List.take_left' rfl,List.flatMap_cons];have e3:(k + 1 + vs.length) * sz=(z.toList.take (k * sz) ++ v.cells.toList).length + vs.length * sz:=by rw [l1];simp [Nat.add_mul]
  rw [e3,List.drop_append,List.drop_drop,e0];simp [List.append_assoc]
def qQ (f:Fm):List (Nat × Operand)→Option (List (List A))
 | []=>some []
 | (_,x) :: l=>(aU f x).bind fun d=>(g9 d).bind fun cs=>(qQ f l).bind fun r=>some (cs :: r)
inductive nB:List (List A)→List (List A)→Prop
 | nil:nB [] []
 | cons {a b xs ys}:jg a b→nB xs ys→nB (a :: xs) (b :: ys)
 | refl {xs}:nB xs xs
theorem nB.rep {ok:Nat→Prop} {w:World} {sz:Nat} {a b:List (List A)} (h:nB a b):∀ {x:List Value},RX ok w sz a x→RX ok w sz b x:=by
 induction h with
 | nil=>exact fun h=>h
 | refl=>exact fun h=>h
 | cons h1 _ ih =>
  intro x r;unfold RX at r ⊢;obtain ⟨vs,ys,a1,a2,a3,a4⟩:=r;exact ⟨vs,ys,a1,a2,h1.LU a3,ih a4⟩
theorem nB.len {a b:List (List A)} (h:nB a b):a.length=b.length:=by
 induction h with
 | nil=>rfl
 | refl=>rfl
 | cons _ _ ih=>simp [ih]
def zB:A→A→A
 | .v (.slice none 0 0),.r sz []=>.r sz []
 | a,_=>a
def pH:List A→List A→List A
 | a :: l,b :: m=>zB a b :: pH l m
 | l,_=>l
def sA:List (List A)→List (List A)→List (List A)
 | a :: l,b :: m=>pH a b :: sA l m
 | l,_=>l
theorem zB.le (a b:A):lR a (zB a b):=by
 unfold zB
 split
 ·exact .nil
 ·exact .refl
theorem pH.le:∀ a b:List A,jg a (pH a b)
 | [],b=>by unfold pH;exact .refl
 | a :: l,[]=>by unfold pH;exact .refl
 | a :: l,b :: m=>by unfold pH;exact .cons (zB.le a b) (pH.le l m)
theorem sA.le:∀ a b:List (List A),nB a (sA a b)
 | [],b=>by unfold sA;exact .refl
 | a :: l,[]=>by unfold sA;exact .refl
 | a :: l,b :: m=>by unfold sA;exact .cons (pH.le a b) (sA.le l m)
theorem jg.of {a b:List A} (h:pH a b=b):jg a b:=h ▸ pH.le a b
theorem nB.of {a b:List (List A)} (h:sA a b=b):nB a b:=h ▸ sA.le a b
section
variable {P:Program} {c:Cx} {f:Fm} {L:List ak} {X T:TypeId} {t:Nat} {ps:String} {af:Array Edge} {gd:Option (Nat × Bool)}
theorem qQ.rep {sz:Nat} {a:Act} {w:World} (s:St c f L a w):∀ {l:List (Nat × Operand)} {ll:List (List A)},qQ f l=some ll→(ll.all (·.length == sz))=true →
  RX (bG c L) w sz ll ((l.map fun x=>a.eval x.2).flatMap (·.cells.toList))∧(∀ v∈l.map (fun x=>a.eval x.2),v.cells.size=sz)∧l.length=ll.length
 | [],ll,h,_=>by
  simp only [qQ,Option.some.injEq] at h;subst h;exact ⟨rfl,by simp,rfl⟩
 | (j,x) :: l,ll,h,hs=>by
  simp only [qQ] at h
  cases e1:aU f x with
  | none=>rw [e1] at h;cases h
  | some d =>
  cases e2:g9 d with
  | none=>rw [e1] at h;simp [e2] at h
  | some cs =>
  cases e3:qQ f l with
  | none=>rw [e1] at h;simp [e2,e3] at h
  | some r =>
  rw [e1] at h;simp only [e2,e3,Option.bind_some,Option.some.injEq] at h;subst h;simp only [List.all_cons,Bool.and_eq_true,beq_iff_eq] at hs;obtain ⟨r1,r2,r3⟩:=qQ.rep s e3 hs.2;have ry:=g9.rep e2 (s.ev e1);have hz:(a.eval x).cells.size=sz:=by have:=ry.len;simp at this;omega
  refine ⟨?_,?_,by simp [r3]⟩
  ·unfold RX;exact ⟨_,_,rfl,by simpa using hz,ry,r1⟩
  ·intro v hv;simp only [List.map_cons,List.mem_cons] at hv;rcases hv with rfl | hv
   ·exact hz
   ·exact r2 v hv
theorem Ld.UT {e sz n:Nat} {fh:Array (Nat × Operand)} {ll mm:List (List A)} {zs:List Value} [i:fG P X e sz] [z:bp P e zs] (ht:t < c.N) (h:qQ f fh.toList=some ll) (hi:fh.toList.map (·.1)=List.range' 0 n) (hn:ll.all (·.length == sz)=true) (hm:Nat.ble n 1000=true) (h0:Nat.ble 1 sz=true) (hs:Nat.ble sz 1000=true) (hle:nB ll mm) :
  Ld P c ⟨some t,.buildSlice X n fh,T,ps,af,gd⟩ f L [] (fun b:Nat=>(t,.c (.v (.slice (some ⟨b,0,none⟩) n n))) :: f) (fun b=>.row (.slice (some ⟨b,0,none⟩) n n) e sz mm :: L):=⟨fun a w s K Q hK=>by
 have PM:1≤sz:=Nat.le_of_ble_eq_true h0;have Jf:sz≤1000:=Nat.le_of_ble_eq_true hs;have mP:n≤1000:=Nat.le_of_ble_eq_true hm;obtain ⟨rx,rv,rl⟩:=qQ.rep s h hn;have jw:fh.toList.length=n:=by have:=congrArg List.length hi;simpa using this
 have FN:fh.toList.map (fun x=>(x.1,a.eval x.2))=(List.range' 0 (fh.toList.map fun x=>a.eval x.2).length).zip (fh.toList.map fun x=>a.eval x.2):=by
  rw [List.length_map,jw,← hi,List.zip_map']
 obtain ⟨zv,Bf,wq⟩:=qn.run z.h;generalize LY:fh.toList.map (fun x=>a.eval x.2)=vs at rx rv FN;have nR:vs.length=n:=by rw [← LY];simpa using jw
 generalize jC:vs.flatMap (·.cells.toList)=cs at rx;have bZ:cs.length=n * sz:=by
  rw [← jC,← nR];clear jC LY rx FN nR
  induction vs with
  | nil=>simp
  | cons v vs ih =>
   rw [List.flatMap_cons,List.length_append,ih (fun u hu=>rv u (by simp [hu]))];have:=rv v (by simp);simp [Nat.add_mul,this];omega
 have hk:aq [] w (w.alloc (.cells cs.toArray e)):=(aq.refl [] w).alloc _;have DM:Instr.fill (fun j=>some (j * sz,sz)) ((Array.range (n * sz)).map (zv.cells[· % zv.cells.size]!)) (fh.toList.map (fun x=>(x.1,a.eval x.2)))=some cs.toArray:=by
  rw [FN];have e1:=LX sz vs 0 ((Array.range (n * sz)).map (zv.cells[· % zv.cells.size]!)) rv (by simp [nR]);rw [e1];simp only [Nat.zero_mul,List.take_zero,List.nil_append,Nat.zero_add,nR,jC];rw [List.drop_eq_nil_of_le (by simp)];simp
 have fO:(execOp a.eval ⟨some t,.buildSlice X n fh,T,ps,af,gd⟩).run P w=.ok (.value (.slice (some ⟨w.heap.size,0,none⟩) n n)) (w.alloc (.cells cs.toArray e)):=by
  have h1:¬ n * sz > 2 ^ 24:=by have:=Nat.mul_le_mul mP Jf;omega
  have UU:Instr.fill (fun j=>some (j * sz,sz)) ((Array.range (n * sz)).map (zv.cells[· % zv.cells.size]!)) ((fh.map (fun x=>(x.1,a.eval x.2))).toList)=some cs.toArray:=by simpa using DM
  by_cases h2:n * sz=0
  ·have K7:n=0:=by rcases Nat.mul_eq_zero.1 h2 with h | h <;> omega
   subst K7;have ha:fh=#[]:=by apply Array.eq_empty_of_size_eq_zero;simpa using jw
   subst ha;have UW:cs=[]:=by apply List.eq_nil_of_length_eq_zero;omega
   subst UW;simp [execOp,Instr.buildSlice,Sem.run_bind,run_underlying (lM.kn i.h),iR.run i.s,Instr.fill,newRow,Array.range_zero',run_newObj_alloc]
  ·simp only [execOp,Instr.buildSlice,Sem.run_bind,run_underlying (lM.kn i.h),iR.run i.s,Result.andThen_ok,h1,h2,↓reduceIte,wq,Sem.run_pure,UU,newRow,run_newObj_alloc]
 unfold Oper.wp;rw [fO];have hf:∀ y∈(ak.row (.slice (some ⟨w.heap.size,0,none⟩) n n) e sz mm).bY,w.heap.size≤y:=by simp [ak.bY,c9]
 refine hK w.heap.size _ _ hk (s.new ht hk hf ⟨cs,?_,?_⟩ (by unfold RD RA;exact ⟨rfl,rfl⟩)) (uA hf)
 ·have:=Row.lit w cs e sz n bZ (by simp [maxLen];omega);have l3:mm.length=n:=by rw [← hle.len,← rl,jw]
  rw [l3];simpa [c9] using this
 ·exact hle.rep (RX.cS (Mon.lJ hk fun g hg ho=>⟨Ba hf g hg ho,by simp⟩) ll _ rx)⟩
theorem Ld.w9 {e sz n:Nat} {fh:Array (Nat × Operand)} {ll mm:List (List A)} {zs:List Value} [i:fG P X e sz] [z:bp P e zs] (ht:t < c.N) (h:qQ f fh.toList=some ll) (hi:fh.toList.map (·.1)=List.range' 0 n) (hn:ll.all (·.length == sz)=true) (hm:Nat.ble n 1000=true) (h0:Nat.ble 1 sz=true) (hs:Nat.ble sz 1000=true) (hle:nB ll mm) :
  Ld P c ⟨some t,.buildSlice X n fh,T,ps,af,gd⟩ f L [] (fun _:Unit=>(t,.c (.r sz mm)) :: f) (fun _=>L):=⟨fun a w s K Q hK =>
 (Ld.UT (P:=P) (c:=c) (T:=T) (ps:=ps) (af:=af) (gd:=gd) (f:=f) (L:=L) (e:=e) (sz:=sz) (zs:=zs) (X:=X) (t:=t) ht h hi hn hm h0 hs hle).go a w s K Q fun b u w' k' s' hf=>hK () u w' k' s'.freeze fun y hy=>hf y ((jf _ _ _).2 (.inr hy))⟩
end
end Fl
open Go.RowKit
namespace Po
end Po
def hand (ok:Bool) (x:Int) (l:List Int):List Int:=if ok then x :: l else l
open Go.RowKit
def RP (w:World) (vc vm:Value) (C:List (List Int)) (M:List Int) (S:List Nat):Prop :=
 GV Dz 1 w vc C S∧∃ U,IV w vm M U∧∀ x∈U,x∈S
theorem RP.aY {w w':World} {vc vm:Value} {C:List (List Int)} {M:List Int} {S T:List Nat} (h:RP w vc vm C M S) (k:aq T w w') (hn:∀ x∈S,x∉T):RP w' vc vm C M S:=by
 obtain ⟨h1,U,h2,h3⟩:=h;exact ⟨h1.aY Pg k hn,U,h2.aY k (fun x hx=>hn x (h3 x hx)),h3⟩
theorem RP.then {w w':World} {vc vm:Value} {C:List (List Int)} {M:List Int} {S:List Nat} (h:RP w vc vm C M S) (k:aq [] w w'):RP w' vc vm C M S:=h.aY k (by simp)
open Go.RowKit
namespace Po
def settle (f:Int):List Bool→List Int→List Bool × Bool
 | H,[]=>(H,true)
 | H,x :: r=>if live f H x then settle f (H.set x.toNat true) r else (H,false)
theorem xb (f:Int) (H:List Bool) (x:Int) (r:List Int):settle f H (x :: r)=if live f H x then settle f (H.set x.toNat true) r else (H,false):=rfl
theorem BZ (f:Int):∀ (H:List Bool) (l:List Int),(settle f H l).1.length=H.length
 | H,[]=>rfl
 | H,x :: r=>by
  unfold settle
  split
  ·rw [BZ f _ r];simp
  ·rfl
theorem UX (l:List Int) (k:Nat) (h:k < l.length):l.drop k=l.getD k 0 :: l.drop (k + 1):=by
 rw [List.drop_eq_getElem_cons h,List.getD_eq_getElem?_getD,List.getElem?_eq_getElem h];rfl
end Po
theorem Pl.mark {w:World} {b:Nat} {size most f:Int} {C:List (List Int)} {M:List Int} {H:List Bool} {S:List Nat} (h:Pl w (.pointer (some ⟨b,0,none⟩)) size most C M f H S) {j:Nat} (hj:j < H.length) :
  ∃ g off cap t,w.cell? ⟨b,5,none⟩=some (.slice (some ⟨g,off,none⟩) H.length cap)∧w.cell? ⟨g,off + j,none⟩=some (.bool t)∧w.frozen? ⟨g,off + j,none⟩=false ∧
   Pl (w.setCell ⟨g,off + j,none⟩ (.bool true)) (.pointer (some ⟨b,0,none⟩)) size most C M f (H.set j true) S∧aq S w (w.setCell ⟨g,off + j,none⟩ (.bool true)):=by
 obtain ⟨b',vc,vm,vh,T1,Us,Tm,Th,mG,hb,hc,hm,hh,ha,rfl⟩:=h
 cases mG;obtain ⟨ao,cap,rfl⟩:=hh.shape;obtain ⟨g,off,rfl,rfl,hg,c6,f6⟩:=hh.cells (List.getElem?_eq_getElem hj);obtain ⟨hs,hk⟩:=hh.stored j hj true;obtain ⟨p1,p2⟩:=List.pairwise_cons.1 ha;obtain ⟨p2,p3⟩:=List.pairwise_cons.1 p2;obtain ⟨p3,p4⟩:=List.pairwise_cons.1 p3;obtain ⟨p4,_⟩:=List.pairwise_cons.1 p4;exact ⟨g,off,cap,H[j],hb.cell 5,c6,f6,⟨b,vc,vm,_,T1,Us,Tm,[g],rfl,hb.aY hk (p1 [g] (by simp) b (by simp)),hc.aY hk (p2 [g] (by simp)) (fun U hU x hx=>p3 [g] (by simp) x (List.mem_flatten.2 ⟨U,hU,hx⟩)),hm.aY hk (p4 [g] (by simp)),by simpa using hs,ha,rfl⟩,hk.mono (fun x hx=>.inl (by simp at hx;simp [hx]))⟩
def FO (r:List Bool × Bool) (b:Nat) (size most f:Int) (C:List (List Int)) (M:List Int) (S:List Nat) (w:World) (e:Ending) (w':World):Prop :=
 e=.returned (.bool r.2)∧aq S w w'∧Pl w' (.pointer (some ⟨b,0,none⟩)) size most C M f r.1 S
theorem Po.UY {f:Int} {H:List Bool} {x:Int} (h:Po.live f H x=true) (hf:f≤H.length):∃ j:Nat,x=j∧j < H.length:=by
 simp [Po.live] at h;exact ⟨x.toNat,by omega,by omega⟩
set_option maxHeartbeats 800000 in
theorem LZ (w:World) (b:Nat) (size most f:Int) (C:List (List Int)) (M:List Int) (H:List Bool) (S:List Nat) (v:Value) (l:List Int) (U:List Nat) (h:Pl w (.pointer (some ⟨b,0,none⟩)) size most C M f H S) (hf:f≤H.length) (BE:H.length≤1000)
  (hv:IV w v l U) (hd:∀ x∈U,x∉S) :
  Calls Tryz.prog 126 #[.pointer (some ⟨b,0,none⟩),v] w (FO (Po.settle f H l) b size most f C M S w):=by
 have hm:=hv.le;unfold maxLen at hm;obtain ⟨ao,cap,rfl⟩:=hv.shape;have HV:=Lib.hid hv;have HP:=Lib.hid h;have HD:=Lib.hid hd;have HF:=Lib.hid hf;clear hv h hd hf
 go_enter Tryz.func126,Tryz.ntmps126
 go_wp2_with fail
 go_loopw [6,9] (fun _ i wr=>∃ (k:Nat) (H':List Bool),k≤l.length∧i=.int .i64 k∧aq S w wr∧Pl wr (.pointer (some ⟨b,0,none⟩)) size most C M f H' S∧H'.length=H.length∧Po.settle f H l=Po.settle f H' (l.drop k)) (fun _ i _=>l.length - (intOf i).toNat)
 case atStart=>exact ⟨0,H,Nat.zero_le _,rfl,aq.refl _ _,HP.out,rfl,rfl⟩
 case round =>
  obtain ⟨k,H',hk,rfl,cR,hp,hle,hs⟩:=hrel;have gQ:=Lib.hid cR;have B0:=Lib.hid hp;have HL:=Lib.hid hle;have HS:=Lib.hid hs;clear cR hp hle hs
  by_cases ck:k < l.length
  ·obtain ⟨g,off,rfl,rfl,hg,hc⟩:=(HV.out.aY gQ.out HD.out).cells (by omega);have c0:=hc k ck;have HN:=Lib.hid (Po.UX l k ck);clear hc;generalize l.getD k 0=x at *
   go_wp2_with fail
   refine (Eg _ _ _ _ _ _ _ _ _ x B0.out (by rw [HL.out];exact HF.out)).mono ?_
   rintro e w1 ⟨rfl,rfl⟩
   cases hq:Po.live f H' x with
   | true =>
    have HQ:=Lib.hid hq;obtain ⟨j,rfl,hj⟩:=Po.UY hq (by rw [HL.out];exact HF.out);obtain ⟨g2,vn,L3,t,d5,d6,f6,L4,k2⟩:=B0.out.mark hj;have UZ:=Lib.hid L4;have uT:=Lib.hid k2;have hh:H'.length≤1000:=by rw [HL.out];exact BE
    have kI:Hid (Po.settle f H l=Po.settle f (H'.set j true) (l.drop (k + 1))):=Lib.hid (by
     rw [HS.out,HN.out];rw [Po.xb,if_pos HQ.out];rfl)
    clear L4 k2 c0 hq
    go_wp2_with fail
    go_roundw
    case rel=>exact ⟨k + 1,_,by omega,by go_num,gQ.out.trans uT.out (fun y hy=>.inl hy),UZ.out,by rw [List.length_set];exact HL.out,kI.out⟩
    case measure=>simp [intOf];omega
   | false =>
    have kI:Hid (Po.settle f H l=(H',false)):=Lib.hid (by
     rw [HS.out,HN.out];rw [Po.xb,if_neg (by simp [hq])])
    clear c0
    go_wp2_with fail
    go_ret
    unfold FO;rw [kI.out];exact ⟨rfl,gQ.out,B0.out⟩
  ·obtain rfl:k=l.length:=by omega
   have kI:Hid (Po.settle f H l=(H',true)):=Lib.hid (by rw [HS.out,List.drop_length];rfl)
   go_wp2_with fail
   go_ret
   unfold FO;rw [kI.out];exact ⟨rfl,gQ.out,B0.out⟩
open Go.RowKit
namespace Po
def once (f:Int) (L:List Int):Bool:=decide (∀ i,i < L.length→0≤L.getD i 0∧L.getD i 0 < f∧L.getD i 0∉L.take i)
def right (size most f:Int) (C:List (List Int)) (M:List Int):Bool :=
 fits size C.length most && decide (0≤f) && decide (f≤size) && decide (∀ l∈C,(l.length:Int)≤most) && once f (M ++ C.flatten)
end Po
open Go.RowKit
theorem xd {A B F D E:List Nat}:eY [A,B,F,D,E]↔((∀ x∈A,x∉B∧x∉F∧x∉D∧x∉E)∧(∀ x∈B,x∉F∧x∉D∧x∉E)∧(∀ x∈F,x∉D∧x∉E)∧(∀ x∈D,x∉E)):=by
 simp only [eY,List.pairwise_cons,List.mem_cons,List.not_mem_nil,or_false,forall_eq_or_imp,forall_eq,List.Pairwise.nil,and_true,false_implies,implies_true]
 constructor
 ·rintro ⟨⟨a1,a2,a3,a4⟩,⟨b1,b2,b3⟩,⟨c1,c2⟩,d1⟩
  exact ⟨fun x hx=>⟨a1 x hx,a2 x hx,a3 x hx,a4 x hx⟩,fun x hx=>⟨b1 x hx,b2 x hx,b3 x hx⟩,fun x hx=>⟨c1 x hx,c2 x hx⟩,d1⟩
 ·rintro ⟨a,b,c,d⟩
  exact ⟨⟨fun x hx=>(a x hx).1,fun x hx=>(a x hx).2.1,fun x hx=>(a x hx).2.2.1,fun x hx=>(a x hx).2.2.2⟩,⟨fun x hx=>(b x hx).1,fun x hx=>(b x hx).2.1,fun x hx=>(b x hx).2.2⟩,⟨fun x hx=>(c x hx).1,fun x hx=>(c x hx).2⟩,d⟩
section
variable {w:World} {b:Nat} {size most f:Int} {C:List (List Int)} {M:List Int} {H:List Bool} {S:List Nat}
theorem Pl.U8 (h:Pl w (.pointer (some ⟨b,0,none⟩)) size most C M f H S) (f':Int) :
  w.cell? ⟨b,4,none⟩=some (.int .i64 f)∧w.frozen? ⟨b,4,none⟩=false∧Pl (w.setCell ⟨b,4,none⟩ (.int .i64 f')) (.pointer (some ⟨b,0,none⟩)) size most C M f' H S∧aq S w (w.setCell ⟨b,4,none⟩ (.int .i64 f')):=by
 obtain ⟨b',vc,vm,vh,T1,Us,Tm,Th,mG,hb,hc,hm,hh,ha,rfl⟩:=h
 cases mG;have k:aq [b] w (w.setCell ⟨b,4,none⟩ (.int .i64 f')):=(aq.refl _ w).setCell (by simp) _;have p:=(xd.1 ha).1 b (by simp);refine ⟨hb.cell 4,hb.free 4,⟨b,vc,vm,vh,T1,Us,Tm,Th,rfl,by simpa using hb.set 4 (.int .i64 f'),hc.aY k (fun x hx h=>?_) (fun U hU x hx h=>?_),hm.aY k (fun x hx h=>?_),hh.aY k (fun x hx h=>?_),ha,rfl⟩,k.mono (by simp)⟩
 all_goals (have h2:x=b:=by simpa using h);subst h2
 ·exact p.1 hx
 ·exact p.2.1 (List.mem_flatten.2 ⟨U,hU,hx⟩)
 ·exact p.2.2.1 hx
 ·exact p.2.2.2 hx
theorem Pl.bh (h:Pl w (.pointer (some ⟨b,0,none⟩)) size most C M f H S) :
  (∃ v0,w.cell? ⟨b,3,none⟩=some v0)∧w.frozen? ⟨b,3,none⟩=false∧b∈S∧∀ w' v' M' U',aq [] w w'→IR w' v' 3 M' U'→(∀ x∈U',w.heap.size≤x) →
   ∃ S',Pl (w'.setCell ⟨b,3,none⟩ v') (.pointer (some ⟨b,0,none⟩)) size most C M' f H S'∧aq S w (w'.setCell ⟨b,3,none⟩ v')∧∀ x∈S',x∈S∨w.heap.size≤x:=by
 have ck:=h.lt;obtain ⟨b',vc,vm,vh,T1,Us,Tm,Th,mG,hb,hc,hm,hh,ha,rfl⟩:=h
 cases mG;refine ⟨⟨_,hb.cell 3⟩,hb.free 3,by simp,fun w' v' M' U' k hr hU=>?_⟩;have dP:=hb.lt;have k2:aq [b] w' (w'.setCell ⟨b,3,none⟩ v'):=(aq.refl _ w').setCell (by simp) _;have p:=(xd.1 ha).1 b (by simp);have ap:=xd.1 ha;refine ⟨b :: (T1 ++ Us.flatten ++ U' ++ Th),⟨b,vc,v',vh,T1,Us,U',Th,rfl,by simpa using (hb.aY k (by simp)).set 3 v',(hc.aY k (by simp) (by simp)).aY k2 (fun x hx h=>?_) (fun U hU x hx h=>?_),hr.aY k2 (fun x hx h=>?_),(hh.aY k (by simp)).aY k2 (fun x hx h=>?_),?_,rfl⟩,?_,?_⟩
 ·have h2:x=b:=by simpa using h
  subst h2;exact p.1 hx
 ·have h2:x=b:=by simpa using h
  subst h2;exact p.2.1 (List.mem_flatten.2 ⟨U,hU,hx⟩)
 ·have h2:x=b:=by simpa using h
  have:=hU x hx;omega
 ·have h2:x=b:=by simpa using h
  subst h2;exact p.2.2.2 hx
 ·have hn:∀ x∈b :: (T1 ++ Us.flatten ++ Tm ++ Th),x∉U':=fun x hx h=>by have:=ck x hx;have:=hU x h;omega
  refine xd.2 ⟨fun x hx=>⟨(ap.1 x hx).1,(ap.1 x hx).2.1,hn x (by simp at hx;simp [hx]),(ap.1 x hx).2.2.2⟩,fun x hx=>⟨(ap.2.1 x hx).1,hn x (by simp [hx]),(ap.2.1 x hx).2.2⟩,fun x hx=>⟨hn x (List.mem_cons_of_mem _ (List.mem_append_left _ (List.mem_append_left _ (List.mem_append_right _ hx)))),(ap.2.2.1 x hx).2⟩,fun x hx h=>hn x (by simp [h]) hx⟩
 ·exact (k.mono (by simp)).trans k2 (fun x hx=>by simp at hx;simp [hx])
 ·intro x hx;simp only [List.mem_cons,List.mem_append] at hx ⊢;rcases hx with h | ((h | h) | h) | h
  ·exact .inl (.inl h)
  ·exact .inl (.inr (.inl (.inl (.inl h))))
  ·exact .inl (.inr (.inl (.inl (.inr h))))
  ·exact .inr (hU x h)
  ·exact .inl (.inr (.inr h))
theorem Pl.row (h:Pl w (.pointer (some ⟨b,0,none⟩)) size most C M f H S) {n:Nat} (hn:n < C.length) :
  ∃ g off cap,w.cell? ⟨b,2,none⟩=some (.slice (some ⟨g,off,none⟩) C.length cap)∧b∈S∧(∃ v0,w.cell? ⟨g,off + n,none⟩=some v0)∧w.frozen? ⟨g,off + n,none⟩=false∧∀ w' v' l' U',aq [] w w'→IR w' v' 3 l' U'→(∀ x∈U',w.heap.size≤x) →
   ∃ S',Pl (w'.setCell ⟨g,off + n,none⟩ v') (.pointer (some ⟨b,0,none⟩)) size most (C.set n l') M f H S'∧aq S w (w'.setCell ⟨g,off + n,none⟩ v')∧∀ x∈S',x∈S∨w.heap.size≤x:=by
 have ck:=h.lt;obtain ⟨b',vc,vm,vh,T1,Us,Tm,Th,mG,hb,hc,hm,hh,ha,rfl⟩:=h
 cases mG;obtain ⟨ao,cap,rfl⟩:=hc.shape;have hk:=List.getElem?_eq_getElem hn;obtain ⟨g,off,x,U,rfl,rfl,hg,c6,f6,hr,hU,wL⟩:=hc.get hk;refine ⟨g,off,cap,hb.cell 2,by simp,⟨x,c6⟩,f6,fun w' v' l' U' k uD rY=>?_⟩;have k2:aq [g] w' (w'.setCell ⟨g,off + n,none⟩ v'):=(aq.refl _ w').setCell (by simp) _;have ap:=xd.1 ha;have kR:∀ x∈(Us.set n U').flatten,x∈Us.flatten∨w.heap.size≤x:=fun x hx=>by
  rcases uV hx with h | h
  ·exact .inl h
  ·exact .inr (rY x h)
 have U9:=hc.Kh hk hU k (by simp) (by simp) uD (fun x hx=>.inr (rY x hx));refine ⟨b :: ([g] ++ (Us.set n U').flatten ++ Tm ++ Th),⟨b,_,vm,vh,[g],Us.set n U',Tm,Th,rfl,((hb.aY k (by simp))).aY k2 (fun h=>?_),by simpa using U9,(hm.aY k (by simp)).aY k2 (fun x hx h=>?_),(hh.aY k (by simp)).aY k2 (fun x hx h=>?_),?_,rfl⟩,?_,?_⟩
 ·exact (ap.1 b (by simp)).1 h
 ·exact (ap.2.1 x h).2.1 hx
 ·exact (ap.2.1 x h).2.2 hx
 ·have lS:∀ y∈b :: ([g] ++ Us.flatten ++ Tm ++ Th),∀ x∈(Us.set n U').flatten,x=y→x∈Us.flatten:=fun y hy x hx e=>by
   rcases kR x hx with h | h
   ·exact h
   ·have:=ck y hy;omega
  refine xd.2 ⟨fun x hx=>⟨(ap.1 x hx).1,fun h=>(ap.1 x hx).2.1 (lS x (by simp at hx;simp [hx]) x h rfl),(ap.1 x hx).2.2⟩,fun x hx=>⟨fun h=>(ap.2.1 x hx).1 (lS x (by simp at hx;simp [hx]) x h rfl),(ap.2.1 x hx).2⟩,fun x hx=>⟨fun h=>(ap.2.2.1 x (lS x (by simp [h]) x hx rfl)).1 h,fun h=>(ap.2.2.1 x (lS x (by simp [h]) x hx rfl)).2 h⟩,ap.2.2.2⟩
 ·exact (k.mono (by simp)).trans k2 (fun x hx=>by simp at hx;simp [hx])
 ·intro x hx;simp only [List.mem_cons,List.mem_append] at hx ⊢;rcases hx with h | ((h | h) | h) | h
  ·exact .inl (.inl h)
  ·exact .inl (.inr (.inl (.inl (.inl h))))
  ·rcases kR x h with h | h
   ·exact .inl (.inr (.inl (.inl (.inr h))))
   ·exact .inr h
  ·exact .inl (.inr (.inl (.inr h)))
  ·exact .inl (.inr (.inr h))
end
open Go.RowKit
namespace Po
theorem xe (f:Int):∀ (H:List Bool) (a b:List Int),settle f H (a ++ b)=if (settle f H a).2 then settle f (settle f H a).1 b else settle f H a
 | H,[],b=>rfl
 | H,x :: r,b=>by
  rw [List.cons_append,xb,xb]
  by_cases h:live f H x=true
  ·rw [if_pos h,if_pos h];exact xe f _ r b
  ·rw [if_neg h,if_neg h];rfl
def of (size most f:Int) (C:List (List Int)) (M:List Int):Bool :=
 fits size C.length most && decide (0≤f) && decide (f≤size) && decide (∀ l∈C,(l.length:Int)≤most) && (settle f (List.replicate size.toNat false) (C.flatten ++ M)).2
theorem Va {C:List (List Int)} {k:Nat} (hk:k < C.length):(C.take k ++ List.replicate (C.length - k) []).set k C[k]=C.take (k + 1) ++ List.replicate (C.length - (k + 1)) []:=by
 have e1:(C.take k).length=k:=by simp;omega
 obtain ⟨d,hd⟩:∃ d,C.length - k=d + 1:=⟨C.length - k - 1,by omega⟩
 have FP:C.length - (k + 1)=d:=by omega
 rw [List.set_append_right _ _ (by omega),e1,Nat.sub_self,hd,FP,List.replicate_succ,List.set_cons_zero,List.take_succ_eq_append_getElem hk,List.append_assoc];rfl
theorem Vb {f:Int} {H:List Bool} {C:List (List Int)} {M:List Int} {k:Nat} (hk:k < C.length) {H':List Bool} (h:settle f H (C.take k).flatten=(H',true)) (hb:(settle f H' C[k]).2=false):(settle f H (C.flatten ++ M)).2=false:=by
 have e:C.flatten ++ M=(C.take k).flatten ++ (C[k] ++ ((C.drop (k + 1)).flatten ++ M)):=by
  have h1:C=C.take k ++ C[k] :: C.drop (k + 1):=by rw [← List.drop_eq_getElem_cons hk,List.take_append_drop]
  have h2:C.flatten=(C.take k ++ C[k] :: C.drop (k + 1)).flatten:=congrArg List.flatten h1;rw [h2,List.flatten_append,List.flatten_cons];simp only [List.append_assoc]
 rw [e,xe,h,if_pos rfl,xe];simp [hb]
end Po
def Vc (size most f:Int) (C:List (List Int)) (M:List Int) (w:World) (e:Ending) (w':World):Prop :=
 aq [] w w'∧((Po.of size most f C M=true∧∃ b S H,e=.returned (.tuple #[.pointer (some ⟨b,0,none⟩),.int .i64 0])∧Pl w' (.pointer (some ⟨b,0,none⟩)) size most C M f H S∧(∀ k∈S,w.heap.size≤k)∧Po.settle f (List.replicate size.toNat false) (C.flatten ++ M)=(H,true)) ∨
  (Po.of size most f C M=false∧e=.returned (.tuple #[.pointer none,.int .i64 1])))
def FQ (w:World) (b:Nat) (size most f:Int) (C:List (List Int)) (k:Nat) (wr:World):Prop :=
 ∃ CK H S,Pl wr (.pointer (some ⟨b,0,none⟩)) size most CK [] f H S∧CK=C.take k ++ List.replicate (C.length - k) []∧aq [] w wr∧(∀ x∈S,w.heap.size≤x)∧Po.settle f (List.replicate size.toNat false) (C.take k).flatten=(H,true)∧(∀ l∈C.take k,(l.length:Int)≤most)∧f≤H.length∧H.length≤1000
set_option maxHeartbeats 3200000 in
theorem Vd (w:World) (size most f:Int) (vc vm:Value) (C:List (List Int)) (M:List Int) (R:List Nat) (h:RP w vc vm C M R) (hM:M.length≤1000) (hC:∀ l∈C,l.length≤1000) :
  Calls Tryz.prog 55 #[.int .i64 size,.int .i64 most,vc,vm,.int .i64 f] w (Vc size most f C M w):=by
 have Ve:=Lib.hid h;have L5:=h.1.lt;have L6:=Lib.hid L5;obtain ⟨h1,U,h2,h3⟩:=h;have hle:=h1.le;unfold maxLen at hle;obtain ⟨pF,lf,rfl⟩:=h1.shape;obtain ⟨tH,jo,rfl⟩:=h2.shape;have H2:=Lib.hid h2;have HU:=Lib.hid h3;have HM:=Lib.hid hM;have HC:=Lib.hid hC;clear h1 h2 h3 hM hC L5
 cases hc:Po.fits size C.length most with
 | false =>
  have HF:Hid (Po.of size most f C M=false):=Lib.hid (by simp [Po.of,hc])
  go_enter Tryz.func55,Tryz.ntmps55
  go_wp2_with fail
  refine (Sy _ _ _ _ hc).mono ?_
  rintro e w1 ⟨rfl,rfl⟩
  go_wp2_with fail
  go_ret2
  exact ⟨aq.refl _ _,.inr ⟨HF.out,rfl⟩⟩
 | true =>
  have L7:=Po.KF hc;obtain ⟨n,rfl⟩:=Int.eq_ofNat_of_zero_le L7.1;obtain ⟨m,rfl⟩:=Int.eq_ofNat_of_zero_le (show 0≤most by omega);have oA:n≤64:=by omega
  have h8:C.length≤8:=by omega
  have ta:1≤m:=by omega
  have Vf:m≤16:=by omega
  clear L7;have FT:=Lib.hid (fun w'=>Sv w' n C.length m oA h8 ta Vf)
  cases q1:decide (f < 0) with
  | true =>
   have HF:Hid (Po.of n m f C M=false):=Lib.hid (by
    have:f < 0:=of_decide_eq_true q1;have h0:¬ 0≤f:=by omega
    simp [Po.of,h0])
   go_enter Tryz.func55,Tryz.ntmps55
   go_wp2_with fail
   refine (FT.out _).mono ?_
   rintro e w1 ⟨p,S,rfl,k1,p1,s1⟩
   have K1:=Lib.hid k1;clear k1 p1 s1
   go_wp2_with fail
   go_ret2
   exact ⟨K1.out,.inr ⟨HF.out,rfl⟩⟩
  | false =>
   cases q2:decide ((n:Int) < f) with
   | true =>
    have HF:Hid (Po.of n m f C M=false):=Lib.hid (by
     have:(n:Int) < f:=of_decide_eq_true q2;have h0:¬ f≤n:=by omega
     simp [Po.of,h0])
    go_enter Tryz.func55,Tryz.ntmps55
    go_wp2_with fail
    refine (FT.out _).mono ?_
    rintro e w1 ⟨p,S,rfl,k1,p1,s1⟩
    have K1:=Lib.hid k1;clear k1 p1 s1
    go_wp2_with fail
    go_ret2
    exact ⟨K1.out,.inr ⟨HF.out,rfl⟩⟩
   | false =>
    have HF:Hid (Po.of n m f C M=(decide (∀ l∈C,(l.length:Int)≤m) && (Po.settle f (List.replicate n false) (C.flatten ++ M)).2)):=Lib.hid (by
     have h1:=of_decide_eq_false q1;have h2:=of_decide_eq_false q2;have h3:0≤f:=by omega
     have h4:f≤n:=by omega
     simp [Po.of,hc,h3,h4])
    have L8:f≤n:=by have:=of_decide_eq_false q2;omega
    have Vg:=Lib.hid L8;clear L8
    go_enter Tryz.func55,Tryz.ntmps55
    go_wp2_with fail
    refine (FT.out _).mono ?_
    rintro e w1 ⟨p,S,rfl,k1,p1,s1⟩
    obtain ⟨b,rfl⟩:=Pl.shape p1;obtain ⟨c4,f4,p2,k2⟩:=Pl.U8 p1 f;have HI:Hid (FQ w b n m f C 0 (w1.setCell ⟨b,4,none⟩ (.int .i64 f))):=Lib.hid
     ⟨_,_,S,p2,by simp [Po.new],k1.trans k2 (fun x hx=>.inr (s1 x hx)),s1,rfl,by simp,by simp [Po.new];exact Vg.out,by simp [Po.new];omega⟩
    have e0:w1.cell? ⟨b,4,none⟩=some (.int .i64 0):=c4;clear p1 k1 s1 p2 k2 c4
    go_wp2_with fail
    go_loopw [14,15,40] (fun _ _ i wr=>∃ k:Nat,k≤C.length∧i=.int .i64 k∧FQ w b n m f C k wr) (fun _ _ i _=>C.length - (intOf i).toNat)
    case atStart=>exact ⟨0,Nat.zero_le _,rfl,HI.out⟩
    case round =>
     obtain ⟨k,hk,rfl,CK,H,S,hp,FV,cR,hS,eN,kP,zj,hH⟩:=hrel;have HP:=Lib.hid hp;have L9:=Lib.hid FV;have gQ:=Lib.hid cR;have HS:=Lib.hid hS;have FX:=Lib.hid eN;have Ma:=Lib.hid kP;have FY:=Lib.hid zj;have FZ:CK.length=C.length:=by rw [FV];simp;omega
     clear hp FV cR hS eN kP zj HI e0 f4
     by_cases ck:k < C.length
     ·obtain ⟨g,off,cs,U1,rfl,hgS,hg,jC,rz,⟨vk,rfl,B1⟩,Vh⟩:=(Ve.out.then gQ.out).1.get (List.getElem?_eq_getElem ck);have c0:wr.cell? ⟨g,off + k,none⟩=some vk:=by have:=rz 0 (by omega);rwa [Nat.mul_one,Nat.add_zero] at this
      have HT:Hid (C.take (k + 1)=C.take k ++ [C[k]]):=Lib.hid (List.take_succ_eq_append_getElem ck);have Mb:Hid (C[k]∈C):=Lib.hid (List.getElem_mem ck);have Vi:=Lib.hid (Po.Va ck);have Vj:Hid (∀ H':List Bool,Po.settle f (List.replicate n false) (C.take k).flatten=(H',true)→(Po.settle f H' C[k]).2=false→(Po.settle f (List.replicate n false) (C.flatten ++ M)).2=false):=Lib.hid (fun H'=>Po.Vb ck);generalize C[k]=l at *;obtain ⟨aok,aa4,rfl⟩:=B1.shape;have gF:=B1.le;unfold maxLen at gF;have Mc:=Lib.hid B1;have zC:Hid (∀ x∈U1,x∉S):=Lib.hid (fun x hx h=>by have:=L6.out x (Vh x hx);have:=HS.out x h;omega);have aa5:=HC.out l Mb.out;clear jC rz B1
      cases q3:decide (m < l.length) with
      | true =>
       have zD:Hid (Po.of n m f C M=false):=Lib.hid (by
        have h1:=of_decide_eq_true q3;rw [HF.out,decide_eq_false (fun h=>by have:=h l Mb.out;omega)];rfl)
       go_wp2_with fail
       go_ret2
       exact ⟨gQ.out,.inr ⟨zD.out,rfl⟩⟩
      | false =>
       have HL:=Lib.hid (of_decide_eq_false q3)
       go_wp2_with fail
       refine (LZ _ b _ _ f CK [] H S _ l U1 HP.out FY.out hH Mc.out zC.out).mono ?_
       rintro e w5 ⟨rfl,k5,p5⟩
       have zE:=Po.BZ f H l;obtain ⟨r,hr⟩:∃ r,Po.settle f H l=r:=⟨_,rfl⟩
       rw [hr] at p5 zE ⊢;obtain ⟨H5,ok⟩:=r;dsimp only at p5 zE ⊢;have K5:Hid (aq [] w w5):=Lib.hid (gQ.out.trans k5 (fun x hx=>.inr (HS.out x hx)));have xg:=Lib.hid hr;have F0:=Lib.hid (Mc.out.aY k5 zC.out)
       cases ok with
       | false =>
        have zD:Hid (Po.of n m f C M=false):=Lib.hid (by
         rw [HF.out,Vj.out _ FX.out (by rw [xg.out])];simp)
        clear k5 p5 hr zE
        go_wp2_with fail
        go_ret2
        exact ⟨K5.out,.inr ⟨zD.out,rfl⟩⟩
       | true =>
        obtain ⟨g2,vn,L3,d2,Vk,⟨v0,dr⟩,fr,pz⟩:=Pl.row p5 (n:=k) (by omega);have F6:=Lib.hid pz;have RH:(k:Int) < (CK.length:Int):=by omega
        have Me:=Lib.hid zE;have HP5:=Lib.hid p5;have aa7:=Lib.hid FZ;clear k5 p5 hr pz zE FZ
        go_wp2_with fail
        go_region_law (refine Pe rO (IR.nil w5.drew 3) (F0.out.then ((aq.refl [] w5).drew)) (by rw [List.length_nil];omega) ?_;intro kG kF w7 U7 r7 k7 s7;have k8:aq [] w5 w7:=((aq.refl [] w5).drew).trans k7 (by simp);have e2:w7.cell? ⟨b,2,none⟩=some (.slice (some ⟨g2,vn,none⟩) CK.length L3):=k8.cell d2 (by simp);have er:w7.cell? ⟨g2,vn + k,none⟩=some v0:=k8.cell dr (by simp);have ef:w7.frozen? ⟨g2,vn + k,none⟩=false:=(World.frozen?_of_block (a:=⟨g2,vn + k,none⟩) (k8.block g2 (block_lt_of_cell dr) (by simp))).trans fr;have R7:=Lib.hid r7;have K8:=Lib.hid k8;have S7:=Lib.hid s7;clear r7 k7 s7 k8)
        all_goals
         obtain ⟨F7,zF,zG,zH⟩:=F6.out w7 _ l U7 K8.out (by simpa using R7.out) (fun x hx=>by rcases S7.out x hx with h | h;simp at h;exact h);have HN:Hid (FQ w b n m f C (k + 1) (w7.setCell ⟨g2,vn + k,none⟩ (.slice kG l.length kF))):=Lib.hid ⟨CK.set k l,H5,F7,zF,by rw [L9.out];exact Vi.out,K5.out.trans zG (fun x hx=>.inr (HS.out x hx)),fun x hx=>by
           rcases zH x hx with h | h
           ·exact HS.out x h
           ·have:=K5.out.size;omega,by
           rw [HT.out,List.flatten_append,Po.xe,show (n:Int).toNat=n from rfl] at *;rw [FX.out];simpa using xg.out,fun y hy=>by
           rw [HT.out] at hy;rcases List.mem_append.1 hy with h | h
           ·exact Ma.out y h
           ·simp at h;subst h;have:=HL.out;omega,by rw [Me.out];exact FY.out,by rw [Me.out];exact hH⟩
         clear zF zG zH
         go_wp2_with fail
         go_roundw
         case rel=>exact ⟨k + 1,by omega,by go_num,HN.out⟩
         case measure=>simp [intOf];omega
     ·obtain rfl:k=C.length:=by omega
      have Mf:CK=C:=by rw [L9.out];simp
      have F8:=HP.out;rw [Mf] at F8;have Vl:=Lib.hid F8;have eN:=FX.out;rw [List.take_length] at eN;have kP:=Ma.out;rw [List.take_length] at kP;have Mg:Hid (Po.settle f (List.replicate n false) C.flatten=(H,true)):=Lib.hid eN;have wR:Hid (Po.of n m f C M=(Po.settle f H M).2):=Lib.hid (by
       rw [HF.out,decide_eq_true kP,Po.xe,Mg.out];rfl)
      have Vm:Hid (Po.settle f (List.replicate n false) (C.flatten ++ M)=Po.settle f H M):=Lib.hid (by
       rw [Po.xe,Mg.out];rfl)
      have Mh:=Lib.hid (H2.out.then gQ.out);have zC:Hid (∀ x∈U,x∉S):=Lib.hid (fun x hx h=>by have:=L6.out x (HU.out x hx);have:=HS.out x h;omega);have aa8:=HM.out;clear F8 eN kP Mf FZ
      go_wp2_with fail
      refine (LZ _ b _ _ f C [] H S _ M U Vl.out FY.out hH Mh.out zC.out).mono ?_
      rintro e w5 ⟨rfl,k5,p5⟩
      obtain ⟨r,hr⟩:∃ r,Po.settle f H M=r:=⟨_,rfl⟩
      have xg:=Lib.hid hr;rw [hr] at p5 ⊢;obtain ⟨H5,ok⟩:=r;dsimp only at p5 ⊢;have K5:Hid (aq [] w w5):=Lib.hid (gQ.out.trans k5 (fun x hx=>.inr (HS.out x hx)));have F0:=Lib.hid (Mh.out.aY k5 zC.out)
      cases ok with
      | false =>
       have zD:Hid (Po.of n m f C M=false):=Lib.hid (by rw [wR.out,xg.out]);clear k5 p5 hr
       go_wp2_with fail
       go_ret2
       exact ⟨K5.out,.inr ⟨zD.out,rfl⟩⟩
      | true =>
       obtain ⟨⟨v0,dr⟩,fr,Vk,pz⟩:=Pl.bh p5;have F6:=Lib.hid pz;clear k5 p5 hr pz
       go_wp2_with (at_builtin;go_must (refine Dw rO (IR.nil w5 3) F0.out (by rw [List.length_nil];omega) ?_))
       intro kG kF w7 U7 r7 k7 s7;have er:w7.cell? ⟨b,3,none⟩=some v0:=k7.cell dr (by simp);have ef:w7.frozen? ⟨b,3,none⟩=false:=(World.frozen?_of_block (a:=⟨b,3,none⟩) (k7.block b (block_lt_of_cell dr) (by simp))).trans fr;obtain ⟨F7,zF,zG,zH⟩:=F6.out w7 _ M U7 k7 (by simpa using r7) (fun x hx=>by have h:=s7 x hx;simpa using h);have Vn:=Lib.hid zF;have E6:=Lib.hid zG;have Vo:=Lib.hid zH;clear r7 k7 s7 zF zG zH
       go_wp2_with fail
       go_ret2
       refine ⟨K5.out.trans E6.out (fun x hx=>.inr (HS.out x hx)),.inl ⟨by rw [wR.out,xg.out],b,F7,H5,rfl,Vn.out,fun x hx=>?_,by rw [show (n:Int).toNat=n from rfl,Vm.out,xg.out]⟩⟩;rcases Vo.out x hx with h | h
       ·exact HS.out x h
       ·have:=K5.out.size;omega
namespace Po
theorem nC {f:Int} {H:List Bool} {x:Int}:live f H x=true↔0≤x∧x < f∧H.getD x.toNat false=false:=by
 simp [live,and_assoc]
theorem Mi (f:Int):∀ (L:List Int) (H:List Bool),f≤H.length→((settle f H L).2=true↔(∀ x∈L,0≤x∧x < f)∧L.Nodup∧∀ x∈L,H.getD x.toNat false=false)
 | [],H,_=>by simp [settle]
 | x :: r,H,hf=>by
  rw [xb]
  by_cases h:live f H x=true
  ·rw [if_pos h,Mi f r _ (by simpa using hf)];obtain ⟨h1,h2,h3⟩:=nC.1 h;have hx:x.toNat < H.length:=by omega
   constructor
   ·rintro ⟨a,b,c⟩
    refine ⟨fun y hy=>?_,List.nodup_cons.2 ⟨fun hm=>?_,b⟩,fun y hy=>?_⟩
    ·rcases List.mem_cons.1 hy with rfl | hy
     ·exact ⟨h1,h2⟩
     ·exact a y hy
    ·have:=c x hm;rw [mD _ _ _ _ _ hx,if_pos rfl] at this
     cases this
    ·rcases List.mem_cons.1 hy with rfl | hy
     ·exact h3
     ·have:=c y hy;rw [mD _ _ _ _ _ hx] at this
      by_cases e:x.toNat=y.toNat
      ·rw [if_pos e] at this;cases this
      ·rwa [if_neg e] at this
   ·rintro ⟨a,b,c⟩
    obtain ⟨b1,b2⟩:=List.nodup_cons.1 b;refine ⟨fun y hy=>a y (by simp [hy]),b2,fun y hy=>?_⟩;have mq:x≠y:=fun e=>b1 (e ▸ hy)
    have SI:=(a y (by simp [hy])).1;rw [mD _ _ _ _ _ hx,aB];exact c y (by simp [hy])
  ·rw [if_neg h];simp only [Bool.false_eq_true,false_iff]
   rintro ⟨a,b,c⟩
   exact h (nC.2 ⟨(a x (by simp)).1,(a x (by simp)).2,c x (by simp)⟩)
end Po
end Go.Proofs.YtofnbflkhgammaaGreat
