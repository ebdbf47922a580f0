/-
  What the laws need, part S8.
  Conditions: none.
-/
import Derived.Test.YtgjpdogjekmemaaGreatS6
import Derived.Test.YtgjpdogjekmemaaGreatS7
import Derived.Laws.Pointers
set_option linter.unusedVariables false
set_option linter.unusedSimpArgs false
set_option linter.unnecessarySimpa false
set_option maxHeartbeats 2000000
namespace Go.Proofs.YtgjpdogjekmemaaGreat
open Go.RowKit
theorem Mo (w:World) (size cF most:Int) :
  Calls Tryz.prog 57 #[.int .i64 size,.int .i64 cF,.int .i64 most] w fun e w'=>e=.returned (.bool (Po.fits size cF most))∧w=w':=by
 have Mp:size < 0∨(0≤size∧64 < size)∨(0≤size∧size≤64∧cF < 0)∨(0≤size∧size≤64∧0≤cF∧8 < cF)∨(0≤size∧size≤64∧0≤cF∧cF≤8∧most < 1)∨(0≤size∧size≤64∧0≤cF∧cF≤8∧1≤most∧16 < most)∨(0≤size∧size≤64∧0≤cF∧cF≤8∧1≤most∧most≤16):=by omega
 obtain ⟨c,hc⟩:∃ c,c=Po.fits size cF most:=⟨_,rfl⟩
 have HC:=Lib.hid hc;rw [← hc];clear hc;rcases Mp with h1 | ⟨h1,h2⟩ | ⟨h1,h2,h3⟩ | ⟨h1,h2,h3,h4⟩ | ⟨h1,h2,h3,h4,h5⟩ | ⟨h1,h2,h3,h4,h5,h6⟩ | ⟨h1,h2,h3,h4,h5,h6⟩
 all_goals go_enter Tryz.func57,Tryz.ntmps57
 all_goals go_wp2_with fail
 all_goals go_ret
 all_goals exact ⟨dG (by rw [HC.out,Bool.eq_iff_iff];simp [Po.fits];omega),rfl⟩
open Go.RowKit
namespace Fl
open Sx
set_option maxRecDepth 100000
theorem Mq (s g c:Int):Po.fits s g c=Sx.can s g c:=by
 rfl
theorem Mr (s g c:Int):Pure Tryz.prog 57 [.c (nI s),.c (nI g),.c (nI c)] (.c (bI (Sx.can s g c))) :=
 aq.plain fun ok e xs hd=>by
  obtain rfl:=hd.v3;refine (Mo e s g c).mono ?_
  rintro en w' ⟨rfl,rfl⟩
  rw [Mq];exact ⟨_,rfl,aE.refl _ _,RD.v rfl⟩
def EH (sn:Nat) (cn:Int) (d:List Int) (g su k:A):List A:=[nI sn,nI cn,nI 0,g,.v (.slice none 0 0),su,k,.v (.slice none 0 0),nI 0,iu d,nI 0,.v (.slice none 0 0)]
theorem Ms (p:List (List Pn.Op)) (sn cn:Int) (d:List Int) :
  Pure Tryz.prog 19 [.c (kN p),.agg [nI sn,nI cn],.c (iu d)] (.aY [.agg (az (Sx.new p sn cn d).1),.c (nI (Sx.new p sn cn d).2)]):=by
 have CR:=Ls p;have CC:=Mr sn p.length cn
 cases hr:Pn.right p with
 | false =>
  have e1:Sx.new p sn cn d=(oX,3):=by unfold Sx.new;rw [if_pos hr]
  rw [e1];rw [hr] at CR;refine aq.intro Tryz.func19 rfl rfl rfl (fun ok e=>?_)
  repeat (first | (refine K.store ?_;refine JO.ld (Ld.aT rfl rfl rfl (by exact rfl) (by exact rfl)) rfl (fun _=>?_)) | refine av ?_ | intro _)
  (exact J.ret Tryz.func19 rfl (.cons (.cell 0 rfl rfl rfl) (.cons (.tmp rfl) .nil)) () (by (exact .aY (by repeat (first | exact .nil | refine .cons (.agg (by repeat (first | exact .nil | refine .cons .refl ?_ | refine .cons .nil ?_))) ?_ | refine .cons .refl ?_)))) [] .nil rfl rfl)
 | true =>
  rw [hr] at CR
  cases hc:Sx.can sn p.length cn with
  | false =>
   have e1:Sx.new p sn cn d=(oX,1):=by unfold Sx.new;rw [if_neg (by simp [hr]),if_pos hc]
   rw [e1];rw [hc] at CC;refine aq.intro Tryz.func19 rfl rfl rfl (fun ok e=>?_)
   repeat (first | (refine K.store ?_;refine JO.ld (Ld.aT rfl rfl rfl (by exact rfl) (by exact rfl)) rfl (fun _=>?_)) | refine av ?_ | intro _)
   (exact J.ret Tryz.func19 rfl (.cons (.cell 0 rfl rfl rfl) (.cons (.tmp rfl) .nil)) () (by (exact .aY (by repeat (first | exact .nil | refine .cons (.agg (by repeat (first | exact .nil | refine .cons .refl ?_ | refine .cons .nil ?_))) ?_ | refine .cons .refl ?_)))) [] .nil rfl rfl)
  | true =>
   have e1:Sx.new p sn cn d=(Sx.start p sn cn d,0):=by unfold Sx.new;rw [if_neg (by simp [hr]),if_neg (by simp [hc])]
   rw [e1];rw [hc] at CC;obtain ⟨r1,r2,r3⟩:=Al hr;unfold Sx.can at hc;simp only [decide_eq_true_eq] at hc;obtain ⟨sm,rfl⟩:∃ sm:Nat,sn=sm:=⟨sn.toNat,by omega⟩
   refine aq.intro Tryz.func19 rfl rfl rfl (fun ok e=>?_)
   repeat (first | (refine K.store ?_;refine JO.ld (Ld.aT rfl rfl rfl (by exact rfl) (by exact rfl)) rfl (fun _=>?_)) | refine av ?_ | intro _)
   rename_i b4 b6 b8 _;refine J.gB 55 25 ?_;refine J.gB 28 1 ?_;refine J.loop (ι:={ q:Nat × Value × Value // q.1≤p.length }) (fun q=>[(30,.c (nI q.1.1)),(29,.c (nI p.length)),(28,.c (kN p)),(8,.c (.v (.pointer (some ⟨b8,0,none⟩)))),(6,.c (.v (.pointer (some ⟨b6,0,none⟩)))),(4,.c (.v (.pointer (some ⟨b4,0,none⟩))))]) (fun q=>.row q.1.2.1 28 1 (((p.take q.1.1).map fun _=>([]:List Int)).map fun l=>[ints l]) :: .row q.1.2.2 55 25 (((p.take q.1.1).map (clean · 0)).map eG) :: .box b8 36 (EH sm cn d (.v q.1.2.2) (.v (.slice none 0 0)) (.v q.1.2.1)) :: .box b6 36 kK :: .box b4 24 [nI sm,nI cn] :: []) (fun q=>p.length - q.1.1) ⟨(0,.slice none 0 0,.slice none 0 0),Nat.zero_le _⟩ (fun X h=>h.aQ ⟨rfl,rfl,rfl,rfl,rfl,rfl,trivial⟩) (fun q ih=>?_);obtain ⟨⟨k,vc,vg⟩,hk⟩:=q;simp only at hk ih ⊢
   by_cases aN:k < p.length
   ·have t1:(decide ((k:Int) < (p.length:Int)))=true:=by simpa using aN
    obtain ⟨ops,ho⟩:∃ ops,p[k]?=some ops:=⟨_,List.getElem?_eq_getElem aN⟩
    have J1:(p.map fun ops=>[A.r 6 (ops.map cC)])[((k:Int)).toNat]?=some [A.r 6 (ops.map cC)]:=by rw [Int.toNat_natCast,List.getElem?_map,ho];rfl
    have jr:(p.take k).length=k:=by rw [List.length_take];omega
    repeat (refine gn ?_)
    refine J.draw (by kernel_rfl) rfl ?_;refine JW.gw [1] (some 7) ?_;refine tk 0 ?_;refine tk 1 ?_;refine tk 2 ?_;refine cI 3 (Am ops 0) ?_;refine jl 4 rfl rfl rfl rfl (Ld.iZ (qb rfl) rfl rfl rfl rfl rfl) .none (fun _=>?_);refine jl 5 rfl rfl rfl rfl (Ld.bH (qb rfl) rfl rfl .read (by (simp;omega))) (.oU rfl) (fun _=>?_);refine jk 6 rfl rfl rfl rfl (Qt.fieldAddr rfl rfl) ?_;refine jt 7 rfl rfl (Ld.cr rfl rfl (by exact rfl)) (fun _=>?_);refine bz ?_
    repeat (first | (refine K.store ?_;refine JO.ld (Ld.cr rfl rfl (by exact rfl)) rfl (fun _=>?_)) | (refine K.lit ?_;first | (refine JO.ld (Ld.Hw (qb rfl)) rfl (fun _=>?_)) | (refine JO.ld (Ld.iZ (qb rfl) rfl rfl rfl rfl rfl) rfl (fun _=>?_))) | (refine K.bi ?_;refine JO.ld (Ld.bH (qb rfl) rfl rfl .read (by (simp;omega))) rfl (fun _=>?_)) | refine gn ?_)
    rename_i uh _ _ _ uj _;refine J.dj ?_ ((ih ⟨(k + 1,uj,uh),by simp only;omega⟩ (by simp only;omega)).aQ ⟨rfl,rfl,rfl,rfl,rfl,rfl,trivial⟩);rw [List.take_add_one,ho,List.map_append,List.map_append,List.map_append,List.map_append];rfl
   ·have t1:(decide ((k:Int) < (p.length:Int)))=false:=by simpa using aN
    obtain rfl:k=p.length:=by omega
    rw [List.take_of_length_le (Nat.le_refl _)];refine J.jR 0 2 6 rfl rfl rfl ?_;refine J.jR 0 1 3 rfl rfl rfl ?_
    repeat (refine gn ?_)
    refine J.gB 60 7 ?_;refine J.loop (ι:={ q:Nat × Value // q.1≤sm }) (fun q=>[(11,.c (nI q.1.1)),(8,.c (.v (.pointer (some ⟨b8,0,none⟩)))),(6,.c (.v (.pointer (some ⟨b6,0,none⟩)))),(4,.c (.v (.pointer (some ⟨b4,0,none⟩))))]) (fun q=>.row q.1.2 60 7 ((List.replicate q.1.1 dX).map eS) :: .box b8 36 (EH sm cn d (.r 25 ((p.map (clean · 0)).map eG)) (.v q.1.2) (.r 1 ((p.map fun _=>([]:List Int)).map fun l=>[ints l]))) :: .box b6 36 kK :: .box b4 24 [nI sm,nI cn] :: []) (fun q=>sm - q.1.1) ⟨(0,.slice none 0 0),Nat.zero_le _⟩ (fun X h=>h.aQ ⟨rfl,rfl,rfl,rfl,trivial⟩) (fun q ih=>?_);obtain ⟨⟨j,vs⟩,hj⟩:=q;simp only at hj ih ⊢
    by_cases dH:j < sm
    ·have t1:(decide ((j:Int) < (sm:Int)))=true:=by simpa using dH
     repeat (first | (refine K.store ?_;refine JO.ld (Ld.cr rfl rfl (by exact rfl)) rfl (fun _=>?_)) | (refine K.lit ?_;refine JO.ld (Ld.iZ (qb rfl) rfl rfl rfl rfl rfl) rfl (fun _=>?_)) | (refine K.bi ?_;refine JO.ld (Ld.bH (qb rfl) rfl rfl .read (by (simp;omega))) rfl (fun _=>?_)) | refine gn ?_)
     rename_i Mt _;refine J.dj ?_ ((ih ⟨(j + 1,Mt),by simp only;omega⟩ (by simp only;omega)).aQ ⟨rfl,rfl,rfl,rfl,trivial⟩);rw [List.replicate_succ',List.map_append];rfl
    ·have t1:(decide ((j:Int) < (sm:Int)))=false:=by simpa using dH
     obtain rfl:j=sm:=by omega
     refine J.jR 0 1 5 rfl rfl rfl ?_
     repeat (first | (refine K.store ?_;refine JO.ld (Ld.aT rfl rfl rfl (by exact rfl) (by exact rfl)) rfl (fun _=>?_)) | refine gn ?_)
     (exact J.ret Tryz.func19 rfl (.cons (.cell 1 rfl rfl rfl) (.cons (.tmp rfl) .nil)) () (by (exact .aY (by repeat (first | exact .nil | refine .cons (.agg (by repeat (first | exact .nil | refine .cons .refl ?_ | refine .cons .nil ?_))) ?_ | refine .cons .refl ?_)))) [] .nil rfl rfl)
end Fl
open Go.RowKit
namespace Fl
open Sx
set_option maxRecDepth 100000
section
variable {P:Program} {c:Cx} {f:Fm} {L:List ak} {T X:TypeId} {ps:String} {af:Array Edge} {gd:Option (Nat × Bool)} {t:Nat}
theorem Qt.EI {x y:Operand} {Y:Nat} {p:Option Addr} (hu:P.underlying X=some (.pointer (P.pointee X))) (h:aP f x=some (.c (.v (.pointer p)))) (hy:aP f y=some (.c (.v (.pointer none)))):Qt P c [] ⟨t,.binOp .eql X x y Y,T,ps,af,gd⟩ f L (.c (.v (.bool p.isNone))):=⟨fun a w s=>by
 have rx:=s.val h;have ry:=s.val hy;refine ⟨.bool p.isNone,by unfold RD RA;exact ⟨rfl,rfl⟩,fun w' k=>?_⟩;simp [execOp,rx,ry,eqGuard_at_pointer,Sem.run_bind,run_eql_pointer_nil _ _ _ hu]⟩
theorem St.Mu {d d':D} {a:Act} {w:World} (s:St c ((t,d) :: f) L a w) (h:∀ (ok:Nat→Prop) (w:World) (x:Value),RD ok w d x→RD ok w d' x):St c ((t,d') :: f) L a w :=
 ⟨s.kp,s.size,s.iS,s.res,s.ez,s.ap,fun u e hu=>by
  by_cases e1:t=u
  ·subst e1;rw [oR] at hu;cases hu;exact h _ _ _ (s.fr t d (oR _ _ _))
  ·rw [rj e1] at hu;exact s.fr u e (by rw [rj e1];exact hu)⟩
theorem iW.EJ {ok:Nat→Prop} {w:World}:∀ {xs ys:List A},iW xs ys→∀ {vs:List Value},RC ok w xs vs→RC ok w ys vs
 | _,_,.nil,vs,r=>r
 | _,_,.refl,vs,r=>r
 | _,_,.cons h k,vs,r=>by
  unfold RC at r;obtain ⟨x,zs,rfl,r1,r2⟩:=r;exact RC.cons (h.rep r1) (iW.EJ k r2)
theorem Ld.Mv {e sz:Nat} {x:Operand} {d:D} {cs ds:List A} {zs:List Value} [i:dQ P X e sz] [z:aR P e zs] (ht:t < c.N) (h:aP f x=some d) (hc:gi d=some cs) (hn:cs.length=sz) (h0:Nat.ble 1 sz=true) (hs:Nat.ble sz 1000=true) (hle:iW cs ds) :
  Ld P c ⟨some t,.buildSlice X 1 #[(0,x)],T,ps,af,gd⟩ f L [] (fun _:Unit=>(t,.c (.r sz [ds])) :: f) (fun _=>L):=⟨fun a w s K Q hK =>
 (Ld.iZ (P:=P) (c:=c) (T:=T) (ps:=ps) (af:=af) (gd:=gd) (f:=f) (L:=L) (e:=e) (sz:=sz) (zs:=zs) (X:=X) (t:=t) ht h hc hn h0 hs).go a w s K Q fun b u w' k' s' hf=>hK () u w' k' (s'.Mu fun ok w x r=>by
  unfold RD at r ⊢;unfold RA at r ⊢;obtain ⟨ao,cap,rfl,h1,h2,h3⟩:=r;refine ⟨ao,cap,rfl,h1,h2,?_⟩;rcases h3 with h3 | ⟨g,off,rfl,ho,hg,hl⟩
  ·cases h3
  ·refine .inr ⟨g,off,rfl,ho,hg,?_⟩;unfold RL at hl ⊢;obtain ⟨⟨vs,v1,v2,v3⟩,lZ⟩:=hl;refine ⟨⟨vs,v1,v2,hle.EJ v3⟩,?_⟩;unfold RL at lZ ⊢
   trivial) hf⟩
end
theorem Mw {p:List (List Pn.Op)} {sn cn:Nat} {d:List Int} (hr:Pn.right p=true) (hs:sn≤64) (hd:d.length≤100000):Fw (Sx.start p sn cn d):=by
 obtain ⟨r1,r2,r3⟩:=Al hr;refine ⟨by simpa [Sx.start] using r2,by simp [Sx.start],by simpa [Sx.start] using hs,by simp [Sx.start],hd,by simp [Sx.start],fun l hl=>?_,by simp [Sx.start],by simp [Sx.start],by simp [Sx.start],fun x hx=>?_,fun x hx=>?_⟩
 ·simp [Sx.start] at hl;obtain ⟨_,rfl⟩:=hl;simp
 ·simp only [Sx.start,List.mem_map] at hx;obtain ⟨ops,ho,rfl⟩:=hx;have:=r3 ops ho;exact ⟨by simp [clean];omega,fun o kO=>by have:=this.2 o kO;omega⟩
 ·simp only [Sx.start,List.mem_map] at hx;obtain ⟨ops,ho,rfl⟩:=hx;simp [clean]
theorem EK:Tryz.prog.underlying 49=some (.pointer (Tryz.prog.pointee 49)):=by kernel_rfl
theorem EL:Pure Tryz.prog 13 [] (.c (bI true)):=by
 have hr:Pn.right [[]]=true:=by decide
 have CN:=LA [[]] 0 1 [] hr (by omega) (by omega) (by omega) (by simp);refine aq.intro Tryz.func13 rfl rfl rfl (fun ok e=>?_);have FW:Fw (Sx.start [[]] ((0:Nat):Int) ((1:Nat):Int) []):=Mw hr (by omega) (by simp)
 repeat (first | (refine K.binOp ?_;refine jq rfl rfl rfl (Qt.EI EK rfl rfl) ?_) | (refine K.call ?_;refine JO.ld (Ld.gy CN (qb rfl) rfl (.cons .refl (.cons .refl (.cons (.c .nil) .nil)))) rfl ?_;intro x) | (refine K.lit ?_;refine JO.ld (Ld.Mv (ds:=[.r 6 []]) (qb rfl) rfl rfl rfl rfl rfl (.cons .nil .nil)) rfl (fun _=>?_)) | refine gn ?_)
 rename_i x;have CS:=Da x.1 x.2 _ FW
 repeat (first | (refine K.store ?_;refine JO.ld (Ld.aT rfl rfl rfl (by exact rfl) (by exact rfl)) rfl (fun _=>?_)) | (refine K.indexAddr ?_;refine jx rfl rfl rfl rfl (by omega) (rfl) ?_) | (refine K.call ?_;refine JO.ld (Ld.gy (CS) (qb rfl) rfl (br.cons .refl .nil)) rfl ?_;intro _) | refine av ?_ | intro _)
 exact aA Tryz.func13
end Fl
open Go.RowKit Go.ChangeShapes Go.WideShapes Go.Deep
namespace Fl
open Sx
theorem Mx:Si o9 jV:=fun ok w cs c U r _=>by
 obtain ⟨rfl,_⟩:=r;exact RC.cons (RA.w rfl) (RC.cons (RA.w rfl) (RC.cons (RA.w rfl) RC.nil))
theorem My:Si cC sF:=fun ok w cs o U r hS=>by
 obtain ⟨vc,rfl,g⟩:=r;exact RC.cons (RA.w rfl) (RC.cons (RA.w rfl) (RC.cons (RA.w rfl) (RC.cons (RA.w rfl) (RC.cons (Mx.ra g hS) (RC.cons (RA.w rfl) RC.nil)))))
theorem Mz:Si (fun l:List Pn.Op=>[A.r 6 (l.map cC)]) oL:=My.row
theorem MA:Si (fun n:Int=>[A.v (.int .u16 n)]) (kB .u16):=fun ok w cs n U r _=>by
 obtain ⟨rfl,_⟩:=r;exact RC.cons (RA.w rfl) RC.nil
theorem MB:Si (fun n:Int=>[nI n]) (kB .i64):=fun ok w cs n U r _=>by
 obtain ⟨rfl,_⟩:=r;exact RC.cons (RA.w rfl) RC.nil
structure vb where
 p:List (List Pn.Op)
 sn:Int
 cn:Int
 d:List Int
def sI (w:World) (cs:List Value) (a:vb) (U:List Nat):Prop :=
 ∃ vp vd,cs=[vp,.int .i64 a.sn,.int .i64 a.cn,vd]∧GV oL 1 w vp a.p U∧GV (kB .u16) 1 w vd a.d U
theorem MC:Kept sI :=
 ⟨fun h k hn=>by obtain ⟨vp,vd,h1,h2,h3⟩:=h;exact ⟨vp,vd,h1,h2.gf Ac k hn,h3.gf (Ba _) k hn⟩,fun h=>by obtain ⟨vp,vd,h1,h2,h3⟩:=h;exact h2.lt⟩
def qR (p:List (List Pn.Op)) (sn cn:Int) (d:List Int):List A:=[kN p,nI sn,nI cn,iu d]
theorem MD {ok:Nat→Prop} {w:World} {cs:List Value} {a:vb} {U:List Nat} (h:sI w cs a U) (hS:∀ x∈U,ok x):RC ok w (qR a.p a.sn a.cn a.d) cs:=by
 obtain ⟨vp,vd,rfl,h2,h3⟩:=h;exact RC.cons (Mz.ra h2 hS) (RC.cons (RA.w rfl) (RC.cons (RA.w rfl) (RC.cons (MA.ra h3 hS) RC.nil)))
theorem Ao:eU Tryz.prog 3 (kB .i64) 1:=vL Tryz.underlying3 (by kernel_rfl)
theorem ME:eU Tryz.prog 109 (kB .u16) 1:=vL Tryz.underlying109 (by kernel_rfl)
theorem MF:eU Tryz.prog 25 (mT (kB .u16) 1) 1:=tf Tryz.underlying25 (by kernel_rfl) ME
def EM (w:World) (cs:List Value) (a:Int × Int) (U:List Nat):Prop:=cs=[.int .i64 a.1,.int .i64 a.2]∧U=[]
theorem MG:Kept EM:=⟨fun h _ _=>h,fun h x hx=>by obtain ⟨_,rfl⟩:=h;simp at hx⟩
theorem MH:eU Tryz.prog 24 EM 2:=by
 refine ⟨by omega,MG,by kernel_rfl,?_⟩;intro H enc W fuel cs x h;obtain ⟨xs,n,_,_,hl,iR,hf⟩:=DataW.trod_struct Tryz.underlying24 h;have lZ:cs.length=2:=hl.trans (by kernel_rfl);obtain ⟨v0,v1,rfl⟩:=Gw lZ;have nW:xs.length=2:=iR.trans (by kernel_rfl);have hs:∀ i,i < 2→(xs[i]?).isSome=true:=fun i hi=>by simp [nW,hi]
 obtain ⟨o0,_,a0,U0,e0,_,_⟩:=Ao.field rfl rfl (hs 0 (by omega)) (hf 0 _ rfl);obtain ⟨o1,_,a1,U1,e1,_,_⟩:=Ao.field rfl rfl (hs 1 (by omega)) (hf 1 _ rfl);simp at e0 e1 o0 o1;subst e0 e1;exact ⟨rfl,(by intro y hy;simp at hy;rcases hy with rfl | rfl <;> rfl),(a0,a1),[],rfl,rfl⟩
theorem MI:eU Tryz.prog 27 sI 4:=by
 refine ⟨by omega,MC,by kernel_rfl,?_⟩;intro H enc W fuel cs x h;obtain ⟨xs,n,_,_,hl,iR,hf⟩:=DataW.trod_struct Tryz.underlying27 h;have MJ:cs.length=4:=hl.trans (by kernel_rfl);obtain ⟨v0,v1,v2,v3,rfl⟩:=Gz MJ;have tV:xs.length=3:=iR.trans (by kernel_rfl);have hs:∀ i,i < 3→(xs[i]?).isSome=true:=fun i hi=>by simp [tV,hi]
 obtain ⟨o0,_,a0,U0,vp,e0,h0⟩:=KT.field rfl rfl (hs 0 (by omega)) (hf 0 _ rfl);obtain ⟨o1,_,a1,U1,e1,_⟩:=MH.field rfl rfl (hs 1 (by omega)) (hf 1 _ rfl);obtain ⟨o2,_,a2,U2,vd,e2,h2⟩:=MF.field rfl rfl (hs 2 (by omega)) (hf 2 _ rfl);simp at e0 e1 e2 o0 o1 o2;obtain ⟨MK,ML⟩:=e1;subst e0 MK ML e2;have fo:∀ x∈U0 ++ U2,x < W.heap.size:=fun x hx=>by
  rcases List.mem_append.1 hx with h | h
  ·exact h0.lt x h
  ·exact h2.lt x h
 exact ⟨rfl,(by intro y hy;simp at hy;rcases hy with rfl | rfl | rfl | rfl <;> first | rfl | assumption),⟨a0,a1.1,a1.2,a2⟩,U0 ++ U2,_,_,rfl,h0.mono (fun x hx=>by simp [hx]) fo,h2.mono (fun x hx=>by simp [hx]) fo⟩
end Fl
open Go.RowKit
namespace Fl
open Sx
set_option maxRecDepth 100000
theorem tR.app {l1 l2:List (Value × Nat × List Int)} {w:World} {S1 S2:List Nat} (h1:tR l1 w S1) (h2:tR l2 w S2) (ha:∀ x∈S1,x∉S2):tR (l1 ++ l2) w (S1 ++ S2):=by
 obtain ⟨A,a1,rfl,a3,a4⟩:=h1;obtain ⟨B,b1,rfl,b3,b4⟩:=h2;refine ⟨A ++ B,by simp [a1,b1],by simp,List.pairwise_append.2 ⟨a3,b3,fun X hX Y hY x hx hy=>ha x (List.mem_flatten.2 ⟨X,hX,hx⟩) (List.mem_flatten.2 ⟨Y,hY,hy⟩)⟩,fun i x Si hi hs=>?_⟩
 by_cases c:i < l1.length
 ·rw [List.getElem?_append_left c] at hi;rw [List.getElem?_append_left (by omega)] at hs;exact a4 i x Si hi hs
 ·rw [List.getElem?_append_right (by omega)] at hi;rw [List.getElem?_append_right (by omega),a1] at hs;exact b4 _ x Si hi hs
section
variable {P:Program} {c:Cx} {k:List Item} {f:Fm} {L:List ak}
theorem J.rings {l1 l2:List (Value × Nat × List Int)} {S1 S2:List Nat} (h:J P c k f (aL (tR (l1 ++ l2)) (S1 ++ S2) :: L)):J P c k f (aL (tR l1) S1 :: aL (tR l2) S2 :: L):=⟨fun a w s=>by
 have hf:aS (aL (tR (l1 ++ l2)) (S1 ++ S2) :: L)=aS (aL (tR l1) S1 :: aL (tR l2) S2 :: L):=by simp [aS,aL,ak.bR]
 have ho:aZ c (aL (tR (l1 ++ l2)) (S1 ++ S2) :: L)=aZ c (aL (tR l1) S1 :: aL (tR l2) S2 :: L):=by funext x;unfold aZ;rw [hf]
 have ap:=List.pairwise_cons.1 s.ap;have EN:=List.pairwise_cons.1 ap.2;have q1:=(aL.holds tR.ok).1 (s.res _ (List.mem_cons_self ..));have q2:=(aL.holds tR.ok).1 (s.res _ (List.mem_cons_of_mem _ (List.mem_cons_self ..)));have hd:∀ x∈S1,x∉S2:=fun x hx hy=>ap.1 _ (List.mem_cons_self ..) x (by simpa [aL,ak.bR] using hx) (by simpa [aL,ak.bR] using hy)
 refine h.go a w ⟨s.kp,s.size,s.iS,fun q hq=>?_,fun x hx=>s.ez x (hf ▸ hx),List.pairwise_cons.2 ⟨fun q hq x hx hy=>?_,EN.2⟩,fun t d ht=>by rw [ho];exact s.fr t d ht⟩
 ·rw [ho];rcases List.mem_cons.1 hq with rfl | hq
  ·exact (aL.holds tR.ok).2 (q1.app q2 hd)
  ·exact s.res q (List.mem_cons_of_mem _ (List.mem_cons_of_mem _ hq))
 ·rcases List.mem_append.1 (show x∈S1 ++ S2 by simpa [aL,ak.bR] using hx) with hx | hx
  ·exact ap.1 q (List.mem_cons_of_mem _ hq) x (by simpa [aL,ak.bR] using hx) hy
  ·exact EN.1 q hq x (by simpa [aL,ak.bR] using hx) hy⟩
end
end Fl
end Go.Proofs.YtgjpdogjekmemaaGreat
