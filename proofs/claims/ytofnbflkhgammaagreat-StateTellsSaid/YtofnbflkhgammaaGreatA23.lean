/-
  What the laws need, part A23.
  Conditions: none.
-/
import Derived.Test.YtofnbflkhgammaaGreatA21
import Derived.Test.YtofnbflkhgammaaGreatA22
import Derived.Laws.Pointers
set_option linter.unusedVariables false
set_option linter.unusedSimpArgs false
set_option linter.unnecessarySimpa false
set_option maxHeartbeats 2000000
namespace Go.Proofs.YtofnbflkhgammaaGreat
open Go.RowKit
namespace Fl
open Sx
set_option maxRecDepth 100000
theorem Wg (s g c:Int):Po.fits s g c=Sx.can s g c:=by
 rfl
theorem Wh (s g c:Int):Pure Tryz.prog 123 [.c (nI s),.c (nI g),.c (nI c)] (.c (bI (Sx.can s g c))) :=
 aq.plain fun ok e xs hd=>by
  obtain rfl:=hd.v3;refine (Ue e s g c).mono ?_
  rintro en w' ⟨rfl,rfl⟩
  rw [Wg];exact ⟨_,rfl,aj.refl _ _,RD.v rfl⟩
def Mf (sn:Nat) (cn:Int) (d:List Int) (g su k:A):List A:=[nI sn,nI cn,nI 0,g,.v (.slice none 0 0),su,k,.v (.slice none 0 0),nI 0,kE d,nI 0,.v (.slice none 0 0)]
theorem Wi (p:List (List Pn.Op)) (sn cn:Int) (d:List Int) :
  Pure Tryz.prog 49 [.c (mM p),.agg [nI sn,nI cn],.c (kE d)] (.aV [.agg (ay (Sx.new p sn cn d).1),.c (nI (Sx.new p sn cn d).2)]):=by
 have CR:=VD p;have CC:=Wh sn p.length cn
 cases hr:Pn.right p with
 | false =>
  have e1:Sx.new p sn cn d=(sj,3):=by unfold Sx.new;rw [if_pos hr]
  rw [e1];rw [hr] at CR;refine aq.intro Tryz.func49 rfl rfl rfl (fun ok e=>?_)
  repeat (first | (refine K.store ?_;refine JO.ld (Ld.aP rfl rfl rfl (by exact rfl) (by exact rfl)) rfl (fun _=>?_)) | refine au ?_ | intro _)
  (exact J.ret Tryz.func49 rfl (.cons (.cell 0 rfl rfl rfl) (.cons (.tmp rfl) .nil)) () (by (exact .aV (by repeat (first | exact .nil | refine .cons (.agg (by repeat (first | exact .nil | refine .cons .refl ?_ | refine .cons .nil ?_))) ?_ | refine .cons .refl ?_)))) [] .nil rfl rfl)
 | true =>
  rw [hr] at CR
  cases hc:Sx.can sn p.length cn with
  | false =>
   have e1:Sx.new p sn cn d=(sj,1):=by unfold Sx.new;rw [if_neg (by simp [hr]),if_pos hc]
   rw [e1];rw [hc] at CC;refine aq.intro Tryz.func49 rfl rfl rfl (fun ok e=>?_)
   repeat (first | (refine K.store ?_;refine JO.ld (Ld.aP rfl rfl rfl (by exact rfl) (by exact rfl)) rfl (fun _=>?_)) | refine au ?_ | intro _)
   (exact J.ret Tryz.func49 rfl (.cons (.cell 0 rfl rfl rfl) (.cons (.tmp rfl) .nil)) () (by (exact .aV (by repeat (first | exact .nil | refine .cons (.agg (by repeat (first | exact .nil | refine .cons .refl ?_ | refine .cons .nil ?_))) ?_ | refine .cons .refl ?_)))) [] .nil rfl rfl)
  | true =>
   have e1:Sx.new p sn cn d=(Sx.start p sn cn d,0):=by unfold Sx.new;rw [if_neg (by simp [hr]),if_neg (by simp [hc])]
   rw [e1];rw [hc] at CC;obtain ⟨r1,r2,r3⟩:=FF hr;unfold Sx.can at hc;simp only [decide_eq_true_eq] at hc;obtain ⟨sm,rfl⟩:∃ sm:Nat,sn=sm:=⟨sn.toNat,by omega⟩
   refine aq.intro Tryz.func49 rfl rfl rfl (fun ok e=>?_)
   repeat (first | (refine K.store ?_;refine JO.ld (Ld.aP rfl rfl rfl (by exact rfl) (by exact rfl)) rfl (fun _=>?_)) | refine au ?_ | intro _)
   rename_i b4 b6 b8 _;refine J.jJ 47 25 ?_;refine J.jJ 28 1 ?_;refine J.loop (ι:={ q:Nat × Value × Value // q.1≤p.length }) (fun q=>[(30,.c (nI q.1.1)),(29,.c (nI p.length)),(28,.c (mM p)),(8,.c (.v (.pointer (some ⟨b8,0,none⟩)))),(6,.c (.v (.pointer (some ⟨b6,0,none⟩)))),(4,.c (.v (.pointer (some ⟨b4,0,none⟩))))]) (fun q=>.row q.1.2.1 28 1 (((p.take q.1.1).map fun _=>([]:List Int)).map fun l=>[ints l]) :: .row q.1.2.2 47 25 (((p.take q.1.1).map (clean · 0)).map eG) :: .box b8 36 (Mf sm cn d (.v q.1.2.2) (.v (.slice none 0 0)) (.v q.1.2.1)) :: .box b6 36 qO :: .box b4 24 [nI sm,nI cn] :: []) (fun q=>p.length - q.1.1) ⟨(0,.slice none 0 0,.slice none 0 0),Nat.zero_le _⟩ (fun X h=>h.aU ⟨rfl,rfl,rfl,rfl,rfl,rfl,trivial⟩) (fun q ih=>?_);obtain ⟨⟨k,vc,vg⟩,hk⟩:=q;simp only at hk ih ⊢
   by_cases aR:k < p.length
   ·have t1:(decide ((k:Int) < (p.length:Int)))=true:=by simpa using aR
    obtain ⟨ops,ho⟩:∃ ops,p[k]?=some ops:=⟨_,List.getElem?_eq_getElem aR⟩
    have J1:(p.map fun ops=>[A.r 6 (ops.map dO)])[((k:Int)).toNat]?=some [A.r 6 (ops.map dO)]:=by rw [Int.toNat_natCast,List.getElem?_map,ho];rfl
    have fR:(p.take k).length=k:=by rw [List.length_take];omega
    repeat (refine gn ?_)
    refine J.draw (by kernel_rfl) rfl ?_;refine JW.iR [1] (some 7) ?_;refine tk 0 ?_;refine tk 1 ?_;refine tk 2 ?_;refine cU 3 (FG ops 0) ?_;refine jl 4 rfl rfl rfl rfl (Ld.nt (qb rfl) rfl rfl rfl rfl rfl) .none (fun _=>?_);refine jl 5 rfl rfl rfl rfl (Ld.bY (qb rfl) rfl rfl .read (by (simp;omega))) (.tS rfl) (fun _=>?_);refine jk 6 rfl rfl rfl rfl (Qt.fieldAddr rfl rfl) ?_;refine jt 7 rfl rfl (Ld.cG rfl rfl (by exact rfl)) (fun _=>?_);refine bJ ?_
    repeat (first | (refine K.store ?_;refine JO.ld (Ld.cG rfl rfl (by exact rfl)) rfl (fun _=>?_)) | (refine K.lit ?_;first | (refine JO.ld (Ld.O8 (qb rfl)) rfl (fun _=>?_)) | (refine JO.ld (Ld.nt (qb rfl) rfl rfl rfl rfl rfl) rfl (fun _=>?_))) | (refine K.bi ?_;refine JO.ld (Ld.bY (qb rfl) rfl rfl .read (by (simp;omega))) rfl (fun _=>?_)) | refine gn ?_)
    rename_i ED _ _ _ EE _;refine J.dZ ?_ ((ih ⟨(k + 1,EE,ED),by simp only;omega⟩ (by simp only;omega)).aU ⟨rfl,rfl,rfl,rfl,rfl,rfl,trivial⟩);rw [List.take_add_one,ho,List.map_append,List.map_append,List.map_append,List.map_append];rfl
   ·have t1:(decide ((k:Int) < (p.length:Int)))=false:=by simpa using aR
    obtain rfl:k=p.length:=by omega
    rw [List.take_of_length_le (Nat.le_refl _)];refine J.mF 0 2 6 rfl rfl rfl ?_;refine J.mF 0 1 3 rfl rfl rfl ?_
    repeat (refine gn ?_)
    refine J.jJ 52 7 ?_;refine J.loop (ι:={ q:Nat × Value // q.1≤sm }) (fun q=>[(11,.c (nI q.1.1)),(8,.c (.v (.pointer (some ⟨b8,0,none⟩)))),(6,.c (.v (.pointer (some ⟨b6,0,none⟩)))),(4,.c (.v (.pointer (some ⟨b4,0,none⟩))))]) (fun q=>.row q.1.2 52 7 ((List.replicate q.1.1 eI).map eS) :: .box b8 36 (Mf sm cn d (.r 25 ((p.map (clean · 0)).map eG)) (.v q.1.2) (.r 1 ((p.map fun _=>([]:List Int)).map fun l=>[ints l]))) :: .box b6 36 qO :: .box b4 24 [nI sm,nI cn] :: []) (fun q=>sm - q.1.1) ⟨(0,.slice none 0 0),Nat.zero_le _⟩ (fun X h=>h.aU ⟨rfl,rfl,rfl,rfl,trivial⟩) (fun q ih=>?_);obtain ⟨⟨j,vs⟩,hj⟩:=q;simp only at hj ih ⊢
    by_cases eW:j < sm
    ·have t1:(decide ((j:Int) < (sm:Int)))=true:=by simpa using eW
     repeat (first | (refine K.store ?_;refine JO.ld (Ld.cG rfl rfl (by exact rfl)) rfl (fun _=>?_)) | (refine K.lit ?_;refine JO.ld (Ld.nt (qb rfl) rfl rfl rfl rfl rfl) rfl (fun _=>?_)) | (refine K.bi ?_;refine JO.ld (Ld.bY (qb rfl) rfl rfl .read (by (simp;omega))) rfl (fun _=>?_)) | refine gn ?_)
     rename_i Mg _;refine J.dZ ?_ ((ih ⟨(j + 1,Mg),by simp only;omega⟩ (by simp only;omega)).aU ⟨rfl,rfl,rfl,rfl,trivial⟩);rw [List.replicate_succ',List.map_append];rfl
    ·have t1:(decide ((j:Int) < (sm:Int)))=false:=by simpa using eW
     obtain rfl:j=sm:=by omega
     refine J.mF 0 1 5 rfl rfl rfl ?_
     repeat (first | (refine K.store ?_;refine JO.ld (Ld.aP rfl rfl rfl (by exact rfl) (by exact rfl)) rfl (fun _=>?_)) | refine gn ?_)
     (exact J.ret Tryz.func49 rfl (.cons (.cell 1 rfl rfl rfl) (.cons (.tmp rfl) .nil)) () (by (exact .aV (by repeat (first | exact .nil | refine .cons (.agg (by repeat (first | exact .nil | refine .cons .refl ?_ | refine .cons .nil ?_))) ?_ | refine .cons .refl ?_)))) [] .nil rfl rfl)
end Fl
open Go.RowKit
namespace Fl
open Sx
set_option maxRecDepth 100000
section
variable {P:Program} {c:Cx} {f:Fm} {L:List ai} {T X:TypeId} {ps:String} {af:Array Edge} {gd:Option (Nat × Bool)} {t:Nat}
theorem Qt.za {x y:Operand} {Y:Nat} {p:Option Addr} (hu:P.underlying X=some (.pointer (P.pointee X))) (h:aN f x=some (.c (.v (.pointer p)))) (hy:aN f y=some (.c (.v (.pointer none)))):Qt P c [] ⟨t,.binOp .eql X x y Y,T,ps,af,gd⟩ f L (.c (.v (.bool p.isNone))):=⟨fun a w s=>by
 have rx:=s.val h;have ry:=s.val hy;refine ⟨.bool p.isNone,by unfold RD RA;exact ⟨rfl,rfl⟩,fun w' k=>?_⟩;simp [execOp,rx,ry,eqGuard_at_pointer,Sem.run_bind,run_eql_pointer_nil _ _ _ hu]⟩
theorem St.Wj {d d':D} {a:Act} {w:World} (s:St c ((t,d) :: f) L a w) (h:∀ (ok:Nat→Prop) (w:World) (x:Value),RD ok w d x→RD ok w d' x):St c ((t,d') :: f) L a w :=
 ⟨s.kp,s.size,s.jT,s.res,s.fN,s.ap,fun u e hu=>by
  by_cases e1:t=u
  ·subst e1;rw [rW] at hu;cases hu;exact h _ _ _ (s.fr t d (rW _ _ _))
  ·rw [uV e1] at hu;exact s.fr u e (by rw [uV e1];exact hu)⟩
theorem iD.FJ {ok:Nat→Prop} {w:World}:∀ {xs ys:List A},iD xs ys→∀ {vs:List Value},RC ok w xs vs→RC ok w ys vs
 | _,_,.nil,vs,r=>r
 | _,_,.refl,vs,r=>r
 | _,_,.cons h k,vs,r=>by
  unfold RC at r;obtain ⟨x,zs,rfl,r1,r2⟩:=r;exact RC.cons (h.rep r1) (iD.FJ k r2)
theorem Ld.Wk {e sz:Nat} {x:Operand} {d:D} {cs ds:List A} {zs:List Value} [i:eY P X e sz] [z:aQ P e zs] (ht:t < c.N) (h:aN f x=some d) (hc:gD d=some cs) (hn:cs.length=sz) (h0:Nat.ble 1 sz=true) (hs:Nat.ble sz 1000=true) (hle:iD cs ds) :
  Ld P c ⟨some t,.buildSlice X 1 #[(0,x)],T,ps,af,gd⟩ f L [] (fun _:Unit=>(t,.c (.r sz [ds])) :: f) (fun _=>L):=⟨fun a w s K Q hK =>
 (Ld.nt (P:=P) (c:=c) (T:=T) (ps:=ps) (af:=af) (gd:=gd) (f:=f) (L:=L) (e:=e) (sz:=sz) (zs:=zs) (X:=X) (t:=t) ht h hc hn h0 hs).go a w s K Q fun b u w' k' s' hf=>hK () u w' k' (s'.Wj fun ok w x r=>by
  unfold RD at r ⊢;unfold RA at r ⊢;obtain ⟨ao,cap,rfl,h1,h2,h3⟩:=r;refine ⟨ao,cap,rfl,h1,h2,?_⟩;rcases h3 with h3 | ⟨g,off,rfl,ho,hg,hl⟩
  ·cases h3
  ·refine .inr ⟨g,off,rfl,ho,hg,?_⟩;unfold RL at hl ⊢;obtain ⟨⟨vs,v1,v2,v3⟩,iS⟩:=hl;refine ⟨⟨vs,v1,v2,hle.FJ v3⟩,?_⟩;unfold RL at iS ⊢
   trivial) hf⟩
end
theorem Wl {p:List (List Pn.Op)} {sn cn:Nat} {d:List Int} (hr:Pn.right p=true) (hs:sn≤64) (hd:d.length≤100000):Fw (Sx.start p sn cn d):=by
 obtain ⟨r1,r2,r3⟩:=FF hr;refine ⟨by simpa [Sx.start] using r2,by simp [Sx.start],by simpa [Sx.start] using hs,by simp [Sx.start],hd,by simp [Sx.start],fun l hl=>?_,by simp [Sx.start],by simp [Sx.start],by simp [Sx.start],fun x hx=>?_,fun x hx=>?_⟩
 ·simp [Sx.start] at hl;obtain ⟨_,rfl⟩:=hl;simp
 ·simp only [Sx.start,List.mem_map] at hx;obtain ⟨ops,ho,rfl⟩:=hx;have:=r3 ops ho;exact ⟨by simp [clean];omega,fun o rj=>by have:=this.2 o rj;omega⟩
 ·simp only [Sx.start,List.mem_map] at hx;obtain ⟨ops,ho,rfl⟩:=hx;simp [clean]
theorem zb:Tryz.prog.underlying 39=some (.pointer (Tryz.prog.pointee 39)):=by kernel_rfl
theorem BO:Pure Tryz.prog 14 [] (.c (bI true)):=by
 have hr:Pn.right [[]]=true:=by decide
 have CN:=VK [[]] 0 1 [] hr (by omega) (by omega) (by omega) (by simp);refine aq.intro Tryz.func14 rfl rfl rfl (fun ok e=>?_);have FW:Fw (Sx.start [[]] ((0:Nat):Int) ((1:Nat):Int) []):=Wl hr (by omega) (by simp)
 repeat (first | (refine K.binOp ?_;refine jq rfl rfl rfl (Qt.za zb rfl rfl) ?_) | (refine K.call ?_;refine JO.ld (Ld.AO CN (qb rfl) rfl (.cons .refl (.cons .refl (.cons (.c .nil) .nil)))) rfl ?_;intro x) | (refine K.lit ?_;refine JO.ld (Ld.Wk (ds:=[.r 6 []]) (qb rfl) rfl rfl rfl rfl rfl (.cons .nil .nil)) rfl (fun _=>?_)) | refine gn ?_)
 rename_i x;have CS:=uu x.1 x.2 _ FW
 repeat (first | (refine K.store ?_;refine JO.ld (Ld.aP rfl rfl rfl (by exact rfl) (by exact rfl)) rfl (fun _=>?_)) | (refine K.indexAddr ?_;refine jx rfl rfl rfl rfl (by omega) (rfl) ?_) | (refine K.call ?_;refine JO.ld (Ld.AO (CS) (qb rfl) rfl (aL.cons .refl .nil)) rfl ?_;intro _) | refine au ?_ | intro _)
 exact az Tryz.func14
end Fl
open Go.RowKit Go.ChangeShapes Go.WideShapes Go.Deep
namespace Fl
open Sx
section
variable {α:Type} {E:World→List Value→α→List Nat→Prop} {enc:α→List A}
def Si (enc:α→List A) (E:World→List Value→α→List Nat→Prop):Prop :=
 ∀ (ok:Nat→Prop) (w:World) (cs:List Value) (a:α) (U:List Nat),E w cs a U→(∀ x∈U,ok x)→RC ok w (enc a) cs
theorem Si.rx (h:Si enc E) {ok:Nat→Prop} {w:World} {sz:Nat} {S:List Nat} (hS:∀ x∈S,ok x):∀ {l:List α} {xs:List Value},xs.length=l.length * sz→qu E sz w xs l S→RX ok w sz (l.map enc) xs
 | [],xs,hl,r=>by simp at hl;subst hl;rfl
 | a :: l,xs,hl,r=>by
  have uZ:xs.length=l.length * sz + sz:=by rw [hl,List.length_cons,Nat.add_mul];omega
  refine ⟨xs.take sz,xs.drop sz,(List.take_append_drop sz xs).symm,by rw [List.length_take];omega,?_,Si.rx h hS (by rw [List.length_drop];omega) fun k b hk=>?_⟩
  ·obtain ⟨U,u1,u2⟩:=r 0 a rfl;have:chunk xs sz 0=xs.take sz:=by unfold chunk;simp
   rw [this] at u1;exact h ok w _ a U u1 fun x hx=>hS x (u2 x hx)
  ·obtain ⟨U,u1,u2⟩:=r (k + 1) b (by simpa using hk);have:chunk xs sz (k + 1)=chunk (xs.drop sz) sz k:=by
    unfold chunk;rw [List.drop_drop,show (k + 1) * sz=sz + k * sz by rw [Nat.add_mul];omega]
   rw [this] at u1;exact ⟨U,u1,u2⟩
theorem Si.ra (h:Si enc E) {ok:Nat→Prop} {w:World} {sz:Nat} {v:Value} {l:List α} {S:List Nat} (r:GV E sz w v l S) (hS:∀ x∈S,ok x):RA ok w (.r sz (l.map enc)) v:=by
 obtain ⟨xs,T,v1,v2,v3,v4,v5⟩:=r;exact RA.Ae (ys:=xs) (S:=T) (by rw [List.length_map];exact v1) (h.rx hS v1.len v2) fun g hg=>hS g (v3 g hg)
theorem Si.row (h:Si enc E) {sz:Nat}:Si (fun l:List α=>[A.r sz (l.map enc)]) (pF E sz):=fun ok w cs l U r hS=>by
 obtain ⟨v,rfl,g⟩:=r;exact RC.cons (h.ra g hS) RC.nil
end
theorem RA.w {ok:Nat→Prop} {w:World} {v:Value} (h:v.oneCell'=true):RA ok w (.v v) v:=by unfold RA;exact ⟨rfl,h⟩
theorem Wm:Si sA lE:=fun ok w cs c U r _=>by
 obtain ⟨rfl,_⟩:=r;exact RC.cons (RA.w rfl) (RC.cons (RA.w rfl) (RC.cons (RA.w rfl) RC.nil))
theorem Wn:Si dO wm:=fun ok w cs o U r hS=>by
 obtain ⟨vc,rfl,g⟩:=r;exact RC.cons (RA.w rfl) (RC.cons (RA.w rfl) (RC.cons (RA.w rfl) (RC.cons (RA.w rfl) (RC.cons (Wm.ra g hS) (RC.cons (RA.w rfl) RC.nil)))))
theorem Wo:Si (fun l:List Pn.Op=>[A.r 6 (l.map dO)]) rL:=Wn.row
theorem Wp:Si (fun n:Int=>[A.v (.int .u16 n)]) (kz .u16):=fun ok w cs n U r _=>by
 obtain ⟨rfl,_⟩:=r;exact RC.cons (RA.w rfl) RC.nil
theorem Mh:Si (fun n:Int=>[nI n]) (kz .i64):=fun ok w cs n U r _=>by
 obtain ⟨rfl,_⟩:=r;exact RC.cons (RA.w rfl) RC.nil
structure tq where
 p:List (List Pn.Op)
 sn:Int
 cn:Int
 d:List Int
def rN (w:World) (cs:List Value) (a:tq) (U:List Nat):Prop :=
 ∃ vp vd,cs=[vp,.int .i64 a.sn,.int .i64 a.cn,vd]∧GV rL 1 w vp a.p U∧GV (kz .u16) 1 w vd a.d U
theorem Wq:Kept rN :=
 ⟨fun h k hn=>by obtain ⟨vp,vd,h1,h2,h3⟩:=h;exact ⟨vp,vd,h1,h2.aT Fy k hn,h3.aT (GX _) k hn⟩,fun h=>by obtain ⟨vp,vd,h1,h2,h3⟩:=h;exact h2.lt⟩
def kP (p:List (List Pn.Op)) (sn cn:Int) (d:List Int):List A:=[mM p,nI sn,nI cn,kE d]
theorem Mi {ok:Nat→Prop} {w:World} {cs:List Value} {a:tq} {U:List Nat} (h:rN w cs a U) (hS:∀ x∈U,ok x):RC ok w (kP a.p a.sn a.cn a.d) cs:=by
 obtain ⟨vp,vd,rfl,h2,h3⟩:=h;exact RC.cons (Wo.ra h2 hS) (RC.cons (RA.w rfl) (RC.cons (RA.w rfl) (RC.cons (Wp.ra h3 hS) RC.nil)))
theorem FK:fz Tryz.prog 3 (kz .i64) 1:=zX Tryz.underlying3 (by kernel_rfl)
theorem Wr:fz Tryz.prog 115 (kz .u16) 1:=zX Tryz.underlying115 (by kernel_rfl)
theorem Ws:fz Tryz.prog 25 (pF (kz .u16) 1) 1:=wS Tryz.underlying25 (by kernel_rfl) Wr
def Mj (w:World) (cs:List Value) (a:Int × Int) (U:List Nat):Prop:=cs=[.int .i64 a.1,.int .i64 a.2]∧U=[]
theorem Wu:Kept Mj:=⟨fun h _ _=>h,fun h x hx=>by obtain ⟨_,rfl⟩:=h;simp at hx⟩
theorem Wv:fz Tryz.prog 24 Mj 2:=by
 refine ⟨by omega,Wu,by kernel_rfl,?_⟩;intro H enc W fuel cs x h;obtain ⟨xs,n,_,_,hl,jS,hf⟩:=DataW.trod_struct Tryz.underlying24 h;have iS:cs.length=2:=hl.trans (by kernel_rfl);obtain ⟨v0,v1,rfl⟩:=Of iS;have qD:xs.length=2:=jS.trans (by kernel_rfl);have hs:∀ i,i < 2→(xs[i]?).isSome=true:=fun i hi=>by simp [qD,hi]
 obtain ⟨o0,_,a0,U0,e0,_,_⟩:=FK.field rfl rfl (hs 0 (by omega)) (hf 0 _ rfl);obtain ⟨o1,_,a1,U1,e1,_,_⟩:=FK.field rfl rfl (hs 1 (by omega)) (hf 1 _ rfl);simp at e0 e1 o0 o1;subst e0 e1;exact ⟨rfl,(by intro y hy;simp at hy;rcases hy with rfl | rfl <;> rfl),(a0,a1),[],rfl,rfl⟩
theorem FL:fz Tryz.prog 27 rN 4:=by
 refine ⟨by omega,Wq,by kernel_rfl,?_⟩;intro H enc W fuel cs x h;obtain ⟨xs,n,_,_,hl,jS,hf⟩:=DataW.trod_struct Tryz.underlying27 h;have Ww:cs.length=4:=hl.trans (by kernel_rfl);obtain ⟨v0,v1,v2,v3,rfl⟩:=Oh Ww;have xD:xs.length=3:=jS.trans (by kernel_rfl);have hs:∀ i,i < 3→(xs[i]?).isSome=true:=fun i hi=>by simp [xD,hi]
 obtain ⟨o0,_,a0,U0,vp,e0,h0⟩:=Vi.field rfl rfl (hs 0 (by omega)) (hf 0 _ rfl);obtain ⟨o1,_,a1,U1,e1,_⟩:=Wv.field rfl rfl (hs 1 (by omega)) (hf 1 _ rfl);obtain ⟨o2,_,a2,U2,vd,e2,h2⟩:=Ws.field rfl rfl (hs 2 (by omega)) (hf 2 _ rfl);simp at e0 e1 e2 o0 o1 o2;obtain ⟨Wx,Wy⟩:=e1;subst e0 Wx Wy e2;have cA:∀ x∈U0 ++ U2,x < W.heap.size:=fun x hx=>by
  rcases List.mem_append.1 hx with h | h
  ·exact h0.lt x h
  ·exact h2.lt x h
 exact ⟨rfl,(by intro y hy;simp at hy;rcases hy with rfl | rfl | rfl | rfl <;> first | rfl | assumption),⟨a0,a1.1,a1.2,a2⟩,U0 ++ U2,_,_,rfl,h0.mono (fun x hx=>by simp [hx]) cA,h2.mono (fun x hx=>by simp [hx]) cA⟩
theorem Ml {P:Program} {F:FuncId} {ds:List D} (h:Pure P F ds (.c (bI true))) {w:World} {xs:List Value} (hd:bL (fun _=>True) w ds xs):Calls P F xs.toArray w fun e w'=>e=.returned (.bool true)∧aj [] w w':=by
 refine Calls.mono (h.go (fun _=>True) w xs hd (by simp) List.Pairwise.nil (by simp [aO])) ?_
 rintro en w' ⟨i,x,rfl,kp,_,_,_,r⟩
 unfold RD bI RA at r;exact ⟨by rw [r.1],by simpa [aO] using kp⟩
end Fl
open Go.RowKit
namespace Fl
open Sx
set_option maxRecDepth 100000
theorem Wz:Is (fun l:List Int=>[ints l]) CJ:=fun ok w cs l r=>by
 unfold RC at r;obtain ⟨x,xs,e1,r1,r2⟩:=r;have e2:=r2.n0;subst e2;obtain ⟨S,h1,h2⟩:=IV.Eu r1;exact ⟨S,⟨x,e1,h1⟩,fun y hy=>⟨h2 y hy,h1.lt y hy⟩⟩
theorem WA (room:Int) (l:List Int) (h:0≤room∧room≤64∧(l.length:Int)≤room):aq Tryz.prog 129 [.c (nI room),.c (ints l)] [] (fun x:Value × List Nat=>(.aV [.c (.v x.1),.c (nI 0)],[aI (tR [(x.1,room.toNat,l)]) x.2])):=⟨fun ok e xs hd _ _ _=>by
 obtain ⟨ys,rfl,h1⟩:=hd.cv;obtain ⟨v,zs,rfl,r,h2⟩:=h1.c;rw [h2.Et];obtain ⟨S,s1,s2⟩:=IV.Eu r;refine (RU e room v l S s1).mono ?_;intro en w' hp;unfold AN at hp;rw [if_pos h] at hp;obtain ⟨p,T,rfl,k,g,hT⟩:=hp;refine ⟨(p,T),_,rfl,by simpa [aO] using k,fun y hy=>.inr (hT y (by simpa [aO,aI,ai.bM] using hy)),List.pairwise_singleton _ _,fun q hq=>?_,?_⟩
 ·rw [List.mem_singleton.1 hq];refine (aI.holds tR.ok).2 ⟨[T],rfl,by simp,List.pairwise_singleton _ _,fun i x Si hi hs=>?_⟩
  cases i with
  | zero=>simp at hi hs;subst hi hs;exact g
  | succ i=>simp at hi
 ·obtain ⟨b,rfl⟩:=Rg.shape g;exact RD.yf rfl rfl⟩
theorem WB (size most f:Nat) (C:List (List Int)) (M:List Int) (hM:M.length≤1000) (hC:∀ l∈C,l.length≤1000) (ho:Po.of size most f C M=true) :
  aq Tryz.prog 55 [.c (nI size),.c (nI most),.c (.r 1 (C.map fun l=>[ints l])),.c (ints M),.c (nI f)] []
   (fun x:{ x:Value × List Nat × List Bool // Po.settle f (List.replicate size false) (C.flatten ++ M)=(x.2.2,true) }=>(.aV [.c (.v x.1.1),.c (nI 0)],[aI (tP x.1.1 size most ⟨C,M,f,x.1.2.2⟩) x.1.2.1])):=⟨fun ok e xs hd _ _ _=>by
 obtain ⟨y1,rfl,h1⟩:=hd.cv;obtain ⟨y2,rfl,h2⟩:=h1.cv;obtain ⟨vc,y3,rfl,r3,h3⟩:=h2.c;obtain ⟨vm,y4,rfl,r4,h4⟩:=h3.c;obtain rfl:=h4.v1;obtain ⟨S,s1,s2⟩:=Wz.gv r3;obtain ⟨T,t1,t2⟩:=IV.Eu r4;have WC:RP e vc vm C M (S ++ T):=⟨s1.mono (fun x hx=>List.mem_append_left _ hx) (fun x hx=>(List.mem_append.1 hx).elim (fun h=>(s2 x h).2) (fun h=>t1.lt x h)),T,t1,fun x hx=>List.mem_append_right _ hx⟩
 refine (Uk e size most f vc vm C M _ WC hM hC).mono ?_
 rintro en w' ⟨k,⟨_,b,R,H,rfl,g1,g2,g3⟩ | ⟨g1,_⟩⟩
 ·refine ⟨⟨(.pointer (some ⟨b,0,none⟩),R,H),by simpa using g3⟩,_,rfl,by simpa [aO] using k,fun y hy=>.inr (g2 y (by simpa [aO,aI,ai.bM] using hy)),List.pairwise_singleton _ _,fun q hq=>?_,RD.yf rfl rfl⟩;rw [List.mem_singleton.1 hq];exact (aI.holds tP.ok).2 g1
 ·rw [ho] at g1;cases g1⟩
theorem tR.app {l1 l2:List (Value × Nat × List Int)} {w:World} {S1 S2:List Nat} (h1:tR l1 w S1) (h2:tR l2 w S2) (ha:∀ x∈S1,x∉S2):tR (l1 ++ l2) w (S1 ++ S2):=by
 obtain ⟨A,a1,rfl,a3,a4⟩:=h1;obtain ⟨B,b1,rfl,b3,b4⟩:=h2;refine ⟨A ++ B,by simp [a1,b1],by simp,List.pairwise_append.2 ⟨a3,b3,fun X hX Y hY x hx hy=>ha x (List.mem_flatten.2 ⟨X,hX,hx⟩) (List.mem_flatten.2 ⟨Y,hY,hy⟩)⟩,fun i x Si hi hs=>?_⟩
 by_cases c:i < l1.length
 ·rw [List.getElem?_append_left c] at hi;rw [List.getElem?_append_left (by omega)] at hs;exact a4 i x Si hi hs
 ·rw [List.getElem?_append_right (by omega)] at hi;rw [List.getElem?_append_right (by omega),a1] at hs;exact b4 _ x Si hi hs
section
variable {P:Program} {c:Cx} {k:List Item} {f:Fm} {L:List ai}
theorem J.rings {l1 l2:List (Value × Nat × List Int)} {S1 S2:List Nat} (h:J P c k f (aI (tR (l1 ++ l2)) (S1 ++ S2) :: L)):J P c k f (aI (tR l1) S1 :: aI (tR l2) S2 :: L):=⟨fun a w s=>by
 have hf:aO (aI (tR (l1 ++ l2)) (S1 ++ S2) :: L)=aO (aI (tR l1) S1 :: aI (tR l2) S2 :: L):=by simp [aO,aI,ai.bM]
 have ho:bh c (aI (tR (l1 ++ l2)) (S1 ++ S2) :: L)=bh c (aI (tR l1) S1 :: aI (tR l2) S2 :: L):=by funext x;unfold bh;rw [hf]
 have ap:=List.pairwise_cons.1 s.ap;have Mm:=List.pairwise_cons.1 ap.2;have q1:=(aI.holds tR.ok).1 (s.res _ (List.mem_cons_self ..));have q2:=(aI.holds tR.ok).1 (s.res _ (List.mem_cons_of_mem _ (List.mem_cons_self ..)));have hd:∀ x∈S1,x∉S2:=fun x hx hy=>ap.1 _ (List.mem_cons_self ..) x (by simpa [aI,ai.bM] using hx) (by simpa [aI,ai.bM] using hy)
 refine h.go a w ⟨s.kp,s.size,s.jT,fun q hq=>?_,fun x hx=>s.fN x (hf ▸ hx),List.pairwise_cons.2 ⟨fun q hq x hx hy=>?_,Mm.2⟩,fun t d ht=>by rw [ho];exact s.fr t d ht⟩
 ·rw [ho];rcases List.mem_cons.1 hq with rfl | hq
  ·exact (aI.holds tR.ok).2 (q1.app q2 hd)
  ·exact s.res q (List.mem_cons_of_mem _ (List.mem_cons_of_mem _ hq))
 ·rcases List.mem_append.1 (show x∈S1 ++ S2 by simpa [aI,ai.bM] using hx) with hx | hx
  ·exact ap.1 q (List.mem_cons_of_mem _ hq) x (by simpa [aI,ai.bM] using hx) hy
  ·exact Mm.1 q hq x (by simpa [aI,ai.bM] using hx) hy⟩
end
end Fl
end Go.Proofs.YtofnbflkhgammaaGreat
