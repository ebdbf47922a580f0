/-
  What the laws need, part A16.
  Conditions: none.
-/
import Derived.Test.YtdjhhbpedllnhaaGreatA7
set_option linter.unusedVariables false
set_option linter.unusedSimpArgs false
set_option linter.unnecessarySimpa false
set_option maxHeartbeats 2000000
namespace Go.Proofs.YtdjhhbpedllnhaaGreat
namespace Sx
def aH (x:Gr):Pn.Op:=x.ops.getD x.at_.toNat yG
def bU (x:Gr) (j:Int):Int:=(cD (aH x) j).ch
def SR (x:Gr):Prop:=(aH x).kind=2∨(aH x).kind=3
def SE (x:Gr):Prop:=(aH x).kind=9
def Wt (x:Gr):Prop:=SR x∧12≤x.place∧x.place≤14∨SE x∧(x.place=13∨x.place=14∨x.place=30∧x.res.code=0)
def bH (x:Gr) (ch:Int):Prop :=
 2≤(aH x).kind∧(aH x).kind≤6∧ch=(aH x).ch∧(5≤x.place∧x.place≤12∨x.place=16∨21≤x.place∧x.place≤23) ∨
 SE x∧((25≤x.place∧x.place≤29∨x.place=32)∧ch∈x.aF∨(x.place=24∨x.place=31∨x.place=30∨x.place=33)∧ch∈x.aF.take x.k.toNat)
def Own (x:Gr) (i:Int):Prop :=
 0≤i∧(SR x∧11≤x.place∧x.place≤15∧x.aI=i∨SE x∧(28≤x.place∧x.place≤34∨x.place=13∨x.place=14)∧i∈x.ax)
def Match (x:Gr) (i:Int) (d:Su):Prop :=
 SR x∧d.cs=-1∧d.ch=(aH x).ch∧(d.send=true↔(aH x).kind=2) ∨
 SE x∧0≤d.cs∧d.cs < x.ax.length∧aE x.ax d.cs=i∧d.ch=bU x d.cs∧d.send=(cD (aH x) d.cs).send∧d.cs∈x.order∧∀ j:Int,0≤j→j < x.ax.length→aE x.ax j=i→j=d.cs
def dI (x:Gr) (i j:Int):Prop :=
 SR x∧12≤x.place∧x.place≤14∧x.aI=i∧x.param=-1 ∨
 SE x∧0≤j∧j < x.ax.length∧aE x.ax j=i∧(x.place=29∧j∈x.order.take x.k.toNat∨x.place=13∨x.place=14∨x.place=31∨x.place=30∧x.res.code=0∨x.place=32∧j∈x.order.drop x.k.toNat)
def bJ (k p:Int):Prop :=
 p=18∨(k=1∨k=7∨k=8)∧p=20∨(k=2∨k=3)∧(4≤p∧p≤17∨p=19)∨k=4∧(p=1∨p=2∨4≤p∧p≤9∨p=16∨p=17) ∨
 k=5∧(1≤p∧p≤9∨p=16∨p=17)∨k=6∧(p=4∨p=16∨p=17∨21≤p∧p≤23)∨k=9∧(24≤p∧p≤34∨p=13∨p=14∨p=17∨p=19)
def dV (p:Int):Prop:=24≤p∧p≤34∨p=13∨p=14
structure gN (nc ns:Int) (x:Gr):Prop where
 o1:∀ i∈x.order,0≤i∧i < (aH x).cases.length∧bU x i∈x.aF
 o2:x.order.Nodup
 o3:1≤x.order.length
 l1:∀ c∈x.aF,1≤c∧c≤nc
 l2:x.aF.Pairwise (· < ·)
 l3:1≤x.aF.length
 k0:0≤x.k
 k1:x.place=24∨x.place=31→x.k < x.aF.length
 k2:25≤x.place∧x.place≤29∨x.place=32∨x.place=34→x.k < x.order.length
 k3:x.place=30∨x.place=33→1≤x.k∧x.k≤x.aF.length
 s1:24≤x.place∧x.place≤27→x.ax=[]
 s2:28≤x.place∧x.place≤29∨31≤x.place∧x.place≤34∨x.place=13∨x.place=14→x.ax.length=(aH x).cases.length
 s3:x.place=30→x.ax.length=(aH x).cases.length∨x.ax=[]∧x.res.code≠0
 s4:∀ j:Int,0≤j→j < x.ax.length→-1≤aE x.ax j∧aE x.ax j < ns∧(0≤aE x.ax j→j∈x.order)
 s5:x.place=28→∀ j∈x.order.drop x.k.toNat,aE x.ax j=-1
 s6:31≤x.place∧x.place≤33∨x.place=13∨x.place=14∨x.place=29∨x.place=30∧x.res.code=0→∀ j∈x.order,0≤aE x.ax j
 s7:x.place=34→∀ j∈x.order.take x.k.toNat,aE x.ax j=-1
 c1:24≤x.place∧x.place≤29∨x.place=13∨x.place=14→x.res.code=0
 c2:31≤x.place∧x.place≤33→x.aU=true
 s8:x.place=28→∀ j∈x.order.take x.k.toNat,0≤aE x.ax j
structure Loc (nc ns n:Int) (x:Gr):Prop where
 oI:x.ops.length≤16
 iC:∀ o∈x.ops,Pn.fu o=true
 a0:0≤x.at_
 a1:x.at_≤x.ops.length
 pl:x.place=0∨x.at_ < x.ops.length∧bJ (aH x).kind x.place
 B0:x.place≠0→x.place≠18→x.place≠19→2≤(aH x).kind→(aH x).kind≤6→1≤(aH x).ch∧(aH x).ch≤nc
 jC:x.status=0∨x.status=1∨x.status=2
 B1:x.status=1→x.place=14∨x.place=19
 B2:x.place=19→x.status=1
 FX:x.status=2→x.place=0∧x.at_=x.ops.length
 tk:x.token=true→Wt x∧0≤x.param∧x.place≠14
 w1:x.ak≠[]→x.place=16∨x.place=17∨x.place=22∨x.place=23∨x.place=34∨x.place=30∧x.res.code≠0
 w2:x.place=17→x.ak≠[]
 w3:∀ p∈x.ak,0≤p∧p < n
 w4:x.ak.Nodup
 hd:x.place=7∨x.place=8∨x.place=23∨x.place=26∨x.place=27→0≤x.hold∧x.hold < ns
 mi:SR x→11≤x.place→x.place≤15→0≤x.aI∧x.aI < ns
 p0:-1≤x.param∧x.param < ns
 p1:x.place=14→x.status=0→0≤x.param
 p2:0≤x.param→Wt x∧Own x x.param
 p3:0≤x.param→SE x→x.aU=true
 se:SE x→dV x.place→gN nc ns x
structure Inv (n nc ns:Int) (G:Int→Gr) (C:Int→Cn) (S:Int→Su) (P:Int→Prop):Prop where
 loc:∀ g,0≤g→g < n→Loc nc ns n (G g)
 jS:∀ ch,1≤ch→ch≤nc→(C ch).lock=-1∨0≤(C ch).lock∧(C ch).lock < n
 jD:∀ g,0≤g→g < n→∀ ch,1≤ch→ch≤nc→(bH (G g) ch↔(C ch).lock=g)
 cap:∀ ch,1≤ch→ch≤nc→0≤(C ch).cap∧(C ch).cap≤4∧((C ch).buf.length:Int)≤(C ch).cap
 own:∀ g,0≤g→g < n→∀ i,Own (G g) i→i < ns∧Match (G g) i (S i)∧(S i).g=g∧P i
 q:∀ ch,1≤ch→ch≤nc→∀ i,i∈(C ch).recv∨i∈(C ch).send→0≤i∧i < ns∧(S i).ch=ch∧((S i).send=false→i∈(C ch).recv∧i∉(C ch).send)∧((S i).send=true→i∈(C ch).send∧i∉(C ch).recv)∧0≤(S i).g∧(S i).g < n∧Own (G (S i).g) i∧dI (G (S i).g) i (S i).cs
 nd:∀ ch,1≤ch→ch≤nc→(C ch).recv.Nodup∧(C ch).send.Nodup
 cU:∀ h,0≤h→h < n→(G h).place=7∨(G h).place=23∨(G h).place=26→1≤(S (G h).hold).ch∧(S (G h).hold).ch≤nc∧bH (G h) (S (G h).hold).ch∧((G h).hold∈(C (S (G h).hold).ch).recv∨(G h).hold∈(C (S (G h).hold).ch).send)∧0≤(S (G h).hold).cs
 cl:∀ h,0≤h→h < n→(G h).place=8∨(G h).place=27→1≤(S (G h).hold).ch∧(S (G h).hold).ch≤nc∧bH (G h) (S (G h).hold).ch∧0≤(S (G h).hold).g∧(S (G h).hold).g < n∧(S (G h).hold).g≠h∧Wt (G (S (G h).hold).g)∧(G (S (G h).hold).g).param=-1∧Own (G (S (G h).hold).g) (G h).hold∧(SE (G (S (G h).hold).g)→(G (S (G h).hold).g).aU=true)∧(SR (G (S (G h).hold).g)→(G h).hold∉(C (S (G h).hold).ch).recv∧(G h).hold∉(C (S (G h).hold).ch).send)
 sA:∀ h k,0≤h→h < n→0≤k→k < n→(G h).place=8∨(G h).place=27→(G k).place=8∨(G k).place=27→(S (G h).hold).g=(S (G k).hold).g→h=k
 wk:∀ h,0≤h→h < n→∀ p∈(G h).ak,p≠h∧Wt (G p)∧0≤(G p).param∧(G p).token=false∧((G p).place=14→(G p).status≠0)
 qO:∀ h k p,0≤h→h < n→0≤k→k < n→p∈(G h).ak→p∈(G k).ak→h=k
 su:∀ i,0≤i→i < ns→0≤(S i).g∧(S i).g < n∧-1≤(S i).cs∧((S i).live=true→Own (G (S i).g) i)
 lv:∀ i,P i→0≤i∧i < ns→Own (G (S i).g) i
end Sx
namespace Sx
def up {α:Type} (G:Int→α) (g:Int) (x:α):Int→α:=fun h=>if h=g then x else G h
theorem iF {α:Type} (G:Int→α) (g:Int) (x:α):up G g x g=x:=by simp [up]
theorem jd {α:Type} (G:Int→α) {g h:Int} (x:α) (e:h≠g):up G g x h=G h:=by simp [up,e]
def iO (G:Int→Gr) (p:Int) (y:Gr) (g:Int) (x:Gr):Int→Gr:=up (up G p y) g x
theorem FY (G:Int→Gr) (p:Int) (y:Gr) (g:Int) (x:Gr):iO G p y g x g=x:=iF _ _ _
theorem Vo (G:Int→Gr) {p:Int} (y:Gr) {g:Int} (x:Gr) (e:p≠g):iO G p y g x p=y:=by unfold iO;rw [jd _ _ e,iF]
theorem FZ (G:Int→Gr) {p:Int} (y:Gr) {g:Int} (x:Gr) {h:Int} (e:h≠g) (e2:h≠p):iO G p y g x h=G h:=by unfold iO;rw [jd _ _ e,jd _ _ e2]
def c7 (x:Gr):Prop:=x.place=8∨x.place=27
def cQ (x:Gr):Prop:=x.place=7∨x.place=23∨x.place=26
def lM (x:Gr):Prop:=Wt x∧0≤x.param∧x.token=false∧(x.place=14→x.status≠0)
def mX (x:Gr):Prop:=Wt x∧x.param=-1∧(SE x→x.aU=true)
structure Part (x y:Gr):Prop where
 ops:y.ops=x.ops
 at_:y.at_=x.at_
 place:y.place=x.place
 aI:y.aI=x.aI
 hold:y.hold=x.hold
 code:y.res.code=x.res.code
 order:y.order=x.order
 aF:y.aF=x.aF
 ax:y.ax=x.ax
 ak:y.ak=x.ak
 k:y.k=x.k
section
variable {x y:Gr}
theorem Part.refl (x:Gr):Part x x:=⟨rfl,rfl,rfl,rfl,rfl,rfl,rfl,rfl,rfl,rfl,rfl⟩
theorem Part.aH (h:Part x y):aH y=aH x:=by unfold Sx.aH;rw [h.ops,h.at_]
theorem Part.sr (h:Part x y):SR y↔SR x:=by unfold SR;rw [h.aH]
theorem Part.se (h:Part x y):SE y↔SE x:=by unfold SE;rw [h.aH]
theorem Part.wt (h:Part x y):Wt y↔Wt x:=by unfold Wt;rw [h.sr,h.se,h.place,h.code]
theorem Part.holds (h:Part x y) (ch:Int):bH y ch↔bH x ch:=by unfold bH;rw [h.se,h.place,h.aH,h.aF,h.k]
theorem Part.own (h:Part x y) (i:Int):Own y i↔Own x i:=by unfold Own;rw [h.sr,h.se,h.place,h.aI,h.ax]
theorem Part.Vp (h:Part x y) (i:Int) (d:Su):Match y i d↔Match x i d:=by unfold Match bU;rw [h.sr,h.se,h.aH,h.ax,h.order]
end
section
variable {n nc ns:Int} {G:Int→Gr} {C:Int→Cn} {S:Int→Su} {P:Int→Prop}
structure Move (n nc ns:Int) (G:Int→Gr) (C:Int→Cn) (S:Int→Su) (g p:Int) (x y:Gr) (C':Int→Cn):Prop where
 g0:0≤g
 g1:g < n
 pg:p≠g
 lx:Loc nc ns n x
 ly:0≤p→p < n→Loc nc ns n y
 py:Part (G p) y
 jS:∀ ch,1≤ch→ch≤nc→(C' ch).lock=-1∨0≤(C' ch).lock∧(C' ch).lock < n
 zG:∀ ch,1≤ch→ch≤nc→(bH x ch↔(C' ch).lock=g)
 zH:∀ ch h,1≤ch→ch≤nc→0≤h→h < n→h≠g→((C' ch).lock=h↔(C ch).lock=h)
 cap:∀ ch,1≤ch→ch≤nc→0≤(C' ch).cap∧(C' ch).cap≤4∧((C' ch).buf.length:Int)≤(C' ch).cap
 own:∀ i,Own x i↔Own (G g) i
 mt:∀ i,Own x i→Match x i (S i)
 q1:∀ ch,1≤ch→ch≤nc→(C' ch).recv.Sublist (C ch).recv∧(C' ch).send.Sublist (C ch).send
 q2:∀ ch,1≤ch→ch≤nc→¬ bH (G g) ch→(C' ch).recv=(C ch).recv∧(C' ch).send=(C ch).send
 qx:∀ ch i,1≤ch→ch≤nc→i∈(C' ch).recv∨i∈(C' ch).send→(S i).g=g→dI (G g) i (S i).cs→dI x i (S i).cs
 qy:∀ ch i,1≤ch→ch≤nc→i∈(C' ch).recv∨i∈(C' ch).send→(S i).g=p→dI (G p) i (S i).cs→dI y i (S i).cs
 wn:cQ x→1≤(S x.hold).ch∧(S x.hold).ch≤nc∧bH x (S x.hold).ch∧(x.hold∈(C' (S x.hold).ch).recv∨x.hold∈(C' (S x.hold).ch).send)∧0≤(S x.hold).cs
 cx:c7 x→1≤(S x.hold).ch∧(S x.hold).ch≤nc∧bH x (S x.hold).ch∧(S x.hold).g=p∧0≤p∧p < n∧mX y∧Own y x.hold∧(SR y→x.hold∉(C' (S x.hold).ch).recv∧x.hold∉(C' (S x.hold).ch).send)
 cg:∀ k,0≤k→k < n→k≠g→c7 (G k)→(S (G k).hold).g=g→mX (G g)→mX x∧(SR x→SR (G g))
 cp:∀ k,0≤k→k < n→k≠g→c7 (G k)→(S (G k).hold).g=p→mX (G p)→mX y∧¬ c7 x
 wx:∀ q∈x.ak,q∈(G g).ak∨q=p∧∀ k,0≤k→k < n→k≠g→p∉(G k).ak
 wg:lM (G g)→(∃ k,0≤k∧k < n∧k≠g∧g∈(G k).ak)→lM x
 Vq:g∉x.ak
 wp:p∈x.ak→lM y
 Vr:∀ k,0≤k→k < n→k≠g→p∈(G k).ak→lM (G p)→lM y
theorem Inv.move (I:Inv n nc ns G C S P) {g p:Int} {x y:Gr} {C':Int→Cn} (M:Move n nc ns G C S g p x y C'):Inv n nc ns (iO G p y g x) C' S P:=by
 have gg:=FY G p y g x;have gp:=Vo G y x M.pg;have gh:∀ {h},h≠g→h≠p→iO G p y g x h=G h:=fun a b=>FZ G y x a b
 have pt:∀ h,h≠g→Part (G h) (iO G p y g x h):=by
  intro h e
  by_cases e2:h=p
  ·subst e2;rw [gp];exact M.py
  ·rw [gh e e2];exact Part.refl _
 have ow:∀ h i,Own (iO G p y g x h) i↔Own (G h) i:=by
  intro h i
  by_cases e:h=g
  ·subst e;rw [gg];exact M.own i
  ·exact (pt h e).own i
 have Vs:∀ ch,1≤ch→ch≤nc→∀ i,i∈(C' ch).recv∨i∈(C' ch).send→i∈(C ch).recv∨i∈(C ch).send:=fun ch a b i h=>h.imp (fun h=>(M.q1 ch a b).1.subset h) (fun h=>(M.q1 ch a b).2.subset h)
 constructor
 ·intro h a b
  by_cases e:h=g
  ·subst e;rw [gg];exact M.lx
  ·by_cases e2:h=p
   ·subst e2;rw [gp];exact M.ly a b
   ·rw [gh e e2];exact I.loc h a b
 ·exact M.jS
 ·intro h a b ch c1 c2
  by_cases e:h=g
  ·subst e;rw [gg];exact M.zG ch c1 c2
  ·rw [(pt h e).holds,I.jD h a b ch c1 c2,M.zH ch h c1 c2 a b e]
 ·exact M.cap
 ·intro h a b i hi;have:=I.own h a b i ((ow h i).1 hi);refine ⟨this.1,?_,this.2.2⟩
  by_cases e:h=g
  ·subst e;rw [gg] at hi ⊢;exact M.mt i hi
  ·exact ((pt h e).Vp i _).2 this.2.1
 ·intro ch a b i hi;have:=I.q ch a b i (Vs ch a b i hi);obtain ⟨t1,t2,t3,t4,t5,t6,t7,t8,t9⟩:=this;refine ⟨t1,t2,t3,?_,?_,t6,t7,(ow _ _).2 t8,?_⟩
  ·intro e;have:=t4 e;rcases hi with hi | hi
   ·exact ⟨hi,fun h=>this.2 ((M.q1 ch a b).2.subset h)⟩
   ·exact absurd ((M.q1 ch a b).2.subset hi) this.2
  ·intro e;have:=t5 e;rcases hi with hi | hi
   ·exact absurd ((M.q1 ch a b).1.subset hi) this.2
   ·exact ⟨hi,fun h=>this.2 ((M.q1 ch a b).1.subset h)⟩
  ·by_cases e:(S i).g=g
   ·rw [e,gg];exact M.qx ch i a b hi e (e ▸ t9)
   ·by_cases e2:(S i).g=p
    ·rw [e2,gp];exact M.qy ch i a b hi e2 (e2 ▸ t9)
    ·rw [gh e e2];exact t9
 ·intro ch a b;exact ⟨(I.nd ch a b).1.sublist (M.q1 ch a b).1,(I.nd ch a b).2.sublist (M.q1 ch a b).2⟩
 ·intro h a b
  by_cases e:h=g
  ·subst e;rw [gg];exact M.wn
  ·have hp:=pt h e;rw [hp.place,hp.hold];intro c;obtain ⟨t1,t2,t3,t4,t5⟩:=I.cU h a b c;refine ⟨t1,t2,(hp.holds _).2 t3,?_,t5⟩;have:¬ bH (G g) (S (G h).hold).ch:=by
    rw [I.jD g M.g0 M.g1 _ t1 t2];rw [I.jD h a b _ t1 t2] at t3;omega
   rw [(M.q2 _ t1 t2 this).1,(M.q2 _ t1 t2 this).2];exact t4
 ·-- who is won by another one than g stays so
  have key:∀ k,0≤k→k < n→k≠g→c7 (G k)→mX (iO G p y g x (S (G k).hold).g)∧Own (iO G p y g x (S (G k).hold).g) (G k).hold∧(SR (iO G p y g x (S (G k).hold).g)→(G k).hold∉(C' (S (G k).hold).ch).recv∧(G k).hold∉(C' (S (G k).hold).ch).send):=by
   intro k a b e c;obtain ⟨t1,t2,t3,t4,t5,t6,t7,t8,t9,t10,t11⟩:=I.cl k a b c;have sub:(G k).hold∉(C (S (G k).hold).ch).recv∧(G k).hold∉(C (S (G k).hold).ch).send→(G k).hold∉(C' (S (G k).hold).ch).recv∧(G k).hold∉(C' (S (G k).hold).ch).send :=
    fun h=>⟨fun h2=>h.1 ((M.q1 _ t1 t2).1.subset h2),fun h2=>h.2 ((M.q1 _ t1 t2).2.subset h2)⟩
   refine ⟨?_,(ow _ _).2 t9,?_⟩
   ·by_cases e1:(S (G k).hold).g=g
    ·rw [e1,gg];exact (M.cg k a b e c e1 (by rw [e1] at t7 t8 t10;exact ⟨t7,t8,t10⟩)).1
    ·by_cases e2:(S (G k).hold).g=p
     ·rw [e2,gp];exact (M.cp k a b e c e2 (by rw [e2] at t7 t8 t10;exact ⟨t7,t8,t10⟩)).1
     ·rw [gh e1 e2];exact ⟨t7,t8,t10⟩
   ·by_cases e1:(S (G k).hold).g=g
    ·rw [e1,gg];rw [e1] at t7 t8 t10 t11;exact fun h=>sub (t11 ((M.cg k a b e c e1 ⟨t7,t8,t10⟩).2 h))
    ·rw [(pt _ e1).sr];exact fun h=>sub (t11 h)
  intro h a b
  by_cases e:h=g
  ·subst e;rw [gg];intro c;obtain ⟨t1,t2,t3,t4,t5,t6,t7,t8,t9⟩:=M.cx c;rw [t4,gp];exact ⟨t1,t2,t3,t5,t6,M.pg,t7.1,t7.2.1,t8,t7.2.2,t9⟩
  ·have hp:=pt h e;rw [hp.place,hp.hold];intro c;obtain ⟨t1,t2,t3,t4,t5,t6,_⟩:=I.cl h a b c;obtain ⟨k1,k2,k3⟩:=key h a b e c;exact ⟨t1,t2,(hp.holds _).2 t3,t4,t5,t6,k1.1,k1.2.1,k2,k1.2.2,k3⟩
 ·have old:∀ h,h≠g→(iO G p y g x h).place=(G h).place∧(iO G p y g x h).hold=(G h).hold:=fun h e=>⟨(pt h e).place,(pt h e).hold⟩
  have one:∀ k,0≤k→k < n→k≠g→c7 (G k)→c7 x→(S x.hold).g≠(S (G k).hold).g:=by
   intro k a b e c cx e2;obtain ⟨t1,t2,t3,t4,t5,t6,t7,t8,t9⟩:=M.cx cx;rw [t4] at e2;obtain ⟨_,_,_,_,_,_,s7,s8,_,pE,_⟩:=I.cl k a b c;rw [← e2] at s7 s8 pE;exact (M.cp k a b e c e2.symm ⟨s7,s8,pE⟩).2 cx
  intro h k a b c d e f e3
  by_cases eh:h=g
  ·by_cases ek:k=g
   ·rw [eh,ek]
   ·rw [eh,gg] at e e3;rw [(old k ek).1] at f;rw [(old k ek).2] at e3;exact absurd e3 (one k c d ek f e)
  ·by_cases ek:k=g
   ·rw [ek,gg] at f e3;rw [(old h eh).1] at e;rw [(old h eh).2] at e3;exact absurd e3.symm (one h a b eh e f)
   ·rw [(old k ek).1] at f;rw [(old h eh).1] at e;rw [(old h eh).2,(old k ek).2] at e3;exact I.sA h k a b c d e f e3
 ·have wo:∀ h,h≠g→(iO G p y g x h).ak=(G h).ak:=fun h e=>(pt h e).ak
  have wk:∀ h,0≤h→h < n→∀ q∈(G h).ak,lM (G q):=fun h a b q hq=>(I.wk h a b q hq).2
  suffices H:∀ h,0≤h→h < n→∀ q∈(iO G p y g x h).ak,q≠h∧lM (iO G p y g x q) from H
  intro h a b q hq
  by_cases e:h=g
  ·subst e;rw [gg] at hq;have zI:q≠h:=fun e=>M.Vq (e ▸ hq)
   refine ⟨zI,?_⟩
   by_cases e2:q=p
   ·subst e2;rw [gp];exact M.wp hq
   ·rw [gh zI e2];rcases M.wx q hq with h1 | h1
    ·exact wk h a b q h1
    ·exact absurd h1.1 e2
  ·rw [wo h e] at hq;have w0:=wk h a b q hq;refine ⟨(I.wk h a b q hq).1,?_⟩
   by_cases e1:q=g
   ·subst e1;rw [gg];exact M.wg w0 ⟨h,a,b,e,hq⟩
   ·by_cases e2:q=p
    ·subst e2;rw [gp];exact M.Vr h a b e hq w0
    ·rw [gh e1 e2];exact w0
 ·have wo:∀ h,h≠g→(iO G p y g x h).ak=(G h).ak:=fun h e=>(pt h e).ak
  have one:∀ k q,0≤k→k < n→k≠g→q∈x.ak→q∈(G k).ak→False:=by
   intro k q a b e h1 h2;rcases M.wx q h1 with h3 | h3
   ·exact e (I.qO k g q a b M.g0 M.g1 h2 h3)
   ·exact h3.2 k a b e (h3.1 ▸ h2)
  intro h k q a b c d e f
  by_cases eh:h=g
  ·by_cases ek:k=g
   ·rw [eh,ek]
   ·rw [eh,gg] at e;rw [wo k ek] at f;exact (one k q c d ek e f).elim
  ·by_cases ek:k=g
   ·rw [ek,gg] at f;rw [wo h eh] at e;exact (one h q a b eh f e).elim
   ·rw [wo h eh] at e;rw [wo k ek] at f;exact I.qO h k q a b c d e f
 ·intro i a b;have:=I.su i a b;exact ⟨this.1,this.2.1,this.2.2.1,fun h=>(ow _ _).2 (this.2.2.2 h)⟩
 ·intro i a b;exact (ow _ _).2 (I.lv i a b)
end
end Sx
namespace Sx
section
variable {n nc ns:Int} {G:Int→Gr} {C:Int→Cn} {S:Int→Su} {P:Int→Prop}
theorem Match.tS {x:Gr} {i:Int} {d e:Su} (h:Match x i d) (h1:e.cs=d.cs) (h2:e.ch=d.ch) (h3:e.send=d.send):Match x i e:=by
 unfold Match at *;rw [h1,h2,h3];exact h
theorem Inv.Vt (I:Inv n nc ns G C S P) {S':Int→Su} (h:∀ i,(S' i).g=(S i).g∧(S' i).ch=(S i).ch∧(S' i).cs=(S i).cs∧(S' i).send=(S i).send∧(S' i).live=(S i).live):Inv n nc ns G C S' P:=by
 constructor
 ·exact I.loc
 ·exact I.jS
 ·exact I.jD
 ·exact I.cap
 ·intro g a b i hi;obtain ⟨t1,t2,t3,t4⟩:=I.own g a b i hi;exact ⟨t1,t2.tS (h i).2.2.1 (h i).2.1 (h i).2.2.2.1,by rw [(h i).1];exact t3,t4⟩
 ·intro ch a b i hi;rw [(h i).1,(h i).2.1,(h i).2.2.1,(h i).2.2.2.1];exact I.q ch a b i hi
 ·exact I.nd
 ·intro k a b;rw [(h _).2.1,(h _).2.2.1];exact I.cU k a b
 ·intro k a b;rw [(h _).1,(h _).2.1];exact I.cl k a b
 ·intro k l a b c d;rw [(h _).1,(h _).1];exact I.sA k l a b c d
 ·exact I.wk
 ·exact I.qO
 ·intro i a b;rw [(h i).1,(h i).2.2.1,(h i).2.2.2.2];exact I.su i a b
 ·intro i a b;rw [(h i).1];exact I.lv i a b
theorem Inv.LH (I:Inv n nc ns G C S P) {ch i:Int} (a:1≤ch) (b:ch≤nc) (h:i∈(C ch).recv∨i∈(C ch).send):P i:=by
 obtain ⟨_,_,_,_,_,t6,t7,t8,_⟩:=I.q ch a b i h;exact (I.own _ t6 t7 i t8).2.2.2
theorem Inv.Vu (I:Inv n nc ns G C S P) {h:Int} (a:0≤h) (b:h < n) (c:cQ (G h)):P (G h).hold:=by
 obtain ⟨t1,t2,_,t4,_⟩:=I.cU h a b c;exact I.LH t1 t2 t4
theorem Inv.F0 (I:Inv n nc ns G C S P) {h:Int} (a:0≤h) (b:h < n) (c:c7 (G h)):P (G h).hold:=by
 obtain ⟨_,_,_,t4,t5,_,_,_,t9,_⟩:=I.cl h a b c;exact (I.own _ t4 t5 _ t9).2.2.2
theorem Inv.take (I:Inv n nc ns G C S P) {g i:Int} {x:Gr} {d:Su} (g0:0≤g) (g1:g < n) (i0:0≤i) (i1:i < ns) (hP:¬ P i) (lx:Loc nc ns n x) (hh:∀ ch,bH x ch↔bH (G g) ch)
  (ow:∀ j,Own x j↔Own (G g) j∨j=i) (mt:∀ j,Own (G g) j→Match x j (S j)) (md:Match x i d) (dg:d.g=g) (nq:∀ j k,¬ dI (G g) j k) (nw:¬ cQ x) (pF:¬ c7 x) (wk:x.ak=(G g).ak) (wt:¬ Wt (G g)) :
  Inv n nc ns (up G g x) C (up S i d) (fun j=>P j∨j=i):=by
 have gg:=iF G g x;have gh:∀ {h},h≠g→up G g x h=G h:=fun a=>jd G x a
 have ss:=iF S i d;have sh:∀ {h},h≠i→up S i d h=S h:=fun a=>jd S d a
 have Vv:∀ h,0≤h→h < n→¬ Own (G h) i:=fun h a b ho=>hP (I.own h a b i ho).2.2.2
 have zJ:∀ h,0≤h→h < n→∀ j,Own (G h) j→Own (up G g x h) j:=by
  intro h a b j hj
  by_cases e:h=g
  ·subst e;rw [gg];exact (ow j).2 (.inl hj)
  ·rw [gh e];exact hj
 constructor
 ·intro h a b
  by_cases e:h=g
  ·subst e;rw [gg];exact lx
  ·rw [gh e];exact I.loc h a b
 ·exact I.jS
 ·intro h a b ch c1 c2
  by_cases e:h=g
  ·subst e;rw [gg,hh];exact I.jD h a b ch c1 c2
  ·rw [gh e];exact I.jD h a b ch c1 c2
 ·exact I.cap
 ·intro h a b j hj
  by_cases e:h=g
  ·subst e;rw [gg] at hj ⊢
   by_cases e2:j=i
   ·subst e2;rw [ss];exact ⟨i1,md,dg,.inr rfl⟩
   ·have mE:=((ow j).1 hj).resolve_right e2;rw [sh e2];obtain ⟨t1,t2,t3,t4⟩:=I.own h a b j mE;exact ⟨t1,mt j mE,t3,.inl t4⟩
  ·rw [gh e] at hj ⊢;have e2:j≠i:=fun e2=>Vv h a b (e2 ▸ hj)
   rw [sh e2];obtain ⟨t1,t2,t3,t4⟩:=I.own h a b j hj;exact ⟨t1,t2,t3,.inl t4⟩
 ·intro ch a b j hj;have e2:j≠i:=fun e2=>hP (I.LH a b (e2 ▸ hj))
  rw [sh e2];obtain ⟨t1,t2,t3,t4,t5,t6,t7,t8,t9⟩:=I.q ch a b j hj;have e:(S j).g≠g:=fun e=>nq _ _ (e ▸ t9)
  rw [gh e];exact ⟨t1,t2,t3,t4,t5,t6,t7,t8,t9⟩
 ·exact I.nd
 ·intro h a b
  by_cases e:h=g
  ·subst e;rw [gg];exact fun c=>absurd c nw
  ·rw [gh e];intro c;rw [sh (fun e2=>hP (e2 ▸ I.Vu a b c))];exact I.cU h a b c
 ·intro h a b
  by_cases e:h=g
  ·subst e;rw [gg];exact fun c=>absurd c pF
  ·rw [gh e];intro c;rw [sh (fun e2=>hP (e2 ▸ I.F0 a b c))];have:=I.cl h a b c;have e3:(S (G h).hold).g≠g:=fun e3=>wt (e3 ▸ this.2.2.2.2.2.2.1)
   rw [gh e3];exact this
 ·intro h k a b c d' e f
  by_cases eh:h=g
  ·subst eh;rw [gg] at e;exact absurd e pF
  ·by_cases ek:k=g
   ·subst ek;rw [gg] at f;exact absurd f pF
   ·rw [gh eh] at e ⊢;rw [gh ek] at f ⊢;rw [sh (fun e2=>hP (e2 ▸ I.F0 a b e)),sh (fun e2=>hP (e2 ▸ I.F0 c d' f))];exact I.sA h k a b c d' e f
 ·have wo:∀ h,(up G g x h).ak=(G h).ak:=by
   intro h;by_cases e:h=g
   ·subst e;rw [gg,wk]
   ·rw [gh e]
  intro h a b p hp;rw [wo] at hp;have:=I.wk h a b p hp;rw [gh (fun e=>wt (e ▸ this.2.1))];exact this
 ·have wo:∀ h,(up G g x h).ak=(G h).ak:=by
   intro h;by_cases e:h=g
   ·subst e;rw [gg,wk]
   ·rw [gh e]
  intro h k p a b c d e f;rw [wo] at e f;exact I.qO h k p a b c d e f
 ·intro j a b
  by_cases e:j=i
  ·subst e;rw [ss,dg,gg];refine ⟨g0,g1,?_,fun _=>(ow j).2 (.inr rfl)⟩;rcases md with md | md
   ·omega
   ·omega
  ·rw [sh e];obtain ⟨t1,t2,t3,t4⟩:=I.su j a b;exact ⟨t1,t2,t3,fun hl=>zJ _ t1 t2 _ (t4 hl)⟩
 ·intro j hj b
  by_cases e:j=i
  ·subst e;rw [ss,dg,gg];exact (ow j).2 (.inr rfl)
  ·rw [sh e];have mE:=hj.resolve_right e;exact zJ _ (I.su j b.1 b.2).1 (I.su j b.1 b.2).2.1 _ (I.lv j mE b)
theorem Inv.cy (I:Inv n nc ns G C S P) {g i:Int} {x:Gr} (g0:0≤g) (g1:g < n) (hi:Own (G g) i) (lx:Loc nc ns n x) (hh:∀ ch,bH x ch↔bH (G g) ch)
  (ow:∀ j,Own x j↔Own (G g) j∧j≠i) (mt:∀ j,Own x j→Match x j (S j)) (nq:∀ j k,¬ dI (G g) j k) (nw:¬ cQ x) (pF:¬ c7 x) (wk:x.ak=(G g).ak) (wt:¬ Wt (G g)) :
  Inv n nc ns (up G g x) C (up S i fB) (fun j=>P j∧j≠i):=by
 have gg:=iF G g x;have gh:∀ {h},h≠g→up G g x h=G h:=fun a=>jd G x a
 have ss:=iF S i fB;have sh:∀ {h},h≠i→up S i fB h=S h:=fun a=>jd S fB a
 have sig:=(I.own g g0 g1 i hi).2.2.1;have vt:∀ ch,1≤ch→ch≤nc→¬ (i∈(C ch).recv∨i∈(C ch).send):=by
  intro ch a b h;have:=(I.q ch a b i h).2.2.2.2.2.2.2.2;rw [sig] at this;exact nq _ _ this
 have Vw:∀ h,0≤h→h < n→cQ (G h)→(G h).hold≠i:=by
  intro h a b c e;obtain ⟨t1,t2,_,t4,_⟩:=I.cU h a b c;exact vt _ t1 t2 (e ▸ t4)
 have F6:∀ h,0≤h→h < n→c7 (G h)→(G h).hold≠i:=by
  intro h a b c e;obtain ⟨_,_,_,_,_,_,t7,_⟩:=I.cl h a b c;rw [e,sig] at t7;exact wt t7
 have zJ:∀ h,∀ j,j≠i→Own (G h) j→Own (up G g x h) j:=by
  intro h j e2 hj
  by_cases e:h=g
  ·subst e;rw [gg];exact (ow j).2 ⟨hj,e2⟩
  ·rw [gh e];exact hj
 constructor
 ·intro h a b
  by_cases e:h=g
  ·subst e;rw [gg];exact lx
  ·rw [gh e];exact I.loc h a b
 ·exact I.jS
 ·intro h a b ch c1 c2
  by_cases e:h=g
  ·subst e;rw [gg,hh];exact I.jD h a b ch c1 c2
  ·rw [gh e];exact I.jD h a b ch c1 c2
 ·exact I.cap
 ·intro h a b j hj;have e2:j≠i:=by
   intro e2;subst e2
   by_cases e:h=g
   ·subst e;rw [gg] at hj;exact ((ow j).1 hj).2 rfl
   ·rw [gh e] at hj;exact e ((I.own h a b j hj).2.2.1.symm.trans sig)
  rw [sh e2]
  by_cases e:h=g
  ·subst e;rw [gg] at hj ⊢;obtain ⟨t1,t2,t3,t4⟩:=I.own h a b j ((ow j).1 hj).1;exact ⟨t1,mt j hj,t3,t4,e2⟩
  ·rw [gh e] at hj ⊢;obtain ⟨t1,t2,t3,t4⟩:=I.own h a b j hj;exact ⟨t1,t2,t3,t4,e2⟩
 ·intro ch a b j hj;have e2:j≠i:=fun e2=>vt ch a b (e2 ▸ hj)
  rw [sh e2];obtain ⟨t1,t2,t3,t4,t5,t6,t7,t8,t9⟩:=I.q ch a b j hj;have e:(S j).g≠g:=fun e=>nq _ _ (e ▸ t9)
  rw [gh e];exact ⟨t1,t2,t3,t4,t5,t6,t7,t8,t9⟩
 ·exact I.nd
 ·intro h a b
  by_cases e:h=g
  ·subst e;rw [gg];exact fun c=>absurd c nw
  ·rw [gh e];intro c;rw [sh (Vw h a b c)];exact I.cU h a b c
 ·intro h a b
  by_cases e:h=g
  ·subst e;rw [gg];exact fun c=>absurd c pF
  ·rw [gh e];intro c;rw [sh (F6 h a b c)];have:=I.cl h a b c;have e3:(S (G h).hold).g≠g:=fun e3=>wt (e3 ▸ this.2.2.2.2.2.2.1)
   rw [gh e3];exact this
 ·intro h k a b c d' e f
  by_cases eh:h=g
  ·subst eh;rw [gg] at e;exact absurd e pF
  ·by_cases ek:k=g
   ·subst ek;rw [gg] at f;exact absurd f pF
   ·rw [gh eh] at e ⊢;rw [gh ek] at f ⊢;rw [sh (F6 h a b e),sh (F6 k c d' f)];exact I.sA h k a b c d' e f
 ·have wo:∀ h,(up G g x h).ak=(G h).ak:=by
   intro h;by_cases e:h=g
   ·subst e;rw [gg,wk]
   ·rw [gh e]
  intro h a b p hp;rw [wo] at hp;have:=I.wk h a b p hp;rw [gh (fun e=>wt (e ▸ this.2.1))];exact this
 ·have wo:∀ h,(up G g x h).ak=(G h).ak:=by
   intro h;by_cases e:h=g
   ·subst e;rw [gg,wk]
   ·rw [gh e]
  intro h k p a b c d e f;rw [wo] at e f;exact I.qO h k p a b c d e f
 ·intro j a b
  by_cases e:j=i
  ·subst e;rw [ss];exact ⟨by simp [fB],by simp only [fB];omega,by simp [fB],by simp [fB]⟩
  ·rw [sh e];obtain ⟨t1,t2,t3,t4⟩:=I.su j a b;exact ⟨t1,t2,t3,fun hl=>zJ _ _ e (t4 hl)⟩
 ·intro j hj b;rw [sh hj.2];exact zJ _ _ hj.2 (I.lv j hj.1 b)
theorem Inv.push (I:Inv n nc ns G C S P) {g i:Int} {x:Gr} {c:Int} {c':Cn} (g0:0≤g) (g1:g < n) (hi:Own (G g) i) (c0:1≤c) (c1:c≤nc) (sc:(S i).ch=c) (lx:Loc nc ns n x) (hh:∀ ch,bH x ch↔bH (G g) ch)
  (ow:∀ j,Own x j↔Own (G g) j) (mt:∀ j,Own x j→Match x j (S j)) (nq:¬ dI (G g) i (S i).cs) (qx:∀ j k,dI (G g) j k→dI x j k) (qi:dI x i (S i).cs) (nw:¬ cQ x) (pF:¬ c7 x) (wk:x.ak=(G g).ak) (wt:¬ Wt (G g))
  (e1:c'.lock=(C c).lock) (e2:c'.cap=(C c).cap) (e3:c'.buf=(C c).buf) (er:c'.recv=if (S i).send=true then (C c).recv else (C c).recv ++ [i]) (es:c'.send=if (S i).send=true then (C c).send ++ [i] else (C c).send) :
  Inv n nc ns (up G g x) (up C c c') S P:=by
 have gg:=iF G g x;have gh:∀ {h},h≠g→up G g x h=G h:=fun a=>jd G x a
 have cc:=iF C c c';have xe:∀ {h},h≠c→up C c c' h=C h:=fun a=>jd C c' a
 obtain ⟨dY,fo,sig,hi4⟩:=I.own g g0 g1 i hi;have vt:¬ (i∈(C c).recv∨i∈(C c).send):=by
  intro h;have:=(I.q c c0 c1 i h).2.2.2.2.2.2.2.2;rw [sig] at this;exact nq this
 have B3:∀ h j,Own (up G g x h) j↔Own (G h) j:=by
  intro h j
  by_cases e:h=g
  ·subst e;rw [gg,ow]
  ·rw [gh e]
 have lock:∀ ch,(up C c c' ch).lock=(C ch).lock:=by
  intro ch;by_cases e:ch=c
  ·subst e;rw [cc,e1]
  ·rw [xe e]
 have LI:∀ ch j,j∈(up C c c' ch).recv∨j∈(up C c c' ch).send→(j∈(C ch).recv∨j∈(C ch).send)∨j=i∧ch=c:=by
  intro ch j
  by_cases e:ch=c
  ·subst e;rw [cc,er,es]
   split
   ·rintro (h | h)
    ·exact .inl (.inl h)
    ·rcases List.mem_append.1 h with h | h
     ·exact .inl (.inr h)
     ·exact .inr ⟨List.mem_singleton.1 h,rfl⟩
   ·rintro (h | h)
    ·rcases List.mem_append.1 h with h | h
     ·exact .inl (.inl h)
     ·exact .inr ⟨List.mem_singleton.1 h,rfl⟩
    ·exact .inl (.inr h)
  ·rw [xe e];exact .inl
 have LJ:∀ ch j,j≠i→(j∈(up C c c' ch).recv↔j∈(C ch).recv)∧(j∈(up C c c' ch).send↔j∈(C ch).send):=by
  intro ch j ne
  by_cases e:ch=c
  ·subst e;rw [cc,er,es]
   split <;> simp [ne]
  ·rw [xe e];exact ⟨Iff.rfl,Iff.rfl⟩
 have LL:∀ ch j,(j∈(C ch).recv→j∈(up C c c' ch).recv)∧(j∈(C ch).send→j∈(up C c c' ch).send):=by
  intro ch j
  by_cases e:ch=c
  ·subst e;rw [cc,er,es]
   split <;> constructor <;> intro h <;> simp [h]
  ·rw [xe e];exact ⟨id,id⟩
 constructor
 ·intro h a b
  by_cases e:h=g
  ·subst e;rw [gg];exact lx
  ·rw [gh e];exact I.loc h a b
 ·intro ch a b;rw [lock];exact I.jS ch a b
 ·intro h a b ch c1 c2;rw [lock]
  by_cases e:h=g
  ·subst e;rw [gg,hh];exact I.jD h a b ch c1 c2
  ·rw [gh e];exact I.jD h a b ch c1 c2
 ·intro ch a b
  by_cases e:ch=c
  ·subst e;rw [cc,e2,e3];exact I.cap ch a b
  ·rw [xe e];exact I.cap ch a b
 ·intro h a b j hj;rw [B3] at hj;obtain ⟨t1,t2,t3,t4⟩:=I.own h a b j hj;refine ⟨t1,?_,t3,t4⟩
  by_cases e:h=g
  ·subst e;rw [gg];exact mt j ((ow j).2 hj)
  ·rw [gh e];exact t2
 ·intro ch a b j hj
  by_cases ej:j=i
  ·subst ej;have hc:ch=c:=by
    rcases LI ch j hj with h | h
    ·exact (I.q ch a b j h).2.2.1.symm.trans sc
    ·exact h.2
   subst hc;rw [sig,gg,cc,er,es];refine ⟨hi.1,dY,sc,?_,?_,g0,g1,(ow j).2 hi,qi⟩
   ·intro e;rw [if_neg (by simp [e]),if_neg (by simp [e])];exact ⟨by simp,fun h=>vt (.inr h)⟩
   ·intro e;rw [if_pos e,if_pos e];exact ⟨by simp,fun h=>vt (.inl h)⟩
  ·rcases LI ch j hj with h | h
   ·obtain ⟨t1,t2,t3,t4,t5,t6,t7,t8,t9⟩:=I.q ch a b j h;have mr:=LJ ch j ej;refine ⟨t1,t2,t3,?_,?_,t6,t7,(B3 _ _).2 t8,?_⟩
    ·rw [mr.1,mr.2];exact t4
    ·rw [mr.1,mr.2];exact t5
    ·by_cases e:(S j).g=g
     ·rw [e,gg];exact qx _ _ (e ▸ t9)
     ·rw [gh e];exact t9
   ·exact absurd h.1 ej
 ·intro ch a b
  by_cases e:ch=c
  ·subst e;rw [cc,er,es];have:=I.nd ch a b;have n1:i∉(C ch).recv:=fun h=>vt (.inl h)
   have n2:i∉(C ch).send:=fun h=>vt (.inr h)
   split
   ·exact ⟨this.1,List.nodup_append.2 ⟨this.2,by simp,fun y hy z hz=>by rw [List.mem_singleton.1 hz];exact fun e=>n2 (e ▸ hy)⟩⟩
   ·exact ⟨List.nodup_append.2 ⟨this.1,by simp,fun y hy z hz=>by rw [List.mem_singleton.1 hz];exact fun e=>n1 (e ▸ hy)⟩,this.2⟩
  ·rw [xe e];exact I.nd ch a b
 ·intro h a b
  by_cases e:h=g
  ·subst e;rw [gg];exact fun c=>absurd c nw
  ·rw [gh e];intro cw;obtain ⟨t1,t2,t3,t4,t5⟩:=I.cU h a b cw;exact ⟨t1,t2,t3,t4.imp (LL _ _).1 (LL _ _).2,t5⟩
 ·intro h a b
  by_cases e:h=g
  ·subst e;rw [gg];exact fun c=>absurd c pF
  ·rw [gh e];intro cw;have:=I.cl h a b cw;have e3:(S (G h).hold).g≠g:=fun e3=>wt (e3 ▸ this.2.2.2.2.2.2.1)
   rw [gh e3];obtain ⟨t1,t2,t3,t4,t5,t6,t7,t8,t9,t10,t11⟩:=this;refine ⟨t1,t2,t3,t4,t5,t6,t7,t8,t9,t10,fun hs=>?_⟩;have ne:(G h).hold≠i:=fun e4=>e3 (by rw [e4];exact sig)
   have mr:=LJ (S (G h).hold).ch (G h).hold ne;rw [mr.1,mr.2];exact t11 hs
 ·intro h k a b c d' e f
  by_cases eh:h=g
  ·subst eh;rw [gg] at e;exact absurd e pF
  ·by_cases ek:k=g
   ·subst ek;rw [gg] at f;exact absurd f pF
   ·rw [gh eh] at e ⊢;rw [gh ek] at f ⊢;exact I.sA h k a b c d' e f
 ·have wo:∀ h,(up G g x h).ak=(G h).ak:=by
   intro h;by_cases e:h=g
   ·subst e;rw [gg,wk]
   ·rw [gh e]
  intro h a b p hp;rw [wo] at hp;have:=I.wk h a b p hp;rw [gh (fun e=>wt (e ▸ this.2.1))];exact this
 ·have wo:∀ h,(up G g x h).ak=(G h).ak:=by
   intro h;by_cases e:h=g
   ·subst e;rw [gg,wk]
   ·rw [gh e]
  intro h k p a b c d e f;rw [wo] at e f;exact I.qO h k p a b c d e f
 ·intro j a b;obtain ⟨t1,t2,t3,t4⟩:=I.su j a b;exact ⟨t1,t2,t3,fun hl=>(B3 _ _).2 (t4 hl)⟩
 ·intro j hj b;exact (B3 _ _).2 (I.lv j hj b)
theorem Loc.mono {x:Gr} (h:Loc nc ns n x) (e:nc≤nc + 1):Loc (nc + 1) ns n x:=by
 obtain ⟨a1,a2,a3,a4,a5,a6,a7,a8,a9,iA,jy,mY,pG,pH,pI,nQ,qP,qQ,pJ,pK,sB,pM⟩:=h;refine ⟨a1,a2,a3,a4,a5,fun h1 h2 h3 h4 h5=>⟨(a6 h1 h2 h3 h4 h5).1,by have:=(a6 h1 h2 h3 h4 h5).2;omega⟩,a7,a8,a9,iA,jy,mY,pG,pH,pI,nQ,qP,qQ,pJ,pK,sB,fun h1 h2=>?_⟩;obtain ⟨b1,b2,b3,b4,b5,b6,b7,b8,b9,lN,pN,sC,xg,zK,zL,xj,zM,xk,xl,zN⟩:=pM h1 h2;exact ⟨b1,b2,b3,fun c hc=>⟨(b4 c hc).1,by have:=(b4 c hc).2;omega⟩,b5,b6,b7,b8,b9,lN,pN,sC,xg,zK,zL,xj,zM,xk,xl,zN⟩
end
end Sx
namespace Sx
section
variable {n nc ns:Int} {G:Int→Gr} {C:Int→Cn} {S:Int→Su} {P:Int→Prop}
theorem Inv.tS (I:Inv n nc ns G C S P) {G':Int→Gr} {C':Int→Cn} {S':Int→Su} {P':Int→Prop} (hG:∀ g,0≤g→g < n→G' g=G g) (hC:∀ c,1≤c→c≤nc→C' c=C c) (hS:∀ i,0≤i→i < ns→S' i=S i) (hP:∀ i,0≤i→i < ns→(P' i↔P i)):Inv n nc ns G' C' S' P':=by
 have hd:∀ h,0≤h→h < n→cQ (G h)∨c7 (G h)→S' (G h).hold=S (G h).hold:=by
  intro h a b c;have:=(I.loc h a b).hd (by unfold cQ c7 at c;omega);exact hS _ this.1 this.2
 constructor
 ·intro h a b;rw [hG h a b];exact I.loc h a b
 ·intro ch a b;rw [hC ch a b];exact I.jS ch a b
 ·intro h a b ch c d;rw [hG h a b,hC ch c d];exact I.jD h a b ch c d
 ·intro ch a b;rw [hC ch a b];exact I.cap ch a b
 ·intro h a b i;rw [hG h a b];intro hi;obtain ⟨t1,t2,t3,t4⟩:=I.own h a b i hi;rw [hS i hi.1 t1];exact ⟨t1,t2,t3,(hP i hi.1 t1).2 t4⟩
 ·intro ch a b i;rw [hC ch a b];intro hi;obtain ⟨t1,t2,t3,t4,t5,t6,t7,t8,t9⟩:=I.q ch a b i hi;rw [hS i t1 t2,hG _ t6 t7];exact ⟨t1,t2,t3,t4,t5,t6,t7,t8,t9⟩
 ·intro ch a b;rw [hC ch a b];exact I.nd ch a b
 ·intro h a b;rw [hG h a b];intro c;obtain ⟨t1,t2,t3,t4,t5⟩:=I.cU h a b c;rw [hd h a b (.inl c),hC _ t1 t2];exact ⟨t1,t2,t3,t4,t5⟩
 ·intro h a b;rw [hG h a b];intro c;obtain ⟨t1,t2,t3,t4,t5,t6⟩:=I.cl h a b c;rw [hd h a b (.inr c),hC _ t1 t2,hG _ t4 t5];exact ⟨t1,t2,t3,t4,t5,t6⟩
 ·intro h k a b c d;rw [hG h a b,hG k c d];intro e f;rw [hd h a b (.inr e),hd k c d (.inr f)];exact I.sA h k a b c d e f
 ·intro h a b;rw [hG h a b];intro p hp;have:=(I.loc h a b).w3 p hp;rw [hG p this.1 this.2];exact I.wk h a b p hp
 ·intro h k p a b c d;rw [hG h a b,hG k c d];exact I.qO h k p a b c d
 ·intro i a b;obtain ⟨t1,t2,t3,t4⟩:=I.su i a b;rw [hS i a b,hG _ t1 t2];exact ⟨t1,t2,t3,t4⟩
 ·intro i hi b;have:=I.lv i ((hP i b.1 b.2).1 hi) b;rw [hS i b.1 b.2,hG _ (I.su i b.1 b.2).1 (I.su i b.1 b.2).2.1];exact this
theorem Inv.self (I:Inv n nc ns G C S P) {g:Int} {x:Gr} (g0:0≤g) (g1:g < n) (lx:Loc nc ns n x) (hh:∀ ch,bH x ch↔bH (G g) ch) (ow:∀ i,Own x i↔Own (G g) i) (mt:∀ i d,Own x i→Match (G g) i d→Match x i d)
  (qx:∀ i j,dI (G g) i j→dI x i j) (wn:cQ x→1≤(S x.hold).ch∧(S x.hold).ch≤nc∧bH x (S x.hold).ch∧(x.hold∈(C (S x.hold).ch).recv∨x.hold∈(C (S x.hold).ch).send)∧0≤(S x.hold).cs)
  (gP:¬ c7 x) (wx:∀ q∈x.ak,q∈(G g).ak) (wg:lM (G g)→lM x) (cg:mX (G g)→mX x∧(SR x→SR (G g))):Inv n nc ns (up G g x) C S P:=by
 have M:Move n nc ns G C S g n x (G n) C:=by
  refine ⟨g0,g1,by omega,lx,fun _ h=>by omega,Part.refl _,I.jS,fun ch a b=>by rw [hh];exact I.jD g g0 g1 ch a b,fun _ _ _ _ _ _ _=>Iff.rfl,I.cap,ow,fun i hi=>mt i _ hi (I.own g g0 g1 i ((ow i).1 hi)).2.1,fun _ _ _=>⟨List.Sublist.refl _,List.Sublist.refl _⟩,fun _ _ _ _=>⟨rfl,rfl⟩,fun _ _ _ _ _ _=>qx _ _,fun _ _ _ _ _ _=>id,wn,fun h=>absurd h gP,fun _ _ _ _ _ _=>cg,fun k a b _ c e=>?_,fun q hq=>.inl (wx q hq),fun h _=>wg h,fun h=>(I.wk g g0 g1 g (wx g h)).1 rfl,fun h=>?_,fun k a b _ hk=>?_⟩
  ·have:=(I.cl k a b c).2.2.2.2.1;omega
  ·have:=(I.loc g g0 g1).w3 n (wx n h);omega
  ·have:=(I.loc k a b).w3 n hk;omega
 refine (I.move M).tS (fun h a b=>?_) (fun _ _ _=>rfl) (fun _ _ _=>rfl) (fun _ _ _=>Iff.rfl)
 by_cases e:h=g
 ·subst e;rw [iF,FY]
 ·rw [jd _ _ e,FZ _ _ _ e (by omega)]
end
def gA (s:ah) (g:Int):Gr:=aa s g.toNat
def V (s:ah):Prop:=Inv s.gs.length s.au.length s.aB.length (gA s) (cn s) (su s) (fun i=>gX s i=true)
end Sx
namespace Sx
section
variable {n nc ns:Int} {G:Int→Gr} {C:Int→Cn} {S:Int→Su} {P:Int→Prop}
structure jT (n:Int) (C:Int→Cn) (g:Int) (x0 x:Gr) (c:Int) (c':Cn):Prop where
 lock:c'.lock=(C c).lock∧(∀ ch,bH x ch↔bH x0 ch)∨(C c).lock=-1∧c'.lock=g∧(∀ ch,bH x ch↔bH x0 ch∨ch=c)∨bH x0 c∧c'.lock=-1∧(∀ ch,bH x ch↔bH x0 ch∧ch≠c)
 cap:0≤c'.cap∧c'.cap≤4∧(c'.buf.length:Int)≤c'.cap
 sub:c'.recv.Sublist (C c).recv∧c'.send.Sublist (C c).send
 hq:c'.recv=(C c).recv∧c'.send=(C c).send∨bH x0 c
theorem jT.jS (I:Inv n nc ns G C S P) {g:Int} (g0:0≤g) (g1:g < n) {x:Gr} {c:Int} {c':Cn} (h:jT n C g (G g) x c c') (ch:Int) (a:1≤ch) (b:ch≤nc):(up C c c' ch).lock=-1∨0≤(up C c c' ch).lock∧(up C c c' ch).lock < n:=by
 by_cases e:ch=c
 ·subst e;rw [iF];rcases h.lock with l | l | l
  ·rw [l.1];exact I.jS ch a b
  ·rw [l.2.1];omega
  ·exact .inl l.2.1
 ·rw [jd _ _ e];exact I.jS ch a b
theorem jT.zG (I:Inv n nc ns G C S P) {g:Int} (g0:0≤g) (g1:g < n) {x:Gr} {c:Int} {c':Cn} (h:jT n C g (G g) x c c') (ch:Int) (a:1≤ch) (b:ch≤nc):bH x ch↔(up C c c' ch).lock=g:=by
 have:=I.jD g g0 g1 ch a b
 by_cases e:ch=c
 ·subst e;rw [iF];rcases h.lock with l | l | l
  ·rw [l.1,l.2];exact this
  ·rw [l.2.1,l.2.2];simp
  ·rw [l.2.1,l.2.2];simp;omega
 ·rw [jd _ _ e,← this];rcases h.lock with l | l | l
  ·rw [l.2]
  ·rw [l.2.2];simp [e]
  ·rw [l.2.2];simp [e]
theorem jT.zH (I:Inv n nc ns G C S P) {g:Int} (g0:0≤g) (g1:g < n) {x:Gr} {c:Int} {c':Cn} (h:jT n C g (G g) x c c') (ch k:Int) (a:1≤ch) (b:ch≤nc) (k0:0≤k) (k1:k < n) (kg:k≠g):(up C c c' ch).lock=k↔(C ch).lock=k:=by
 by_cases e:ch=c
 ·subst e;rw [iF];rcases h.lock with l | l | l
  ·rw [l.1]
  ·rw [l.2.1,l.1];omega
  ·have:=(I.jD g g0 g1 ch a b).1 l.1;rw [l.2.1,this];omega
 ·rw [jd _ _ e]
theorem jT.F7 (I:Inv n nc ns G C S P) {g:Int} {x:Gr} {c:Int} {c':Cn} (h:jT n C g (G g) x c c') (ch:Int) (a:1≤ch) (b:ch≤nc):0≤(up C c c' ch).cap∧(up C c c' ch).cap≤4∧((up C c c' ch).buf.length:Int)≤(up C c c' ch).cap:=by
 by_cases e:ch=c
 ·subst e;rw [iF];exact h.cap
 ·rw [jd _ _ e];exact I.cap ch a b
theorem jT.q1 {g:Int} {x0 x:Gr} {c:Int} {c':Cn} (h:jT n C g x0 x c c') (ch:Int):(up C c c' ch).recv.Sublist (C ch).recv∧(up C c c' ch).send.Sublist (C ch).send:=by
 by_cases e:ch=c
 ·subst e;rw [iF];exact h.sub
 ·rw [jd _ _ e];exact ⟨List.Sublist.refl _,List.Sublist.refl _⟩
theorem jT.q2 {g:Int} {x0 x:Gr} {c:Int} {c':Cn} (h:jT n C g x0 x c c') (ch:Int) (hn:¬ bH x0 ch):(up C c c' ch).recv=(C ch).recv∧(up C c c' ch).send=(C ch).send:=by
 by_cases e:ch=c
 ·subst e;rw [iF];exact h.hq.resolve_right hn
 ·rw [jd _ _ e];exact ⟨rfl,rfl⟩
theorem Inv.chan (I:Inv n nc ns G C S P) {g:Int} {x:Gr} {c:Int} {c':Cn} (g0:0≤g) (g1:g < n) (lx:Loc nc ns n x) (hc:jT n C g (G g) x c c') (ow:∀ i,Own x i↔Own (G g) i) (mt:∀ i d,Own x i→Match (G g) i d→Match x i d)
  (qx:∀ i j,dI (G g) i j→(∀ ch,1≤ch→ch≤nc→i∈(up C c c' ch).recv∨i∈(up C c c' ch).send→dI x i j)) (nw:¬ cQ x)
  (gP:¬ c7 x) (wx:∀ q∈x.ak,q∈(G g).ak) (wg:lM (G g)→lM x) (cg:mX (G g)→mX x∧(SR x→SR (G g))):Inv n nc ns (up G g x) (up C c c') S P:=by
 have M:Move n nc ns G C S g n x (G n) (up C c c'):=by
  refine ⟨g0,g1,by omega,lx,fun _ h=>by omega,Part.refl _,hc.jS I g0 g1,hc.zG I g0 g1,hc.zH I g0 g1,hc.F7 I,ow,fun i hi=>mt i _ hi (I.own g g0 g1 i ((ow i).1 hi)).2.1,fun ch _ _=>hc.q1 ch,fun ch _ _=>hc.q2 ch,fun ch i a b hi _ hq=>qx _ _ hq ch a b hi,fun _ _ _ _ _ _=>id,fun h=>absurd h nw,fun h=>absurd h gP,fun _ _ _ _ _ _=>cg,fun k a b _ c e=>?_,fun q hq=>.inl (wx q hq),fun h _=>wg h,fun h=>(I.wk g g0 g1 g (wx g h)).1 rfl,fun h=>?_,fun k a b _ hk=>?_⟩
  ·have:=(I.cl k a b c).2.2.2.2.1;omega
  ·have:=(I.loc g g0 g1).w3 n (wx n h);omega
  ·have:=(I.loc k a b).w3 n hk;omega
 refine (I.move M).tS (fun h a b=>?_) (fun _ _ _=>rfl) (fun _ _ _=>rfl) (fun _ _ _=>Iff.rfl)
 by_cases e:h=g
 ·subst e;rw [iF,FY]
 ·rw [jd _ _ e,FZ _ _ _ e (by omega)]
theorem Inv.B4 (I:Inv n nc ns G C S P) {ch i:Int} (a:1≤ch) (b:ch≤nc) (h:i∈(C ch).recv∨i∈(C ch).send):0≤i∧i < ns∧(S i).ch=ch∧0≤(S i).g∧(S i).g < n∧Own (G (S i).g) i∧dI (G (S i).g) i (S i).cs∧Match (G (S i).g) i (S i):=by
 obtain ⟨t1,t2,t3,t4,t5,t6,t7,t8,t9⟩:=I.q ch a b i h;exact ⟨t1,t2,t3,t6,t7,t8,t9,(I.own _ t6 t7 i t8).2.1⟩
theorem dI.mZ {x:Gr} {i j:Int} (h:dI x i j) (hs:SE x) (o1:∀ i∈x.order,bU x i∈x.aF) (hj:j∈x.order) (hn:¬ bH x (bU x j)):Wt x∨x.place=31:=by
 rcases h with h | h
 ·have:SR x:=h.1;unfold SR at this;unfold SE at hs;omega
 ·obtain ⟨_,_,_,_,h⟩:=h;have hl:=o1 j hj;rcases h with h | h | h | h | h | h
  ·exact absurd (.inr ⟨hs,.inl ⟨by omega,hl⟩⟩) hn
  ·exact .inl (.inr ⟨hs,.inl h⟩)
  ·exact .inl (.inr ⟨hs,.inr (.inl h)⟩)
  ·exact .inr h
  ·exact .inl (.inr ⟨hs,.inr (.inr h)⟩)
  ·exact absurd (.inr ⟨hs,.inl ⟨by omega,hl⟩⟩) hn
theorem Inv.LM (I:Inv n nc ns G C S P) {ch i g:Int} (a:1≤ch) (b:ch≤nc) (h:i∈(C ch).recv∨i∈(C ch).send) (g0:0≤g) (g1:g < n) (hh:bH (G g) ch) (bG:(S i).g≠g) :
  Wt (G (S i).g)∨SE (G (S i).g)∧(G (S i).g).place=31∧(G (S i).g).aU=true:=by
 obtain ⟨t1,t2,t3,t4,t5,t6,t7,t8⟩:=I.B4 a b h;have L:=I.loc _ t4 t5
 by_cases hs:SE (G (S i).g)
 ·rcases t8 with m | m
  ·exact absurd hs (by have:=m.1;unfold SR at this;unfold SE;omega)
  ·obtain ⟨_,m1,m2,m3,m4,m5,m6,_⟩:=m;have sp:dV (G (S i).g).place:=by
    rcases t7 with q | q
    ·exact absurd hs (by have:=q.1;unfold SR at this;unfold SE;omega)
    ·unfold dV;omega
   have L2:=L.se hs sp;have nh:¬ bH (G (S i).g) (bU (G (S i).g) (S i).cs):=by
    intro hq;rw [← m4,t3,I.jD _ t4 t5 ch a b] at hq;rw [I.jD _ g0 g1 ch a b,hq] at hh;exact bG hh
   rcases t7.mZ hs (fun i hi=>(L2.o1 i hi).2.2) m6 nh with w | w
   ·exact .inl w
   ·exact .inr ⟨hs,w,L2.c2 (by omega)⟩
 ·rcases t7 with q | q
  ·exact .inl (.inl ⟨q.1,q.2.1,q.2.2.1⟩)
  ·exact absurd q.1 hs
end
end Sx
namespace Sx
section
variable {n nc ns:Int} {G:Int→Gr} {C:Int→Cn} {S:Int→Su} {P:Int→Prop}
theorem SR.ne {x:Gr} (h:SR x):¬ SE x:=by unfold SR at h;unfold SE;omega
theorem gN.part {x y:Gr} (p:Part x y) (hp:SE x→x.aU=true→y.aU=true) (hs:SE x) (h:gN nc ns x):gN nc ns y:=by
 obtain ⟨b1,b2,b3,b4,b5,b6,b7,b8,b9,lN,pN,sC,xg,zK,zL,xj,zM,xk,xl,zN⟩:=h;have ho:=p.aH;have hc:∀ j,bU y j=bU x j:=fun j=>by unfold bU;rw [ho]
 constructor <;> simp only [p.order,p.aF,p.ax,p.k,p.place,p.code,ho,hc] <;> try assumption
 exact fun h=>hp hs (xl h)
theorem Loc.part {x y:Gr} (p:Part x y) (L:Loc nc ns n x) (h0:y.status=0∨y.status=1∨y.status=2) (h1:y.status=1→y.place=14∨y.place=19) (h2:y.place=19→y.status=1) (h3:y.status=2→x.status=2)
  (h4:y.token=true→Wt y∧0≤y.param∧y.place≠14) (h5:-1≤y.param∧y.param < ns) (h6:y.place=14→y.status=0→0≤y.param) (h7:0≤y.param→Wt y∧Own y y.param) (h8:0≤y.param→SE y→y.aU=true) (h9:SE x→x.aU=true→y.aU=true):Loc nc ns n y:=by
 obtain ⟨a1,a2,a3,a4,a5,a6,a7,a8,a9,iA,jy,mY,pG,pH,pI,nQ,qP,qQ,pJ,pK,sB,pM⟩:=L;have ho:=p.aH
 constructor <;> (try simp only [p.ops,p.at_,p.place,p.ak,p.hold,p.aI,p.code,ho,p.sr]) <;> try assumption
 ·rw [← p.place];exact h1
 ·rw [← p.place];exact h2
 ·exact fun h=>iA (h3 h)
 ·rw [← p.place];exact h4
 ·rw [← p.place];exact h6
 ·rw [p.se];exact fun h1 h2=>(pM h1 h2).part p h9 h1
theorem Inv.Vx (I:Inv n nc ns G C S P) {g i:Int} {x y:Gr} {c:Int} {c':Cn} (g0:0≤g) (g1:g < n) (lx:Loc nc ns n x) (hc:jT n C g (G g) x c c') (ow:∀ i,Own x i↔Own (G g) i) (mt:∀ i d,Own x i→Match (G g) i d→Match x i d)
  (nq:∀ i j,¬ dI (G g) i j) (nw:¬ cQ x) (wx:∀ q∈x.ak,q∈(G g).ak) (lO:¬ Wt (G g))
  (hx:c7 x) (xi:x.hold=i) (sc:(S i).ch=c) (c0:1≤c) (c1:c≤nc) (xh:bH x c) (hq:i∈(C c).recv∨i∈(C c).send) (py:Part (G (S i).g) y) (e1:y.param=(G (S i).g).param) (e2:y.token=(G (S i).g).token) (e3:y.status=(G (S i).g).status)
  (hp:(S i).cs < 0∧i∉c'.recv∧i∉c'.send∧y.aU=(G (S i).g).aU∨0≤(S i).cs∧(G (S i).g).aU=false∧y.aU=true∧bH (G g) c) :
  Inv n nc ns (iO G (S i).g y g x) (up C c c') S P:=by
 obtain ⟨t1,t2,t3,t4,t5,t6,t7,t8⟩:=I.B4 c0 c1 hq;have bG:(S i).g≠g:=fun e=>nq _ _ (e ▸ t7)
 have L:=I.loc _ t4 t5;have F:Wt (G (S i).g)∧(G (S i).g).param=-1:=by
  rcases hp with hp | hp
  ·rcases t7 with q | q
   ·exact ⟨.inl ⟨q.1,q.2.1,q.2.2.1⟩,q.2.2.2.2⟩
   ·rcases t8 with m | m
    ·exact absurd q.1 m.1.ne
    ·omega
  ·have jU:SE (G (S i).g):=by
    rcases t8 with m | m
    ·omega
    ·exact m.1
   refine ⟨?_,?_⟩
   ·rcases I.LM c0 c1 hq g0 g1 hp.2.2.2 bG with w | w
    ·exact w
    ·rw [hp.2.1] at w;exact absurd w.2.2 (by simp)
   ·by_cases e:0≤(G (S i).g).param
    ·have:=L.p3 e jU;rw [hp.2.1] at this;cases this
    ·have:=L.p0;omega
 have other:∀ k,0≤k→k < n→c7 (G k)→(S (G k).hold).g=(S i).g→False:=by
  intro k a b cl e;obtain ⟨s1,s2,s3,s4,s5,s6,s7,s8,s9,pE,tT⟩:=I.cl k a b cl;rw [e] at s7 s8 s9 pE tT;rcases hp with hp | hp
  ·rcases t8 with m | m
   ·have k1:=tT m.1;have e5:(G k).hold=i:=by
     have m1:=s9.2;have m2:=t6.2;rcases m1 with m1 | m1
     ·rcases m2 with m2 | m2
      ·exact m1.2.2.2.symm.trans m2.2.2.2
      ·exact absurd m2.1 m.1.ne
     ·exact absurd m1.1 m.1.ne
    rw [e5,sc] at k1;rcases hq with hq | hq
    ·exact k1.1 hq
    ·exact k1.2 hq
   ·omega
  ·have jU:SE (G (S i).g):=by
    rcases t8 with m | m
    ·omega
    ·exact m.1
   have:=pE jU;rw [hp.2.1] at this;cases this
 have hw:Wt y:=py.wt.2 F.1;have pk:SE (G (S i).g)→(G (S i).g).aU=true→y.aU=true:=by
  intro _ h;rcases hp with hp | hp
  ·rw [hp.2.2.2];exact h
  ·exact hp.2.2.1
 have ly:Loc nc ns n y:=by
  refine L.part py (by rw [e3];exact L.jC) (by rw [e3,py.place];exact L.B1) (by rw [e3,py.place];exact L.B2) (by rw [e3];exact id) (by rw [e2,e1,py.place,py.wt];exact L.tk) (by rw [e1];exact L.p0) (by rw [e1,e3,py.place];exact L.p1) (by rw [e1,F.2];intro h;omega) (by rw [e1,F.2];intro h;omega) pk
 refine I.move ⟨g0,g1,bG,lx,fun _ _=>ly,py,hc.jS I g0 g1,hc.zG I g0 g1,hc.zH I g0 g1,hc.F7 I,ow,fun i hi=>mt i _ hi (I.own g g0 g1 i ((ow i).1 hi)).2.1,fun ch _ _=>hc.q1 ch,fun ch _ _=>hc.q2 ch,fun ch i a b hi _ hq=>absurd hq (nq _ _),?_,fun h=>absurd h nw,?_,fun _ _ _ _ _ _ h=>absurd h.1 lO,fun k a b _ cl e=>absurd (other k a b cl e) id,fun q hq=>.inl (wx q hq),fun h _=>absurd h.1 lO,fun h=>(I.wk g g0 g1 g (wx g h)).1 rfl,?_,?_⟩
 ·intro ch j _ _ _ _ hq;unfold dI at hq ⊢;rw [py.sr,py.se,py.place,py.aI,e1,py.ax,py.order,py.k,py.code];exact hq
 ·intro _;rw [xi,sc];refine ⟨c0,c1,xh,rfl,t4,t5,⟨hw,by rw [e1];exact F.2,?_⟩,(py.own i).2 t6,?_⟩
  ·intro jU;rcases hp with hp | hp
   ·rcases t8 with m | m
    ·exact absurd (py.se.1 jU) m.1.ne
    ·omega
   ·exact hp.2.2.1
  ·intro tU;rw [iF];rcases hp with hp | hp
   ·exact ⟨hp.2.1,hp.2.2.1⟩
   ·rcases t8 with m | m
    ·omega
    ·exact absurd m.1 (py.sr.1 tU).ne
 ·intro h;have:=(I.wk g g0 g1 _ (wx _ h)).2.2.1;rw [F.2] at this;omega
 ·intro k a b _ _ w;have:=w.2.1;rw [F.2] at this;omega
theorem Inv.serve (I:Inv n nc ns G C S P) {g i:Int} {x y:Gr} {c:Int} {c':Cn} (g0:0≤g) (g1:g < n) (lx:Loc nc ns n x) (hc:jT n C g (G g) x c c') (ow:∀ i,Own x i↔Own (G g) i) (mt:∀ i d,Own x i→Match (G g) i d→Match x i d)
  (nq:∀ i j,¬ dI (G g) i j) (nw:¬ cQ x) (gP:¬ c7 x) (wx:∀ q∈x.ak,q∈(G g).ak∨q=(S i).g) (lO:¬ Wt (G g))
  (sc:(S i).ch=c) (t4:0≤(S i).g) (t5:(S i).g < n) (bG:(S i).g≠g) (F1:Wt (G (S i).g)) (F2:(G (S i).g).param=-1) (F3:Own (G (S i).g) i) (F4:SE (G (S i).g)→y.aU=true) (F5:i∉c'.recv∧i∉c'.send)
  (other:∀ k,0≤k→k < n→k≠g→c7 (G k)→(S (G k).hold).g=(S i).g→False)
  (py:Part (G (S i).g) y) (e1:y.param=i) (e2:y.token=(G (S i).g).token) (e3:y.status=(G (S i).g).status) :
  Inv n nc ns (iO G (S i).g y g x) (up C c c') S P:=by
 have L:=I.loc _ t4 t5;have hw:Wt y:=py.wt.2 F1;have i1:=(I.own _ t4 t5 i F3).1;have tok:(G (S i).g).token=false:=by
  cases h:(G (S i).g).token
  ·rfl
  ·have:=(L.tk h).2.1;rw [F2] at this;omega
 have Vy:(G (S i).g).place=14→(G (S i).g).status≠0:=fun a b=>by have:=L.p1 a b;rw [F2] at this;omega
 have ly:Loc nc ns n y:=by
  refine L.part py (by rw [e3];exact L.jC) (by rw [e3,py.place];exact L.B1) (by rw [e3,py.place];exact L.B2) (by rw [e3];exact id) (by rw [e2,tok];intro h;cases h) (by rw [e1];have:=F3.1;omega) (by rw [e1];exact fun _ _=>F3.1) (by rw [e1];exact fun _=>⟨hw,(py.own i).2 F3⟩) (fun _ h=>F4 (py.se.1 h)) (fun h _=>F4 h)
 have wy:lM y:=⟨hw,by rw [e1];exact F3.1,by rw [e2];exact tok,by rw [py.place,e3];exact Vy⟩
 have none:∀ k,0≤k→k < n→(S i).g∉(G k).ak:=fun k a b h=>by
  have:=(I.wk k a b _ h).2.2.1;rw [F2] at this;omega
 refine I.move ⟨g0,g1,bG,lx,fun _ _=>ly,py,hc.jS I g0 g1,hc.zG I g0 g1,hc.zH I g0 g1,hc.F7 I,ow,fun i hi=>mt i _ hi (I.own g g0 g1 i ((ow i).1 hi)).2.1,fun ch _ _=>hc.q1 ch,fun ch _ _=>hc.q2 ch,fun ch i a b hi _ hq=>absurd hq (nq _ _),?_,fun h=>absurd h nw,fun h=>absurd h gP,fun _ _ _ _ _ _ h=>absurd h.1 lO,fun k a b kg cl e=>absurd (other k a b kg cl e) id,fun q hq=>(wx q hq).imp id (fun e=>⟨e,fun k a b _=>none k a b⟩),fun h _=>absurd h.1 lO,?_,fun _=>wy,fun k a b _ hk=>absurd hk (none k a b)⟩
 ·intro ch j a b hj _ hq;unfold dI at hq ⊢;rw [py.sr,py.se,py.place,py.aI,py.ax,py.order,py.k,py.code];rcases hq with hq | hq
  ·exfalso
   have ej:j=i:=by
    have:=F3.2;rcases this with m | m
    ·exact hq.2.2.2.1.symm.trans m.2.2.2
    ·exact absurd m.1 hq.1.ne
   subst ej;have eP:j∈(C ch).recv∨j∈(C ch).send:=hj.imp (fun h=>(hc.q1 ch).1.subset h) (fun h=>(hc.q1 ch).2.subset h);have:=(I.B4 a b eP).2.2.1;rw [sc] at this;subst this;rw [iF] at hj;rcases hj with hj | hj
   ·exact F5.1 hj
   ·exact F5.2 hj
  ·exact .inr hq
 ·intro h;rcases wx g h with h | h
  ·exact (I.wk g g0 g1 g h).1 rfl
  ·exact bG h.symm
theorem Inv.readies (I:Inv n nc ns G C S P) {g p:Int} {x y:Gr} {l:List Int} (g0:0≤g) (g1:g < n) (lx:Loc nc ns n x) (hh:∀ ch,bH x ch↔bH (G g) ch) (ow:∀ i,Own x i↔Own (G g) i) (mt:∀ i d,Own x i→Match (G g) i d→Match x i d)
  (nq:∀ i j,¬ dI (G g) i j) (nw:¬ cQ x) (gP:¬ c7 x) (hw:(G g).ak=p :: l) (wx:x.ak=l) (lO:¬ Wt (G g)) (py:Part (G p) y) (e1:y.param=(G p).param) (e2:y.aU=(G p).aU)
  (e3:(G p).status=1∧y.status=0∧y.token=(G p).token∨(G p).status=0∧y.status=0∧y.token=true) :
  Inv n nc ns (iO G p y g x) C S P:=by
 have hp:p∈(G g).ak:=by rw [hw];simp
 obtain ⟨k1,k2,k3,k4,k5⟩:=I.wk g g0 g1 p hp;obtain ⟨p0,p1⟩:=(I.loc g g0 g1).w3 p hp;have L:=I.loc p p0 p1;have nd:p∉l:=by have:=(I.loc g g0 g1).w4;rw [hw] at this;exact (List.nodup_cons.1 this).1
 have Vz:(G p).status=1→(G p).place=14:=fun h=>by
  rcases L.B1 h with h | h
  ·exact h
  ·rcases k2 with k | k <;> omega
 have ly:Loc nc ns n y:=by
  refine L.part py ?_ ?_ ?_ ?_ ?_ ?_ ?_ ?_ ?_ ?_
  ·rcases e3 with e | e <;> omega
  ·rcases e3 with e | e <;> omega
  ·rw [py.place];intro h;have:=L.B2 h;have:=Vz this;omega
  ·rcases e3 with e | e <;> omega
  ·rw [py.wt,e1,py.place];intro h;rcases e3 with e | e
   ·rw [e.2.2,k4] at h;cases h
   ·exact ⟨k2,k3,fun h=>k5 h e.1⟩
  ·rw [e1];exact L.p0
  ·rw [e1];exact fun _ _=>k3
  ·rw [e1,py.wt,py.own];exact L.p2
  ·rw [e1,e2,py.se];exact L.p3
  ·rw [e2];exact fun _=>id
 refine I.move ⟨g0,g1,k1,lx,fun _ _=>ly,py,I.jS,fun ch a b=>by rw [hh];exact I.jD g g0 g1 ch a b,fun _ _ _ _ _ _ _=>Iff.rfl,I.cap,ow,fun i hi=>mt i _ hi (I.own g g0 g1 i ((ow i).1 hi)).2.1,fun _ _ _=>⟨List.Sublist.refl _,List.Sublist.refl _⟩,fun _ _ _ _=>⟨rfl,rfl⟩,fun ch i a b hi _ hq=>absurd hq (nq _ _),?_,fun h=>absurd h nw,fun h=>absurd h gP,fun _ _ _ _ _ _ h=>absurd h.1 lO,?_,fun q hq=>.inl (by rw [hw];rw [wx] at hq;exact List.mem_cons_of_mem _ hq),fun h _=>absurd h.1 lO,?_,?_,?_⟩
 ·intro ch j _ _ _ _ hq;unfold dI at hq ⊢;rw [py.sr,py.se,py.place,py.aI,e1,py.ax,py.order,py.k,py.code];exact hq
 ·intro k a b _ cl e w;have:=w.2.1;omega
 ·intro h;rw [wx] at h;exact (I.wk g g0 g1 g (by rw [hw];exact List.mem_cons_of_mem _ h)).1 rfl
 ·intro h;rw [wx] at h;exact absurd h nd
 ·intro k a b e hk _;exact absurd (I.qO k g p a b g0 g1 hk hp) e
end
end Sx
namespace Sx
theorem F8 (s:ah) (l:List Gr) (hl:s.gs=l) (g h:Nat) (x:Gr) (hg:g < l.length) (s':ah) (e:s'.gs=l.set g x):aa s' h=if h=g then x else aa s h:=by
 unfold aa;rw [e,hl];simp only [List.getD_eq_getElem?_getD,List.getElem?_set]
 by_cases c:g=h
 ·subst c;simp [hg]
 ·have:¬ h=g:=fun e=>c e.symm
  simp [c,this]
theorem sD {s s':ah} {g:Nat} {x:Gr} (hg:g < s.gs.length) (e:s'.gs=s.gs.set g x) (h:Int) (h0:0≤h):gA s' h=up (gA s) g x h:=by
 unfold gA up;rw [F8 s s.gs rfl g h.toNat x hg s' e]
 by_cases c:h=g
 ·subst c;simp
 ·rw [if_neg c,az]
theorem F9 {s s':ah} {g p:Nat} {x y:Gr} (hg:g < s.gs.length) (hp:p < s.gs.length) (e:s'.gs=(s.gs.set p y).set g x) (h:Int) (h0:0≤h):gA s' h=iO (gA s) p y g x h:=by
 have e1:=sD (s:={ s with gs:=s.gs.set p y }) (s':=s') (g:=g) (x:=x) (by simpa using hg) e h h0;have e2:=sD (s:=s) (s':={ s with gs:=s.gs.set p y }) (g:=p) (x:=y) hp rfl h h0;rw [e1];unfold iO;unfold up at e2 ⊢
 by_cases c:h=g
 ·rw [if_pos c,if_pos c]
 ·rw [if_neg c,if_neg c];exact e2
end Sx
end Go.Proofs.YtdjhhbpedllnhaaGreat
