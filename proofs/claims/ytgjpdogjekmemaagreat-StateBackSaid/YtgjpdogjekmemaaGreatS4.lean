/-
  What the laws need, part S4.
  Conditions: none.
-/
import Derived.Test.YtgjpdogjekmemaaGreatS2
set_option linter.unusedVariables false
set_option linter.unusedSimpArgs false
set_option linter.unnecessarySimpa false
set_option maxHeartbeats 2000000
set_option maxHeartbeats 2000000
namespace Go.Proofs.YtgjpdogjekmemaaGreat
namespace Sx
def aG (x:Gr):Pn.Op:=x.ops.getD x.at_.toNat qp
def bL (x:Gr) (j:Int):Int:=(bY (aG x) j).ch
def SR (x:Gr):Prop:=(aG x).kind=2∨(aG x).kind=3
def SE (x:Gr):Prop:=(aG x).kind=9
def Wt (x:Gr):Prop:=SR x∧12≤x.place∧x.place≤14∨SE x∧(x.place=13∨x.place=14∨x.place=30∧x.res.code=0)
def bh (x:Gr) (ch:Int):Prop :=
 2≤(aG x).kind∧(aG x).kind≤6∧ch=(aG x).ch∧(5≤x.place∧x.place≤12∨x.place=16∨21≤x.place∧x.place≤23) ∨
 SE x∧((25≤x.place∧x.place≤29∨x.place=32)∧ch∈x.aC∨(x.place=24∨x.place=31∨x.place=30∨x.place=33)∧ch∈x.aC.take x.k.toNat)
def Own (x:Gr) (i:Int):Prop :=
 0≤i∧(SR x∧11≤x.place∧x.place≤15∧x.bq=i∨SE x∧(28≤x.place∧x.place≤34∨x.place=13∨x.place=14)∧i∈x.au)
def Match (x:Gr) (i:Int) (d:Su):Prop :=
 SR x∧d.cs=-1∧d.ch=(aG x).ch∧(d.send=true↔(aG x).kind=2) ∨
 SE x∧0≤d.cs∧d.cs < x.au.length∧aB x.au d.cs=i∧d.ch=bL x d.cs∧d.send=(bY (aG x) d.cs).send∧d.cs∈x.order∧∀ j:Int,0≤j→j < x.au.length→aB x.au j=i→j=d.cs
def dB (x:Gr) (i j:Int):Prop :=
 SR x∧12≤x.place∧x.place≤14∧x.bq=i∧x.param=-1 ∨
 SE x∧0≤j∧j < x.au.length∧aB x.au j=i∧(x.place=29∧j∈x.order.take x.k.toNat∨x.place=13∨x.place=14∨x.place=31∨x.place=30∧x.res.code=0∨x.place=32∧j∈x.order.drop x.k.toNat)
def bn (k p:Int):Prop :=
 p=18∨(k=1∨k=7∨k=8)∧p=20∨(k=2∨k=3)∧(4≤p∧p≤17∨p=19)∨k=4∧(p=1∨p=2∨4≤p∧p≤9∨p=16∨p=17) ∨
 k=5∧(1≤p∧p≤9∨p=16∨p=17)∨k=6∧(p=4∨p=16∨p=17∨21≤p∧p≤23)∨k=9∧(24≤p∧p≤34∨p=13∨p=14∨p=17∨p=19)
def cZ (p:Int):Prop:=24≤p∧p≤34∨p=13∨p=14
structure ff (nc ns:Int) (x:Gr):Prop where
 o1:∀ i∈x.order,0≤i∧i < (aG x).cases.length∧bL x i∈x.aC
 o2:x.order.Nodup
 o3:1≤x.order.length
 l1:∀ c∈x.aC,1≤c∧c≤nc
 l2:x.aC.Pairwise (· < ·)
 l3:1≤x.aC.length
 k0:0≤x.k
 k1:x.place=24∨x.place=31→x.k < x.aC.length
 k2:25≤x.place∧x.place≤29∨x.place=32∨x.place=34→x.k < x.order.length
 k3:x.place=30∨x.place=33→1≤x.k∧x.k≤x.aC.length
 s1:24≤x.place∧x.place≤27→x.au=[]
 s2:28≤x.place∧x.place≤29∨31≤x.place∧x.place≤34∨x.place=13∨x.place=14→x.au.length=(aG x).cases.length
 s3:x.place=30→x.au.length=(aG x).cases.length∨x.au=[]∧x.res.code≠0
 s4:∀ j:Int,0≤j→j < x.au.length→-1≤aB x.au j∧aB x.au j < ns∧(0≤aB x.au j→j∈x.order)
 s5:x.place=28→∀ j∈x.order.drop x.k.toNat,aB x.au j=-1
 s6:31≤x.place∧x.place≤33∨x.place=13∨x.place=14∨x.place=29∨x.place=30∧x.res.code=0→∀ j∈x.order,0≤aB x.au j
 s7:x.place=34→∀ j∈x.order.take x.k.toNat,aB x.au j=-1
 c1:24≤x.place∧x.place≤29∨x.place=13∨x.place=14→x.res.code=0
 c2:31≤x.place∧x.place≤33→x.bp=true
 s8:x.place=28→∀ j∈x.order.take x.k.toNat,0≤aB x.au j
structure Loc (nc ns n:Int) (x:Gr):Prop where
 lB:x.ops.length≤16
 fO:∀ o∈x.ops,Pn.cO o=true
 a0:0≤x.at_
 a1:x.at_≤x.ops.length
 pl:x.place=0∨x.at_ < x.ops.length∧bn (aG x).kind x.place
 wC:x.place≠0→x.place≠18→x.place≠19→2≤(aG x).kind→(aG x).kind≤6→1≤(aG x).ch∧(aG x).ch≤nc
 pq:x.status=0∨x.status=1∨x.status=2
 wD:x.status=1→x.place=14∨x.place=19
 wE:x.place=19→x.status=1
 Db:x.status=2→x.place=0∧x.at_=x.ops.length
 tk:x.token=true→Wt x∧0≤x.param∧x.place≠14
 w1:x.an≠[]→x.place=16∨x.place=17∨x.place=22∨x.place=23∨x.place=34∨x.place=30∧x.res.code≠0
 w2:x.place=17→x.an≠[]
 w3:∀ p∈x.an,0≤p∧p < n
 w4:x.an.Nodup
 hd:x.place=7∨x.place=8∨x.place=23∨x.place=26∨x.place=27→0≤x.hold∧x.hold < ns
 mi:SR x→11≤x.place→x.place≤15→0≤x.bq∧x.bq < ns
 p0:-1≤x.param∧x.param < ns
 p1:x.place=14→x.status=0→0≤x.param
 p2:0≤x.param→Wt x∧Own x x.param
 p3:0≤x.param→SE x→x.bp=true
 se:SE x→cZ x.place→ff nc ns x
structure Inv (n nc ns:Int) (G:Int→Gr) (C:Int→Cn) (S:Int→Su) (P:Int→Prop):Prop where
 loc:∀ g,0≤g→g < n→Loc nc ns n (G g)
 iJ:∀ ch,1≤ch→ch≤nc→(C ch).lock=-1∨0≤(C ch).lock∧(C ch).lock < n
 iy:∀ g,0≤g→g < n→∀ ch,1≤ch→ch≤nc→(bh (G g) ch↔(C ch).lock=g)
 cap:∀ ch,1≤ch→ch≤nc→0≤(C ch).cap∧(C ch).cap≤4∧((C ch).buf.length:Int)≤(C ch).cap
 own:∀ g,0≤g→g < n→∀ i,Own (G g) i→i < ns∧Match (G g) i (S i)∧(S i).g=g∧P i
 q:∀ ch,1≤ch→ch≤nc→∀ i,i∈(C ch).recv∨i∈(C ch).send→0≤i∧i < ns∧(S i).ch=ch∧((S i).send=false→i∈(C ch).recv∧i∉(C ch).send)∧((S i).send=true→i∈(C ch).send∧i∉(C ch).recv)∧0≤(S i).g∧(S i).g < n∧Own (G (S i).g) i∧dB (G (S i).g) i (S i).cs
 nd:∀ ch,1≤ch→ch≤nc→(C ch).recv.Nodup∧(C ch).send.Nodup
 cX:∀ h,0≤h→h < n→(G h).place=7∨(G h).place=23∨(G h).place=26→1≤(S (G h).hold).ch∧(S (G h).hold).ch≤nc∧bh (G h) (S (G h).hold).ch∧((G h).hold∈(C (S (G h).hold).ch).recv∨(G h).hold∈(C (S (G h).hold).ch).send)∧0≤(S (G h).hold).cs
 cl:∀ h,0≤h→h < n→(G h).place=8∨(G h).place=27→1≤(S (G h).hold).ch∧(S (G h).hold).ch≤nc∧bh (G h) (S (G h).hold).ch∧0≤(S (G h).hold).g∧(S (G h).hold).g < n∧(S (G h).hold).g≠h∧Wt (G (S (G h).hold).g)∧(G (S (G h).hold).g).param=-1∧Own (G (S (G h).hold).g) (G h).hold∧(SE (G (S (G h).hold).g)→(G (S (G h).hold).g).bp=true)∧(SR (G (S (G h).hold).g)→(G h).hold∉(C (S (G h).hold).ch).recv∧(G h).hold∉(C (S (G h).hold).ch).send)
 ou:∀ h k,0≤h→h < n→0≤k→k < n→(G h).place=8∨(G h).place=27→(G k).place=8∨(G k).place=27→(S (G h).hold).g=(S (G k).hold).g→h=k
 wk:∀ h,0≤h→h < n→∀ p∈(G h).an,p≠h∧Wt (G p)∧0≤(G p).param∧(G p).token=false∧((G p).place=14→(G p).status≠0)
 nk:∀ h k p,0≤h→h < n→0≤k→k < n→p∈(G h).an→p∈(G k).an→h=k
 su:∀ i,0≤i→i < ns→0≤(S i).g∧(S i).g < n∧-1≤(S i).cs∧((S i).live=true→Own (G (S i).g) i)
 lv:∀ i,P i→0≤i∧i < ns→Own (G (S i).g) i
end Sx
namespace Sx
def up {α:Type} (G:Int→α) (g:Int) (x:α):Int→α:=fun h=>if h=g then x else G h
theorem fP {α:Type} (G:Int→α) (g:Int) (x:α):up G g x g=x:=by simp [up]
theorem gJ {α:Type} (G:Int→α) {g h:Int} (x:α) (e:h≠g):up G g x h=G h:=by simp [up,e]
def fX (G:Int→Gr) (p:Int) (y:Gr) (g:Int) (x:Gr):Int→Gr:=up (up G p y) g x
theorem zz (G:Int→Gr) (p:Int) (y:Gr) (g:Int) (x:Gr):fX G p y g x g=x:=fP _ _ _
theorem Jg (G:Int→Gr) {p:Int} (y:Gr) {g:Int} (x:Gr) (e:p≠g):fX G p y g x p=y:=by unfold fX;rw [gJ _ _ e,fP]
theorem zA (G:Int→Gr) {p:Int} (y:Gr) {g:Int} (x:Gr) {h:Int} (e:h≠g) (e2:h≠p):fX G p y g x h=G h:=by unfold fX;rw [gJ _ _ e,gJ _ _ e2]
def cG (x:Gr):Prop:=x.place=8∨x.place=27
def cj (x:Gr):Prop:=x.place=7∨x.place=23∨x.place=26
def jC (x:Gr):Prop:=Wt x∧0≤x.param∧x.token=false∧(x.place=14→x.status≠0)
def ke (x:Gr):Prop:=Wt x∧x.param=-1∧(SE x→x.bp=true)
structure Part (x y:Gr):Prop where
 ops:y.ops=x.ops
 at_:y.at_=x.at_
 place:y.place=x.place
 bq:y.bq=x.bq
 hold:y.hold=x.hold
 code:y.res.code=x.res.code
 order:y.order=x.order
 aC:y.aC=x.aC
 au:y.au=x.au
 an:y.an=x.an
 k:y.k=x.k
section
variable {x y:Gr}
theorem Part.refl (x:Gr):Part x x:=⟨rfl,rfl,rfl,rfl,rfl,rfl,rfl,rfl,rfl,rfl,rfl⟩
theorem Part.aG (h:Part x y):aG y=aG x:=by unfold Sx.aG;rw [h.ops,h.at_]
theorem Part.sr (h:Part x y):SR y↔SR x:=by unfold SR;rw [h.aG]
theorem Part.se (h:Part x y):SE y↔SE x:=by unfold SE;rw [h.aG]
theorem Part.wt (h:Part x y):Wt y↔Wt x:=by unfold Wt;rw [h.sr,h.se,h.place,h.code]
theorem Part.holds (h:Part x y) (ch:Int):bh y ch↔bh x ch:=by unfold bh;rw [h.se,h.place,h.aG,h.aC,h.k]
theorem Part.own (h:Part x y) (i:Int):Own y i↔Own x i:=by unfold Own;rw [h.sr,h.se,h.place,h.bq,h.au]
theorem Part.Jh (h:Part x y) (i:Int) (d:Su):Match y i d↔Match x i d:=by unfold Match bL;rw [h.sr,h.se,h.aG,h.au,h.order]
end
section
variable {n nc ns:Int} {G:Int→Gr} {C:Int→Cn} {S:Int→Su} {P:Int→Prop}
structure Move (n nc ns:Int) (G:Int→Gr) (C:Int→Cn) (S:Int→Su) (g p:Int) (x y:Gr) (C':Int→Cn):Prop where
 g0:0≤g
 g1:g < n
 pg:p≠g
 lx:Loc nc ns n x
 ly:0≤p→p < n→Loc nc ns n y
 py:Part (G p) y
 iJ:∀ ch,1≤ch→ch≤nc→(C' ch).lock=-1∨0≤(C' ch).lock∧(C' ch).lock < n
 um:∀ ch,1≤ch→ch≤nc→(bh x ch↔(C' ch).lock=g)
 uo:∀ ch h,1≤ch→ch≤nc→0≤h→h < n→h≠g→((C' ch).lock=h↔(C ch).lock=h)
 cap:∀ ch,1≤ch→ch≤nc→0≤(C' ch).cap∧(C' ch).cap≤4∧((C' ch).buf.length:Int)≤(C' ch).cap
 own:∀ i,Own x i↔Own (G g) i
 mt:∀ i,Own x i→Match x i (S i)
 q1:∀ ch,1≤ch→ch≤nc→(C' ch).recv.Sublist (C ch).recv∧(C' ch).send.Sublist (C ch).send
 q2:∀ ch,1≤ch→ch≤nc→¬ bh (G g) ch→(C' ch).recv=(C ch).recv∧(C' ch).send=(C ch).send
 qx:∀ ch i,1≤ch→ch≤nc→i∈(C' ch).recv∨i∈(C' ch).send→(S i).g=g→dB (G g) i (S i).cs→dB x i (S i).cs
 qy:∀ ch i,1≤ch→ch≤nc→i∈(C' ch).recv∨i∈(C' ch).send→(S i).g=p→dB (G p) i (S i).cs→dB y i (S i).cs
 wn:cj x→1≤(S x.hold).ch∧(S x.hold).ch≤nc∧bh x (S x.hold).ch∧(x.hold∈(C' (S x.hold).ch).recv∨x.hold∈(C' (S x.hold).ch).send)∧0≤(S x.hold).cs
 cx:cG x→1≤(S x.hold).ch∧(S x.hold).ch≤nc∧bh x (S x.hold).ch∧(S x.hold).g=p∧0≤p∧p < n∧ke y∧Own y x.hold∧(SR y→x.hold∉(C' (S x.hold).ch).recv∧x.hold∉(C' (S x.hold).ch).send)
 cg:∀ k,0≤k→k < n→k≠g→cG (G k)→(S (G k).hold).g=g→ke (G g)→ke x∧(SR x→SR (G g))
 cp:∀ k,0≤k→k < n→k≠g→cG (G k)→(S (G k).hold).g=p→ke (G p)→ke y∧¬ cG x
 wx:∀ q∈x.an,q∈(G g).an∨q=p∧∀ k,0≤k→k < n→k≠g→p∉(G k).an
 wg:jC (G g)→(∃ k,0≤k∧k < n∧k≠g∧g∈(G k).an)→jC x
 Ji:g∉x.an
 wp:p∈x.an→jC y
 Jj:∀ k,0≤k→k < n→k≠g→p∈(G k).an→jC (G p)→jC y
theorem Inv.move (I:Inv n nc ns G C S P) {g p:Int} {x y:Gr} {C':Int→Cn} (M:Move n nc ns G C S g p x y C'):Inv n nc ns (fX G p y g x) C' S P:=by
 have gg:=zz G p y g x;have gp:=Jg G y x M.pg;have gh:∀ {h},h≠g→h≠p→fX G p y g x h=G h:=fun a b=>zA G y x a b
 have pt:∀ h,h≠g→Part (G h) (fX G p y g x h):=by
  intro h e
  by_cases e2:h=p
  ·subst e2;rw [gp];exact M.py
  ·rw [gh e e2];exact Part.refl _
 have ow:∀ h i,Own (fX G p y g x h) i↔Own (G h) i:=by
  intro h i
  by_cases e:h=g
  ·subst e;rw [gg];exact M.own i
  ·exact (pt h e).own i
 have Jk:∀ ch,1≤ch→ch≤nc→∀ i,i∈(C' ch).recv∨i∈(C' ch).send→i∈(C ch).recv∨i∈(C ch).send:=fun ch a b i h=>h.imp (fun h=>(M.q1 ch a b).1.subset h) (fun h=>(M.q1 ch a b).2.subset h)
 constructor
 ·intro h a b
  by_cases e:h=g
  ·subst e;rw [gg];exact M.lx
  ·by_cases e2:h=p
   ·subst e2;rw [gp];exact M.ly a b
   ·rw [gh e e2];exact I.loc h a b
 ·exact M.iJ
 ·intro h a b ch c1 c2
  by_cases e:h=g
  ·subst e;rw [gg];exact M.um ch c1 c2
  ·rw [(pt h e).holds,I.iy h a b ch c1 c2,M.uo ch h c1 c2 a b e]
 ·exact M.cap
 ·intro h a b i hi;have:=I.own h a b i ((ow h i).1 hi);refine ⟨this.1,?_,this.2.2⟩
  by_cases e:h=g
  ·subst e;rw [gg] at hi ⊢;exact M.mt i hi
  ·exact ((pt h e).Jh i _).2 this.2.1
 ·intro ch a b i hi;have:=I.q ch a b i (Jk ch a b i hi);obtain ⟨t1,t2,t3,t4,t5,t6,t7,t8,t9⟩:=this;refine ⟨t1,t2,t3,?_,?_,t6,t7,(ow _ _).2 t8,?_⟩
  ·intro e;have:=t4 e;rcases hi with hi | hi
   ·exact ⟨hi,fun h=>this.2 ((M.q1 ch a b).2.subset h)⟩
   ·exact absurd ((M.q1 ch a b).2.subset hi) this.2
  ·intro e;have:=t5 e;rcases hi with hi | hi
   ·exact absurd ((M.q1 ch a b).1.subset hi) this.2
   ·exact ⟨hi,fun h=>this.2 ((M.q1 ch a b).1.subset h)⟩
  ·by_cases e:(S i).g=g
   ·rw [e,gg];exact M.qx ch i a b hi e (e ▸ t9)
   ·by_cases e2:(S i).g=p
    ·rw [e2,gp];exact M.qy ch i a b hi e2 (e2 ▸ t9)
    ·grind
 ·intro ch a b;exact ⟨(I.nd ch a b).1.sublist (M.q1 ch a b).1,(I.nd ch a b).2.sublist (M.q1 ch a b).2⟩
 ·intro h a b
  by_cases e:h=g
  ·subst e;rw [gg];exact M.wn
  ·have hp:=pt h e;rw [hp.place,hp.hold];intro c;obtain ⟨t1,t2,t3,t4,t5⟩:=I.cX h a b c;refine ⟨t1,t2,(hp.holds _).2 t3,?_,t5⟩;have:¬ bh (G g) (S (G h).hold).ch:=by
    rw [I.iy g M.g0 M.g1 _ t1 t2];rw [I.iy h a b _ t1 t2] at t3;omega
   rw [(M.q2 _ t1 t2 this).1,(M.q2 _ t1 t2 this).2];exact t4
 ·-- who is won by another one than g stays so
  have key:∀ k,0≤k→k < n→k≠g→cG (G k)→ke (fX G p y g x (S (G k).hold).g)∧Own (fX G p y g x (S (G k).hold).g) (G k).hold∧(SR (fX G p y g x (S (G k).hold).g)→(G k).hold∉(C' (S (G k).hold).ch).recv∧(G k).hold∉(C' (S (G k).hold).ch).send):=by
   intro k a b e c;obtain ⟨t1,t2,t3,t4,t5,t6,t7,t8,t9,t10,t11⟩:=I.cl k a b c;have sub:(G k).hold∉(C (S (G k).hold).ch).recv∧(G k).hold∉(C (S (G k).hold).ch).send→(G k).hold∉(C' (S (G k).hold).ch).recv∧(G k).hold∉(C' (S (G k).hold).ch).send :=
    fun h=>⟨fun h2=>h.1 ((M.q1 _ t1 t2).1.subset h2),fun h2=>h.2 ((M.q1 _ t1 t2).2.subset h2)⟩
   refine ⟨?_,(ow _ _).2 t9,?_⟩
   ·by_cases e1:(S (G k).hold).g=g
    ·rw [e1,gg];exact (M.cg k a b e c e1 (by rw [e1] at t7 t8 t10;exact ⟨t7,t8,t10⟩)).1
    ·by_cases e2:(S (G k).hold).g=p
     ·rw [e2,gp];exact (M.cp k a b e c e2 (by rw [e2] at t7 t8 t10;exact ⟨t7,t8,t10⟩)).1
     ·rw [gh e1 e2];exact ⟨t7,t8,t10⟩
   ·by_cases e1:(S (G k).hold).g=g
    ·rw [e1,gg];rw [e1] at t7 t8 t10 t11;exact fun h=>sub (t11 ((M.cg k a b e c e1 ⟨t7,t8,t10⟩).2 h))
    ·rw [(pt _ e1).sr];exact fun h=>sub (t11 h)
  intro h a b
  by_cases e:h=g
  ·subst e;rw [gg];intro c;obtain ⟨t1,t2,t3,t4,t5,t6,t7,t8,t9⟩:=M.cx c;rw [t4,gp];exact ⟨t1,t2,t3,t5,t6,M.pg,t7.1,t7.2.1,t8,t7.2.2,t9⟩
  ·have hp:=pt h e;rw [hp.place,hp.hold];intro c;obtain ⟨t1,t2,t3,t4,t5,t6,_⟩:=I.cl h a b c;obtain ⟨k1,k2,k3⟩:=key h a b e c;exact ⟨t1,t2,(hp.holds _).2 t3,t4,t5,t6,k1.1,k1.2.1,k2,k1.2.2,k3⟩
 ·have old:∀ h,h≠g→(fX G p y g x h).place=(G h).place∧(fX G p y g x h).hold=(G h).hold:=fun h e=>⟨(pt h e).place,(pt h e).hold⟩
  have one:∀ k,0≤k→k < n→k≠g→cG (G k)→cG x→(S x.hold).g≠(S (G k).hold).g:=by
   intro k a b e c cx e2;obtain ⟨t1,t2,t3,t4,t5,t6,t7,t8,t9⟩:=M.cx cx;rw [t4] at e2;obtain ⟨_,_,_,_,_,_,s7,s8,_,mq,_⟩:=I.cl k a b c;rw [← e2] at s7 s8 mq;exact (M.cp k a b e c e2.symm ⟨s7,s8,mq⟩).2 cx
  intro h k a b c d e f e3
  by_cases eh:h=g
  ·by_cases ek:k=g
   ·rw [eh,ek]
   ·rw [eh,gg] at e e3;rw [(old k ek).1] at f;rw [(old k ek).2] at e3;exact absurd e3 (one k c d ek f e)
  ·by_cases ek:k=g
   ·rw [ek,gg] at f e3;rw [(old h eh).1] at e;rw [(old h eh).2] at e3;exact absurd e3.symm (one h a b eh e f)
   ·rw [(old k ek).1] at f;rw [(old h eh).1] at e;rw [(old h eh).2,(old k ek).2] at e3;exact I.ou h k a b c d e f e3
 ·have wo:∀ h,h≠g→(fX G p y g x h).an=(G h).an:=fun h e=>(pt h e).an
  have wk:∀ h,0≤h→h < n→∀ q∈(G h).an,jC (G q):=fun h a b q hq=>(I.wk h a b q hq).2
  suffices H:∀ h,0≤h→h < n→∀ q∈(fX G p y g x h).an,q≠h∧jC (fX G p y g x q) from H
  intro h a b q hq
  by_cases e:h=g
  ·subst e;rw [gg] at hq;have uq:q≠h:=fun e=>M.Ji (e ▸ hq)
   refine ⟨uq,?_⟩
   by_cases e2:q=p
   ·subst e2;rw [gp];exact M.wp hq
   ·rw [gh uq e2];rcases M.wx q hq with h1 | h1
    ·exact wk h a b q h1
    ·exact absurd h1.1 e2
  ·rw [wo h e] at hq;have w0:=wk h a b q hq;refine ⟨(I.wk h a b q hq).1,?_⟩
   by_cases e1:q=g
   ·subst e1;rw [gg];exact M.wg w0 ⟨h,a,b,e,hq⟩
   ·by_cases e2:q=p
    ·subst e2;rw [gp];exact M.Jj h a b e hq w0
    ·grind
 ·have wo:∀ h,h≠g→(fX G p y g x h).an=(G h).an:=fun h e=>(pt h e).an
  have one:∀ k q,0≤k→k < n→k≠g→q∈x.an→q∈(G k).an→False:=by
   intro k q a b e h1 h2;rcases M.wx q h1 with h3 | h3
   ·exact e (I.nk k g q a b M.g0 M.g1 h2 h3)
   ·grind
  intro h k q a b c d e f
  by_cases eh:h=g
  ·grind
  ·by_cases ek:k=g
   ·grind
   ·rw [wo h eh] at e;rw [wo k ek] at f;exact I.nk h k q a b c d e f
 ·intro i a b;have:=I.su i a b;exact ⟨this.1,this.2.1,this.2.2.1,fun h=>(ow _ _).2 (this.2.2.2 h)⟩
 ·intro i a b;exact (ow _ _).2 (I.lv i a b)
end
end Sx
namespace Sx
section
variable {n nc ns:Int} {G:Int→Gr} {C:Int→Cn} {S:Int→Su} {P:Int→Prop}
theorem Match.pz {x:Gr} {i:Int} {d e:Su} (h:Match x i d) (h1:e.cs=d.cs) (h2:e.ch=d.ch) (h3:e.send=d.send):Match x i e:=by
 unfold Match at *;rw [h1,h2,h3];exact h
theorem Inv.Jl (I:Inv n nc ns G C S P) {S':Int→Su} (h:∀ i,(S' i).g=(S i).g∧(S' i).ch=(S i).ch∧(S' i).cs=(S i).cs∧(S' i).send=(S i).send∧(S' i).live=(S i).live):Inv n nc ns G C S' P:=by
 constructor
 ·exact I.loc
 ·exact I.iJ
 ·exact I.iy
 ·exact I.cap
 ·intro g a b i hi;obtain ⟨t1,t2,t3,t4⟩:=I.own g a b i hi;exact ⟨t1,t2.pz (h i).2.2.1 (h i).2.1 (h i).2.2.2.1,by rw [(h i).1];exact t3,t4⟩
 ·intro ch a b i hi;rw [(h i).1,(h i).2.1,(h i).2.2.1,(h i).2.2.2.1];exact I.q ch a b i hi
 ·exact I.nd
 ·intro k a b;rw [(h _).2.1,(h _).2.2.1];exact I.cX k a b
 ·intro k a b;rw [(h _).1,(h _).2.1];exact I.cl k a b
 ·intro k l a b c d;rw [(h _).1,(h _).1];exact I.ou k l a b c d
 ·exact I.wk
 ·exact I.nk
 ·intro i a b;rw [(h i).1,(h i).2.2.1,(h i).2.2.2.2];exact I.su i a b
 ·intro i a b;rw [(h i).1];exact I.lv i a b
theorem Inv.wA (I:Inv n nc ns G C S P) {ch i:Int} (a:1≤ch) (b:ch≤nc) (h:i∈(C ch).recv∨i∈(C ch).send):P i:=by
 obtain ⟨_,_,_,_,_,t6,t7,t8,_⟩:=I.q ch a b i h;exact (I.own _ t6 t7 i t8).2.2.2
theorem Inv.Jm (I:Inv n nc ns G C S P) {h:Int} (a:0≤h) (b:h < n) (c:cj (G h)):P (G h).hold:=by
 obtain ⟨t1,t2,_,t4,_⟩:=I.cX h a b c;exact I.wA t1 t2 t4
theorem Inv.zB (I:Inv n nc ns G C S P) {h:Int} (a:0≤h) (b:h < n) (c:cG (G h)):P (G h).hold:=by
 obtain ⟨_,_,_,t4,t5,_,_,_,t9,_⟩:=I.cl h a b c;exact (I.own _ t4 t5 _ t9).2.2.2
theorem Inv.take (I:Inv n nc ns G C S P) {g i:Int} {x:Gr} {d:Su} (g0:0≤g) (g1:g < n) (i0:0≤i) (i1:i < ns) (hP:¬ P i) (lx:Loc nc ns n x) (hh:∀ ch,bh x ch↔bh (G g) ch)
  (ow:∀ j,Own x j↔Own (G g) j∨j=i) (mt:∀ j,Own (G g) j→Match x j (S j)) (md:Match x i d) (dg:d.g=g) (nq:∀ j k,¬ dB (G g) j k) (nw:¬ cj x) (mu:¬ cG x) (wk:x.an=(G g).an) (wt:¬ Wt (G g)) :
  Inv n nc ns (up G g x) C (up S i d) (fun j=>P j∨j=i):=by
 have gg:=fP G g x;have gh:∀ {h},h≠g→up G g x h=G h:=fun a=>gJ G x a
 have ss:=fP S i d;have sh:∀ {h},h≠i→up S i d h=S h:=fun a=>gJ S d a
 have Jn:∀ h,0≤h→h < n→¬ Own (G h) i:=fun h a b ho=>hP (I.own h a b i ho).2.2.2
 have ur:∀ h,0≤h→h < n→∀ j,Own (G h) j→Own (up G g x h) j:=by grind
 constructor
 ·intro h a b
  by_cases e:h=g
  ·grind
  ·rw [gh e];exact I.loc h a b
 ·exact I.iJ
 ·intro h a b ch c1 c2
  by_cases e:h=g
  ·subst e;rw [gg,hh];exact I.iy h a b ch c1 c2
  ·rw [gh e];exact I.iy h a b ch c1 c2
 ·exact I.cap
 ·intro h a b j hj
  by_cases e:h=g
  ·subst e;rw [gg] at hj ⊢
   by_cases e2:j=i
   ·grind
   ·have nj:=((ow j).1 hj).resolve_right e2;rw [sh e2];obtain ⟨t1,t2,t3,t4⟩:=I.own h a b j nj;exact ⟨t1,mt j nj,t3,.inl t4⟩
  ·rw [gh e] at hj ⊢;have e2:j≠i:=fun e2=>Jn h a b (e2 ▸ hj)
   rw [sh e2];obtain ⟨t1,t2,t3,t4⟩:=I.own h a b j hj;exact ⟨t1,t2,t3,.inl t4⟩
 ·intro ch a b j hj;have e2:j≠i:=fun e2=>hP (I.wA a b (e2 ▸ hj))
  rw [sh e2];obtain ⟨t1,t2,t3,t4,t5,t6,t7,t8,t9⟩:=I.q ch a b j hj;have e:(S j).g≠g:=fun e=>nq _ _ (e ▸ t9)
  rw [gh e];exact ⟨t1,t2,t3,t4,t5,t6,t7,t8,t9⟩
 ·exact I.nd
 ·intro h a b
  by_cases e:h=g
  ·subst e;rw [gg];exact fun c=>absurd c nw
  ·rw [gh e];intro c;rw [sh (fun e2=>hP (e2 ▸ I.Jm a b c))];exact I.cX h a b c
 ·intro h a b
  by_cases e:h=g
  ·subst e;rw [gg];exact fun c=>absurd c mu
  ·rw [gh e];intro c;rw [sh (fun e2=>hP (e2 ▸ I.zB a b c))];have:=I.cl h a b c;have e3:(S (G h).hold).g≠g:=fun e3=>wt (e3 ▸ this.2.2.2.2.2.2.1)
   rw [gh e3];exact this
 ·intro h k a b c d' e f
  by_cases eh:h=g
  ·subst eh;rw [gg] at e;exact absurd e mu
  ·by_cases ek:k=g
   ·subst ek;rw [gg] at f;exact absurd f mu
   ·rw [gh eh] at e ⊢;rw [gh ek] at f ⊢;rw [sh (fun e2=>hP (e2 ▸ I.zB a b e)),sh (fun e2=>hP (e2 ▸ I.zB c d' f))];exact I.ou h k a b c d' e f
 ·have wo:∀ h,(up G g x h).an=(G h).an:=by
   intro h;by_cases e:h=g
   ·subst e;rw [gg,wk]
   ·rw [gh e]
  intro h a b p hp;rw [wo] at hp;have:=I.wk h a b p hp;rw [gh (fun e=>wt (e ▸ this.2.1))];exact this
 ·have wo:∀ h,(up G g x h).an=(G h).an:=by
   intro h;by_cases e:h=g
   ·subst e;rw [gg,wk]
   ·rw [gh e]
  intro h k p a b c d e f;rw [wo] at e f;exact I.nk h k p a b c d e f
 ·intro j a b
  by_cases e:j=i
  ·subst e;rw [ss,dg,gg];refine ⟨g0,g1,?_,fun _=>(ow j).2 (.inr rfl)⟩;rcases md with md | md
   ·omega
   ·omega
  ·rw [sh e];obtain ⟨t1,t2,t3,t4⟩:=I.su j a b;exact ⟨t1,t2,t3,fun hl=>ur _ t1 t2 _ (t4 hl)⟩
 ·intro j hj b
  by_cases e:j=i
  ·grind
  ·rw [sh e];have nj:=hj.resolve_right e;exact ur _ (I.su j b.1 b.2).1 (I.su j b.1 b.2).2.1 _ (I.lv j nj b)
theorem Inv.cR (I:Inv n nc ns G C S P) {g i:Int} {x:Gr} (g0:0≤g) (g1:g < n) (hi:Own (G g) i) (lx:Loc nc ns n x) (hh:∀ ch,bh x ch↔bh (G g) ch)
  (ow:∀ j,Own x j↔Own (G g) j∧j≠i) (mt:∀ j,Own x j→Match x j (S j)) (nq:∀ j k,¬ dB (G g) j k) (nw:¬ cj x) (mu:¬ cG x) (wk:x.an=(G g).an) (wt:¬ Wt (G g)) :
  Inv n nc ns (up G g x) C (up S i dX) (fun j=>P j∧j≠i):=by
 have gg:=fP G g x;have gh:∀ {h},h≠g→up G g x h=G h:=fun a=>gJ G x a
 have ss:=fP S i dX;have sh:∀ {h},h≠i→up S i dX h=S h:=fun a=>gJ S dX a
 have sig:=(I.own g g0 g1 i hi).2.2.1;have uu:∀ ch,1≤ch→ch≤nc→¬ (i∈(C ch).recv∨i∈(C ch).send):=by
  intro ch a b h;have:=(I.q ch a b i h).2.2.2.2.2.2.2.2;rw [sig] at this;exact nq _ _ this
 have Jo:∀ h,0≤h→h < n→cj (G h)→(G h).hold≠i:=by
  intro h a b c e;obtain ⟨t1,t2,_,t4,_⟩:=I.cX h a b c;exact uu _ t1 t2 (e ▸ t4)
 have zC:∀ h,0≤h→h < n→cG (G h)→(G h).hold≠i:=by
  intro h a b c e;obtain ⟨_,_,_,_,_,_,t7,_⟩:=I.cl h a b c;rw [e,sig] at t7;exact wt t7
 have ur:∀ h,∀ j,j≠i→Own (G h) j→Own (up G g x h) j:=by grind
 constructor
 ·intro h a b
  by_cases e:h=g
  ·grind
  ·rw [gh e];exact I.loc h a b
 ·exact I.iJ
 ·intro h a b ch c1 c2
  by_cases e:h=g
  ·subst e;rw [gg,hh];exact I.iy h a b ch c1 c2
  ·rw [gh e];exact I.iy h a b ch c1 c2
 ·exact I.cap
 ·intro h a b j hj;have e2:j≠i:=by
   intro e2;subst e2
   by_cases e:h=g
   ·grind
   ·rw [gh e] at hj;exact e ((I.own h a b j hj).2.2.1.symm.trans sig)
  rw [sh e2]
  by_cases e:h=g
  ·subst e;rw [gg] at hj ⊢;obtain ⟨t1,t2,t3,t4⟩:=I.own h a b j ((ow j).1 hj).1;exact ⟨t1,mt j hj,t3,t4,e2⟩
  ·rw [gh e] at hj ⊢;obtain ⟨t1,t2,t3,t4⟩:=I.own h a b j hj;exact ⟨t1,t2,t3,t4,e2⟩
 ·intro ch a b j hj;have e2:j≠i:=fun e2=>uu ch a b (e2 ▸ hj)
  rw [sh e2];obtain ⟨t1,t2,t3,t4,t5,t6,t7,t8,t9⟩:=I.q ch a b j hj;have e:(S j).g≠g:=fun e=>nq _ _ (e ▸ t9)
  rw [gh e];exact ⟨t1,t2,t3,t4,t5,t6,t7,t8,t9⟩
 ·exact I.nd
 ·intro h a b
  by_cases e:h=g
  ·subst e;rw [gg];exact fun c=>absurd c nw
  ·rw [gh e];intro c;rw [sh (Jo h a b c)];exact I.cX h a b c
 ·intro h a b
  by_cases e:h=g
  ·subst e;rw [gg];exact fun c=>absurd c mu
  ·rw [gh e];intro c;rw [sh (zC h a b c)];have:=I.cl h a b c;have e3:(S (G h).hold).g≠g:=fun e3=>wt (e3 ▸ this.2.2.2.2.2.2.1)
   rw [gh e3];exact this
 ·intro h k a b c d' e f
  by_cases eh:h=g
  ·subst eh;rw [gg] at e;exact absurd e mu
  ·by_cases ek:k=g
   ·subst ek;rw [gg] at f;exact absurd f mu
   ·rw [gh eh] at e ⊢;rw [gh ek] at f ⊢;rw [sh (zC h a b e),sh (zC k c d' f)];exact I.ou h k a b c d' e f
 ·have wo:∀ h,(up G g x h).an=(G h).an:=by
   intro h;by_cases e:h=g
   ·subst e;rw [gg,wk]
   ·rw [gh e]
  intro h a b p hp;rw [wo] at hp;have:=I.wk h a b p hp;rw [gh (fun e=>wt (e ▸ this.2.1))];exact this
 ·have wo:∀ h,(up G g x h).an=(G h).an:=by
   intro h;by_cases e:h=g
   ·subst e;rw [gg,wk]
   ·rw [gh e]
  intro h k p a b c d e f;rw [wo] at e f;exact I.nk h k p a b c d e f
 ·intro j a b
  by_cases e:j=i
  ·subst e;rw [ss];exact ⟨by simp [dX],by simp only [dX];omega,by simp [dX],by simp [dX]⟩
  ·rw [sh e];obtain ⟨t1,t2,t3,t4⟩:=I.su j a b;exact ⟨t1,t2,t3,fun hl=>ur _ _ e (t4 hl)⟩
 ·intro j hj b;rw [sh hj.2];exact ur _ _ hj.2 (I.lv j hj.1 b)
theorem Inv.push (I:Inv n nc ns G C S P) {g i:Int} {x:Gr} {c:Int} {c':Cn} (g0:0≤g) (g1:g < n) (hi:Own (G g) i) (c0:1≤c) (c1:c≤nc) (sc:(S i).ch=c) (lx:Loc nc ns n x) (hh:∀ ch,bh x ch↔bh (G g) ch)
  (ow:∀ j,Own x j↔Own (G g) j) (mt:∀ j,Own x j→Match x j (S j)) (nq:¬ dB (G g) i (S i).cs) (qx:∀ j k,dB (G g) j k→dB x j k) (qi:dB x i (S i).cs) (nw:¬ cj x) (mu:¬ cG x) (wk:x.an=(G g).an) (wt:¬ Wt (G g))
  (e1:c'.lock=(C c).lock) (e2:c'.cap=(C c).cap) (e3:c'.buf=(C c).buf) (er:c'.recv=if (S i).send=true then (C c).recv else (C c).recv ++ [i]) (es:c'.send=if (S i).send=true then (C c).send ++ [i] else (C c).send) :
  Inv n nc ns (up G g x) (up C c c') S P:=by
 have gg:=fP G g x;have gh:∀ {h},h≠g→up G g x h=G h:=fun a=>gJ G x a
 have cc:=fP C c c';have Dc:∀ {h},h≠c→up C c c' h=C h:=fun a=>gJ C c' a
 obtain ⟨dz,de,sig,Qm⟩:=I.own g g0 g1 i hi;have uu:¬ (i∈(C c).recv∨i∈(C c).send):=by
  intro h;have:=(I.q c c0 c1 i h).2.2.2.2.2.2.2.2;rw [sig] at this;exact nq this
 have wF:∀ h j,Own (up G g x h) j↔Own (G h) j:=by grind
 have lock:∀ ch,(up C c c' ch).lock=(C ch).lock:=by grind
 have Dd:∀ ch j,j∈(up C c c' ch).recv∨j∈(up C c c' ch).send→(j∈(C ch).recv∨j∈(C ch).send)∨j=i∧ch=c:=by grind
 have De:∀ ch j,j≠i→(j∈(up C c c' ch).recv↔j∈(C ch).recv)∧(j∈(up C c c' ch).send↔j∈(C ch).send):=by grind
 have Df:∀ ch j,(j∈(C ch).recv→j∈(up C c c' ch).recv)∧(j∈(C ch).send→j∈(up C c c' ch).send):=by grind
 constructor
 ·intro h a b
  by_cases e:h=g
  ·grind
  ·rw [gh e];exact I.loc h a b
 ·intro ch a b;rw [lock];exact I.iJ ch a b
 ·intro h a b ch c1 c2;rw [lock]
  by_cases e:h=g
  ·subst e;rw [gg,hh];exact I.iy h a b ch c1 c2
  ·rw [gh e];exact I.iy h a b ch c1 c2
 ·intro ch a b
  by_cases e:ch=c
  ·subst e;rw [cc,e2,e3];exact I.cap ch a b
  ·rw [Dc e];exact I.cap ch a b
 ·intro h a b j hj;rw [wF] at hj;obtain ⟨t1,t2,t3,t4⟩:=I.own h a b j hj;refine ⟨t1,?_,t3,t4⟩
  by_cases e:h=g
  ·grind
  ·rw [gh e];exact t2
 ·intro ch a b j hj
  by_cases ej:j=i
  ·subst ej;have hc:ch=c:=by
    rcases Dd ch j hj with h | h
    ·exact (I.q ch a b j h).2.2.1.symm.trans sc
    ·exact h.2
   subst hc;rw [sig,gg,cc,er,es];refine ⟨hi.1,dz,sc,?_,?_,g0,g1,(ow j).2 hi,qi⟩
   ·grind
   ·grind
  ·rcases Dd ch j hj with h | h
   ·obtain ⟨t1,t2,t3,t4,t5,t6,t7,t8,t9⟩:=I.q ch a b j h;have mr:=De ch j ej;refine ⟨t1,t2,t3,?_,?_,t6,t7,(wF _ _).2 t8,?_⟩
    ·grind
    ·grind
    ·grind
   ·exact absurd h.1 ej
 ·intro ch a b
  by_cases e:ch=c
  ·subst e;rw [cc,er,es];have:=I.nd ch a b;have n1:i∉(C ch).recv:=fun h=>uu (.inl h)
   have n2:i∉(C ch).send:=fun h=>uu (.inr h)
   split
   ·grind
   ·grind
  ·rw [Dc e];exact I.nd ch a b
 ·intro h a b
  by_cases e:h=g
  ·subst e;rw [gg];exact fun c=>absurd c nw
  ·rw [gh e];intro cw;obtain ⟨t1,t2,t3,t4,t5⟩:=I.cX h a b cw;exact ⟨t1,t2,t3,t4.imp (Df _ _).1 (Df _ _).2,t5⟩
 ·intro h a b
  by_cases e:h=g
  ·subst e;rw [gg];exact fun c=>absurd c mu
  ·rw [gh e];intro cw;have:=I.cl h a b cw;have e3:(S (G h).hold).g≠g:=fun e3=>wt (e3 ▸ this.2.2.2.2.2.2.1)
   rw [gh e3];obtain ⟨t1,t2,t3,t4,t5,t6,t7,t8,t9,t10,t11⟩:=this;refine ⟨t1,t2,t3,t4,t5,t6,t7,t8,t9,t10,fun hs=>?_⟩;have ne:(G h).hold≠i:=fun e4=>e3 (by rw [e4];exact sig)
   have mr:=De (S (G h).hold).ch (G h).hold ne;rw [mr.1,mr.2];exact t11 hs
 ·intro h k a b c d' e f
  by_cases eh:h=g
  ·subst eh;rw [gg] at e;exact absurd e mu
  ·by_cases ek:k=g
   ·subst ek;rw [gg] at f;exact absurd f mu
   ·rw [gh eh] at e ⊢;rw [gh ek] at f ⊢;exact I.ou h k a b c d' e f
 ·have wo:∀ h,(up G g x h).an=(G h).an:=by
   intro h;by_cases e:h=g
   ·subst e;rw [gg,wk]
   ·rw [gh e]
  intro h a b p hp;rw [wo] at hp;have:=I.wk h a b p hp;rw [gh (fun e=>wt (e ▸ this.2.1))];exact this
 ·have wo:∀ h,(up G g x h).an=(G h).an:=by
   intro h;by_cases e:h=g
   ·subst e;rw [gg,wk]
   ·rw [gh e]
  intro h k p a b c d e f;rw [wo] at e f;exact I.nk h k p a b c d e f
 ·intro j a b;obtain ⟨t1,t2,t3,t4⟩:=I.su j a b;exact ⟨t1,t2,t3,fun hl=>(wF _ _).2 (t4 hl)⟩
 ·intro j hj b;exact (wF _ _).2 (I.lv j hj b)
theorem Loc.mono {x:Gr} (h:Loc nc ns n x) (e:nc≤nc + 1):Loc (nc + 1) ns n x:=by
 obtain ⟨a1,a2,a3,a4,a5,a6,a7,a8,a9,kP,mw,lC,mz,mA,mC,lD,ov,oz,nr,oA,oB,mD⟩:=h;refine ⟨a1,a2,a3,a4,a5,fun h1 h2 h3 h4 h5=>⟨(a6 h1 h2 h3 h4 h5).1,by have:=(a6 h1 h2 h3 h4 h5).2;omega⟩,a7,a8,a9,kP,mw,lC,mz,mA,mC,lD,ov,oz,nr,oA,oB,fun h1 h2=>?_⟩;obtain ⟨b1,b2,b3,b4,b5,b6,b7,b8,b9,uv,pE,pF,uw,ux,uy,rX,uz,rY,rZ,uA⟩:=mD h1 h2;exact ⟨b1,b2,b3,fun c hc=>⟨(b4 c hc).1,by have:=(b4 c hc).2;omega⟩,b5,b6,b7,b8,b9,uv,pE,pF,uw,ux,uy,rX,uz,rY,rZ,uA⟩
end
end Sx
namespace Sx
section
variable {n nc ns:Int} {G:Int→Gr} {C:Int→Cn} {S:Int→Su} {P:Int→Prop}
theorem Inv.pz (I:Inv n nc ns G C S P) {G':Int→Gr} {C':Int→Cn} {S':Int→Su} {P':Int→Prop} (hG:∀ g,0≤g→g < n→G' g=G g) (hC:∀ c,1≤c→c≤nc→C' c=C c) (hS:∀ i,0≤i→i < ns→S' i=S i) (hP:∀ i,0≤i→i < ns→(P' i↔P i)):Inv n nc ns G' C' S' P':=by
 have hd:∀ h,0≤h→h < n→cj (G h)∨cG (G h)→S' (G h).hold=S (G h).hold:=by
  intro h a b c;have:=(I.loc h a b).hd (by unfold cj cG at c;omega);exact hS _ this.1 this.2
 constructor
 ·intro h a b;rw [hG h a b];exact I.loc h a b
 ·intro ch a b;rw [hC ch a b];exact I.iJ ch a b
 ·intro h a b ch c d;rw [hG h a b,hC ch c d];exact I.iy h a b ch c d
 ·intro ch a b;rw [hC ch a b];exact I.cap ch a b
 ·intro h a b i;rw [hG h a b];intro hi;obtain ⟨t1,t2,t3,t4⟩:=I.own h a b i hi;rw [hS i hi.1 t1];exact ⟨t1,t2,t3,(hP i hi.1 t1).2 t4⟩
 ·intro ch a b i;rw [hC ch a b];intro hi;obtain ⟨t1,t2,t3,t4,t5,t6,t7,t8,t9⟩:=I.q ch a b i hi;rw [hS i t1 t2,hG _ t6 t7];exact ⟨t1,t2,t3,t4,t5,t6,t7,t8,t9⟩
 ·intro ch a b;rw [hC ch a b];exact I.nd ch a b
 ·intro h a b;rw [hG h a b];intro c;obtain ⟨t1,t2,t3,t4,t5⟩:=I.cX h a b c;rw [hd h a b (.inl c),hC _ t1 t2];exact ⟨t1,t2,t3,t4,t5⟩
 ·intro h a b;rw [hG h a b];intro c;obtain ⟨t1,t2,t3,t4,t5,t6⟩:=I.cl h a b c;rw [hd h a b (.inr c),hC _ t1 t2,hG _ t4 t5];exact ⟨t1,t2,t3,t4,t5,t6⟩
 ·intro h k a b c d;rw [hG h a b,hG k c d];intro e f;rw [hd h a b (.inr e),hd k c d (.inr f)];exact I.ou h k a b c d e f
 ·intro h a b;rw [hG h a b];intro p hp;have:=(I.loc h a b).w3 p hp;rw [hG p this.1 this.2];exact I.wk h a b p hp
 ·intro h k p a b c d;rw [hG h a b,hG k c d];exact I.nk h k p a b c d
 ·intro i a b;obtain ⟨t1,t2,t3,t4⟩:=I.su i a b;rw [hS i a b,hG _ t1 t2];exact ⟨t1,t2,t3,t4⟩
 ·intro i hi b;have:=I.lv i ((hP i b.1 b.2).1 hi) b;rw [hS i b.1 b.2,hG _ (I.su i b.1 b.2).1 (I.su i b.1 b.2).2.1];exact this
theorem Inv.self (I:Inv n nc ns G C S P) {g:Int} {x:Gr} (g0:0≤g) (g1:g < n) (lx:Loc nc ns n x) (hh:∀ ch,bh x ch↔bh (G g) ch) (ow:∀ i,Own x i↔Own (G g) i) (mt:∀ i d,Own x i→Match (G g) i d→Match x i d)
  (qx:∀ i j,dB (G g) i j→dB x i j) (wn:cj x→1≤(S x.hold).ch∧(S x.hold).ch≤nc∧bh x (S x.hold).ch∧(x.hold∈(C (S x.hold).ch).recv∨x.hold∈(C (S x.hold).ch).send)∧0≤(S x.hold).cs)
  (fh:¬ cG x) (wx:∀ q∈x.an,q∈(G g).an) (wg:jC (G g)→jC x) (cg:ke (G g)→ke x∧(SR x→SR (G g))):Inv n nc ns (up G g x) C S P:=by
 have M:Move n nc ns G C S g n x (G n) C:=by
  refine ⟨g0,g1,by omega,lx,fun _ h=>by omega,Part.refl _,I.iJ,fun ch a b=>by rw [hh];exact I.iy g g0 g1 ch a b,fun _ _ _ _ _ _ _=>Iff.rfl,I.cap,ow,fun i hi=>mt i _ hi (I.own g g0 g1 i ((ow i).1 hi)).2.1,fun _ _ _=>⟨List.Sublist.refl _,List.Sublist.refl _⟩,fun _ _ _ _=>⟨rfl,rfl⟩,fun _ _ _ _ _ _=>qx _ _,fun _ _ _ _ _ _=>id,wn,fun h=>absurd h fh,fun _ _ _ _ _ _=>cg,fun k a b _ c e=>?_,fun q hq=>.inl (wx q hq),fun h _=>wg h,fun h=>(I.wk g g0 g1 g (wx g h)).1 rfl,fun h=>?_,fun k a b _ hk=>?_⟩
  ·grind
  ·have:=(I.loc g g0 g1).w3 n (wx n h);omega
  ·grind
 refine (I.move M).pz (fun h a b=>?_) (fun _ _ _=>rfl) (fun _ _ _=>rfl) (fun _ _ _=>Iff.rfl)
 by_cases e:h=g
 ·subst e;rw [fP,zz]
 ·rw [gJ _ _ e,zA _ _ _ e (by omega)]
end
def gA (s:ah) (g:Int):Gr:=aa s g.toNat
def V (s:ah):Prop:=Inv s.gs.length s.ax.length s.aD.length (gA s) (cn s) (su s) (fun i=>fS s i=true)
end Sx
namespace Sx
section
variable {n nc ns:Int} {G:Int→Gr} {C:Int→Cn} {S:Int→Su} {P:Int→Prop}
structure iz (n:Int) (C:Int→Cn) (g:Int) (x0 x:Gr) (c:Int) (c':Cn):Prop where
 lock:c'.lock=(C c).lock∧(∀ ch,bh x ch↔bh x0 ch)∨(C c).lock=-1∧c'.lock=g∧(∀ ch,bh x ch↔bh x0 ch∨ch=c)∨bh x0 c∧c'.lock=-1∧(∀ ch,bh x ch↔bh x0 ch∧ch≠c)
 cap:0≤c'.cap∧c'.cap≤4∧(c'.buf.length:Int)≤c'.cap
 sub:c'.recv.Sublist (C c).recv∧c'.send.Sublist (C c).send
 hq:c'.recv=(C c).recv∧c'.send=(C c).send∨bh x0 c
theorem iz.iJ (I:Inv n nc ns G C S P) {g:Int} (g0:0≤g) (g1:g < n) {x:Gr} {c:Int} {c':Cn} (h:iz n C g (G g) x c c') (ch:Int) (a:1≤ch) (b:ch≤nc):(up C c c' ch).lock=-1∨0≤(up C c c' ch).lock∧(up C c c' ch).lock < n:=by
 by_cases e:ch=c
 ·subst e;rw [fP];rcases h.lock with l | l | l
  ·rw [l.1];exact I.iJ ch a b
  ·rw [l.2.1];omega
  ·exact .inl l.2.1
 ·rw [gJ _ _ e];exact I.iJ ch a b
theorem iz.um (I:Inv n nc ns G C S P) {g:Int} (g0:0≤g) (g1:g < n) {x:Gr} {c:Int} {c':Cn} (h:iz n C g (G g) x c c') (ch:Int) (a:1≤ch) (b:ch≤nc):bh x ch↔(up C c c' ch).lock=g:=by
 have:=I.iy g g0 g1 ch a b
 by_cases e:ch=c
 ·subst e;rw [fP];rcases h.lock with l | l | l
  ·grind
  ·grind
  ·grind
 ·rw [gJ _ _ e,← this];rcases h.lock with l | l | l
  ·rw [l.2]
  ·rw [l.2.2];simp [e]
  ·rw [l.2.2];simp [e]
theorem iz.uo (I:Inv n nc ns G C S P) {g:Int} (g0:0≤g) (g1:g < n) {x:Gr} {c:Int} {c':Cn} (h:iz n C g (G g) x c c') (ch k:Int) (a:1≤ch) (b:ch≤nc) (k0:0≤k) (k1:k < n) (kg:k≠g):(up C c c' ch).lock=k↔(C ch).lock=k:=by
 by_cases e:ch=c
 ·subst e;rw [fP];rcases h.lock with l | l | l
  ·rw [l.1]
  ·omega
  ·have:=(I.iy g g0 g1 ch a b).1 l.1;rw [l.2.1,this];omega
 ·rw [gJ _ _ e]
theorem iz.zD (I:Inv n nc ns G C S P) {g:Int} {x:Gr} {c:Int} {c':Cn} (h:iz n C g (G g) x c c') (ch:Int) (a:1≤ch) (b:ch≤nc):0≤(up C c c' ch).cap∧(up C c c' ch).cap≤4∧((up C c c' ch).buf.length:Int)≤(up C c c' ch).cap:=by
 by_cases e:ch=c
 ·subst e;rw [fP];exact h.cap
 ·rw [gJ _ _ e];exact I.cap ch a b
theorem iz.q1 {g:Int} {x0 x:Gr} {c:Int} {c':Cn} (h:iz n C g x0 x c c') (ch:Int):(up C c c' ch).recv.Sublist (C ch).recv∧(up C c c' ch).send.Sublist (C ch).send:=by
 by_cases e:ch=c
 ·subst e;rw [fP];exact h.sub
 ·rw [gJ _ _ e];exact ⟨List.Sublist.refl _,List.Sublist.refl _⟩
theorem iz.q2 {g:Int} {x0 x:Gr} {c:Int} {c':Cn} (h:iz n C g x0 x c c') (ch:Int) (hn:¬ bh x0 ch):(up C c c' ch).recv=(C ch).recv∧(up C c c' ch).send=(C ch).send:=by
 by_cases e:ch=c
 ·subst e;rw [fP];exact h.hq.resolve_right hn
 ·rw [gJ _ _ e];exact ⟨rfl,rfl⟩
theorem Inv.chan (I:Inv n nc ns G C S P) {g:Int} {x:Gr} {c:Int} {c':Cn} (g0:0≤g) (g1:g < n) (lx:Loc nc ns n x) (hc:iz n C g (G g) x c c') (ow:∀ i,Own x i↔Own (G g) i) (mt:∀ i d,Own x i→Match (G g) i d→Match x i d)
  (qx:∀ i j,dB (G g) i j→(∀ ch,1≤ch→ch≤nc→i∈(up C c c' ch).recv∨i∈(up C c c' ch).send→dB x i j)) (nw:¬ cj x)
  (fh:¬ cG x) (wx:∀ q∈x.an,q∈(G g).an) (wg:jC (G g)→jC x) (cg:ke (G g)→ke x∧(SR x→SR (G g))):Inv n nc ns (up G g x) (up C c c') S P:=by
 have M:Move n nc ns G C S g n x (G n) (up C c c'):=by
  refine ⟨g0,g1,by omega,lx,fun _ h=>by omega,Part.refl _,hc.iJ I g0 g1,hc.um I g0 g1,hc.uo I g0 g1,hc.zD I,ow,fun i hi=>mt i _ hi (I.own g g0 g1 i ((ow i).1 hi)).2.1,fun ch _ _=>hc.q1 ch,fun ch _ _=>hc.q2 ch,fun ch i a b hi _ hq=>qx _ _ hq ch a b hi,fun _ _ _ _ _ _=>id,fun h=>absurd h nw,fun h=>absurd h fh,fun _ _ _ _ _ _=>cg,fun k a b _ c e=>?_,fun q hq=>.inl (wx q hq),fun h _=>wg h,fun h=>(I.wk g g0 g1 g (wx g h)).1 rfl,fun h=>?_,fun k a b _ hk=>?_⟩
  ·grind
  ·have:=(I.loc g g0 g1).w3 n (wx n h);omega
  ·grind
 refine (I.move M).pz (fun h a b=>?_) (fun _ _ _=>rfl) (fun _ _ _=>rfl) (fun _ _ _=>Iff.rfl)
 by_cases e:h=g
 ·subst e;rw [fP,zz]
 ·rw [gJ _ _ e,zA _ _ _ e (by omega)]
theorem Inv.wG (I:Inv n nc ns G C S P) {ch i:Int} (a:1≤ch) (b:ch≤nc) (h:i∈(C ch).recv∨i∈(C ch).send):0≤i∧i < ns∧(S i).ch=ch∧0≤(S i).g∧(S i).g < n∧Own (G (S i).g) i∧dB (G (S i).g) i (S i).cs∧Match (G (S i).g) i (S i):=by
 obtain ⟨t1,t2,t3,t4,t5,t6,t7,t8,t9⟩:=I.q ch a b i h;exact ⟨t1,t2,t3,t6,t7,t8,t9,(I.own _ t6 t7 i t8).2.1⟩
theorem dB.kf {x:Gr} {i j:Int} (h:dB x i j) (hs:SE x) (o1:∀ i∈x.order,bL x i∈x.aC) (hj:j∈x.order) (hn:¬ bh x (bL x j)):Wt x∨x.place=31:=by
 rcases h with h | h
 ·grind [Wt,SE,SR]
 ·obtain ⟨_,_,_,_,h⟩:=h;have hl:=o1 j hj;rcases h with h | h | h | h | h | h
  ·exact absurd (.inr ⟨hs,.inl ⟨by omega,hl⟩⟩) hn
  ·exact .inl (.inr ⟨hs,.inl h⟩)
  ·exact .inl (.inr ⟨hs,.inr (.inl h)⟩)
  ·exact .inr h
  ·exact .inl (.inr ⟨hs,.inr (.inr h)⟩)
  ·exact absurd (.inr ⟨hs,.inl ⟨by omega,hl⟩⟩) hn
theorem Inv.Dg (I:Inv n nc ns G C S P) {ch i g:Int} (a:1≤ch) (b:ch≤nc) (h:i∈(C ch).recv∨i∈(C ch).send) (g0:0≤g) (g1:g < n) (hh:bh (G g) ch) (cq:(S i).g≠g) :
  Wt (G (S i).g)∨SE (G (S i).g)∧(G (S i).g).place=31∧(G (S i).g).bp=true:=by
 obtain ⟨t1,t2,t3,t4,t5,t6,t7,t8⟩:=I.wG a b h;have L:=I.loc _ t4 t5
 by_cases hs:SE (G (S i).g)
 ·rcases t8 with m | m
  ·exact absurd hs (by have:=m.1;unfold SR at this;unfold SE;omega)
  ·obtain ⟨_,m1,m2,m3,m4,m5,m6,_⟩:=m;have sp:cZ (G (S i).g).place:=by
    rcases t7 with q | q
    ·exact absurd hs (by have:=q.1;unfold SR at this;unfold SE;omega)
    ·unfold cZ;omega
   have L2:=L.se hs sp;have nh:¬ bh (G (S i).g) (bL (G (S i).g) (S i).cs):=by
    intro hq;rw [← m4,t3,I.iy _ t4 t5 ch a b] at hq;rw [I.iy _ g0 g1 ch a b,hq] at hh;exact cq hh
   rcases t7.kf hs (fun i hi=>(L2.o1 i hi).2.2) m6 nh with w | w
   ·exact .inl w
   ·exact .inr ⟨hs,w,L2.c2 (by omega)⟩
 ·rcases t7 with q | q
  ·exact .inl (.inl ⟨q.1,q.2.1,q.2.2.1⟩)
  ·exact absurd q.1 hs
end
end Sx
namespace Sx
section
variable {n nc ns:Int} {G:Int→Gr} {C:Int→Cn} {S:Int→Su} {P:Int→Prop}
theorem SR.ne {x:Gr} (h:SR x):¬ SE x:=by unfold SR at h;unfold SE;omega
theorem ff.part {x y:Gr} (p:Part x y) (hp:SE x→x.bp=true→y.bp=true) (hs:SE x) (h:ff nc ns x):ff nc ns y:=by
 obtain ⟨b1,b2,b3,b4,b5,b6,b7,b8,b9,uv,pE,pF,uw,ux,uy,rX,uz,rY,rZ,uA⟩:=h;have ho:=p.aG;have hc:∀ j,bL y j=bL x j:=fun j=>by unfold bL;rw [ho]
 constructor <;> simp only [p.order,p.aC,p.au,p.k,p.place,p.code,ho,hc] <;> try assumption
 exact fun h=>hp hs (rZ h)
theorem Loc.part {x y:Gr} (p:Part x y) (L:Loc nc ns n x) (h0:y.status=0∨y.status=1∨y.status=2) (h1:y.status=1→y.place=14∨y.place=19) (h2:y.place=19→y.status=1) (h3:y.status=2→x.status=2)
  (h4:y.token=true→Wt y∧0≤y.param∧y.place≠14) (h5:-1≤y.param∧y.param < ns) (h6:y.place=14→y.status=0→0≤y.param) (h7:0≤y.param→Wt y∧Own y y.param) (h8:0≤y.param→SE y→y.bp=true) (h9:SE x→x.bp=true→y.bp=true):Loc nc ns n y:=by
 obtain ⟨a1,a2,a3,a4,a5,a6,a7,a8,a9,kP,mw,lC,mz,mA,mC,lD,ov,oz,nr,oA,oB,mD⟩:=L;have ho:=p.aG
 constructor <;> (try simp only [p.ops,p.at_,p.place,p.an,p.hold,p.bq,p.code,ho,p.sr]) <;> try assumption
 ·rw [← p.place];exact h1
 ·rw [← p.place];exact h2
 ·exact fun h=>kP (h3 h)
 ·rw [← p.place];exact h4
 ·rw [← p.place];exact h6
 ·rw [p.se];exact fun h1 h2=>(mD h1 h2).part p h9 h1
theorem Inv.Jp (I:Inv n nc ns G C S P) {g i:Int} {x y:Gr} {c:Int} {c':Cn} (g0:0≤g) (g1:g < n) (lx:Loc nc ns n x) (hc:iz n C g (G g) x c c') (ow:∀ i,Own x i↔Own (G g) i) (mt:∀ i d,Own x i→Match (G g) i d→Match x i d)
  (nq:∀ i j,¬ dB (G g) i j) (nw:¬ cj x) (wx:∀ q∈x.an,q∈(G g).an) (ki:¬ Wt (G g))
  (hx:cG x) (xi:x.hold=i) (sc:(S i).ch=c) (c0:1≤c) (c1:c≤nc) (xh:bh x c) (hq:i∈(C c).recv∨i∈(C c).send) (py:Part (G (S i).g) y) (e1:y.param=(G (S i).g).param) (e2:y.token=(G (S i).g).token) (e3:y.status=(G (S i).g).status)
  (hp:(S i).cs < 0∧i∉c'.recv∧i∉c'.send∧y.bp=(G (S i).g).bp∨0≤(S i).cs∧(G (S i).g).bp=false∧y.bp=true∧bh (G g) c) :
  Inv n nc ns (fX G (S i).g y g x) (up C c c') S P:=by
 obtain ⟨t1,t2,t3,t4,t5,t6,t7,t8⟩:=I.wG c0 c1 hq;have cq:(S i).g≠g:=fun e=>nq _ _ (e ▸ t7)
 have L:=I.loc _ t4 t5;have F:Wt (G (S i).g)∧(G (S i).g).param=-1:=by
  rcases hp with hp | hp
  ·rcases t7 with q | q
   ·exact ⟨.inl ⟨q.1,q.2.1,q.2.2.1⟩,q.2.2.2.2⟩
   ·omega
  ·have iK:SE (G (S i).g):=by
    rcases t8 with m | m
    ·omega
    ·exact m.1
   refine ⟨?_,?_⟩
   ·rcases I.Dg c0 c1 hq g0 g1 hp.2.2.2 cq with w | w
    ·exact w
    ·grind
   ·by_cases e:0≤(G (S i).g).param
    ·have:=L.p3 e iK;rw [hp.2.1] at this;cases this
    ·have:=L.p0;omega
 have other:∀ k,0≤k→k < n→cG (G k)→(S (G k).hold).g=(S i).g→False:=by
  intro k a b cl e;obtain ⟨s1,s2,s3,s4,s5,s6,s7,s8,s9,mq,pG⟩:=I.cl k a b cl;rw [e] at s7 s8 s9 mq pG;rcases hp with hp | hp
  ·rcases t8 with m | m
   ·have k1:=pG m.1;have e5:(G k).hold=i:=by
     have m1:=s9.2;have m2:=t6.2;rcases m1 with m1 | m1
     ·rcases m2 with m2 | m2
      ·omega
      ·exact absurd m2.1 m.1.ne
     ·exact absurd m1.1 m.1.ne
    rw [e5,sc] at k1;rcases hq with hq | hq
    ·exact k1.1 hq
    ·exact k1.2 hq
   ·omega
  ·have iK:SE (G (S i).g):=by
    rcases t8 with m | m
    ·omega
    ·exact m.1
   have:=mq iK;rw [hp.2.1] at this;cases this
 have hw:Wt y:=py.wt.2 F.1;have pk:SE (G (S i).g)→(G (S i).g).bp=true→y.bp=true:=by grind
 have ly:Loc nc ns n y:=by
  refine L.part py (by rw [e3];exact L.pq) (by rw [e3,py.place];exact L.wD) (by rw [e3,py.place];exact L.wE) (by rw [e3];exact id) (by rw [e2,e1,py.place,py.wt];exact L.tk) (by rw [e1];exact L.p0) (by rw [e1,e3,py.place];exact L.p1) (by rw [e1,F.2];intro h;omega) (by rw [e1,F.2];intro h;omega) pk
 refine I.move ⟨g0,g1,cq,lx,fun _ _=>ly,py,hc.iJ I g0 g1,hc.um I g0 g1,hc.uo I g0 g1,hc.zD I,ow,fun i hi=>mt i _ hi (I.own g g0 g1 i ((ow i).1 hi)).2.1,fun ch _ _=>hc.q1 ch,fun ch _ _=>hc.q2 ch,fun ch i a b hi _ hq=>absurd hq (nq _ _),?_,fun h=>absurd h nw,?_,fun _ _ _ _ _ _ h=>absurd h.1 ki,fun k a b _ cl e=>absurd (other k a b cl e) id,fun q hq=>.inl (wx q hq),fun h _=>absurd h.1 ki,fun h=>(I.wk g g0 g1 g (wx g h)).1 rfl,?_,?_⟩
 ·intro ch j _ _ _ _ hq;unfold dB at hq ⊢;rw [py.sr,py.se,py.place,py.bq,e1,py.au,py.order,py.k,py.code];exact hq
 ·intro _;rw [xi,sc];refine ⟨c0,c1,xh,rfl,t4,t5,⟨hw,by rw [e1];exact F.2,?_⟩,(py.own i).2 t6,?_⟩
  ·intro iK;rcases hp with hp | hp
   ·rcases t8 with m | m
    ·exact absurd (py.se.1 iK) m.1.ne
    ·omega
   ·exact hp.2.2.1
  ·intro qE;rw [fP];rcases hp with hp | hp
   ·grind
   ·rcases t8 with m | m
    ·omega
    ·exact absurd m.1 (py.sr.1 qE).ne
 ·intro h;have:=(I.wk g g0 g1 _ (wx _ h)).2.2.1;rw [F.2] at this;omega
 ·intro k a b _ _ w;have:=w.2.1;rw [F.2] at this;omega
theorem Inv.serve (I:Inv n nc ns G C S P) {g i:Int} {x y:Gr} {c:Int} {c':Cn} (g0:0≤g) (g1:g < n) (lx:Loc nc ns n x) (hc:iz n C g (G g) x c c') (ow:∀ i,Own x i↔Own (G g) i) (mt:∀ i d,Own x i→Match (G g) i d→Match x i d)
  (nq:∀ i j,¬ dB (G g) i j) (nw:¬ cj x) (fh:¬ cG x) (wx:∀ q∈x.an,q∈(G g).an∨q=(S i).g) (ki:¬ Wt (G g))
  (sc:(S i).ch=c) (t4:0≤(S i).g) (t5:(S i).g < n) (cq:(S i).g≠g) (F1:Wt (G (S i).g)) (F2:(G (S i).g).param=-1) (F3:Own (G (S i).g) i) (F4:SE (G (S i).g)→y.bp=true) (F5:i∉c'.recv∧i∉c'.send)
  (other:∀ k,0≤k→k < n→k≠g→cG (G k)→(S (G k).hold).g=(S i).g→False)
  (py:Part (G (S i).g) y) (e1:y.param=i) (e2:y.token=(G (S i).g).token) (e3:y.status=(G (S i).g).status) :
  Inv n nc ns (fX G (S i).g y g x) (up C c c') S P:=by
 have L:=I.loc _ t4 t5;have hw:Wt y:=py.wt.2 F1;have i1:=(I.own _ t4 t5 i F3).1;have tok:(G (S i).g).token=false:=by
  cases h:(G (S i).g).token
  ·rfl
  ·have:=(L.tk h).2.1;rw [F2] at this;omega
 have Jq:(G (S i).g).place=14→(G (S i).g).status≠0:=fun a b=>by have:=L.p1 a b;rw [F2] at this;omega
 have ly:Loc nc ns n y:=by
  refine L.part py (by rw [e3];exact L.pq) (by rw [e3,py.place];exact L.wD) (by rw [e3,py.place];exact L.wE) (by rw [e3];exact id) (by rw [e2,tok];intro h;cases h) (by rw [e1];have:=F3.1;omega) (by rw [e1];exact fun _ _=>F3.1) (by rw [e1];exact fun _=>⟨hw,(py.own i).2 F3⟩) (fun _ h=>F4 (py.se.1 h)) (fun h _=>F4 h)
 have wy:jC y:=⟨hw,by rw [e1];exact F3.1,by rw [e2];exact tok,by rw [py.place,e3];exact Jq⟩
 have none:∀ k,0≤k→k < n→(S i).g∉(G k).an:=fun k a b h=>by
  have:=(I.wk k a b _ h).2.2.1;rw [F2] at this;omega
 refine I.move ⟨g0,g1,cq,lx,fun _ _=>ly,py,hc.iJ I g0 g1,hc.um I g0 g1,hc.uo I g0 g1,hc.zD I,ow,fun i hi=>mt i _ hi (I.own g g0 g1 i ((ow i).1 hi)).2.1,fun ch _ _=>hc.q1 ch,fun ch _ _=>hc.q2 ch,fun ch i a b hi _ hq=>absurd hq (nq _ _),?_,fun h=>absurd h nw,fun h=>absurd h fh,fun _ _ _ _ _ _ h=>absurd h.1 ki,fun k a b kg cl e=>absurd (other k a b kg cl e) id,fun q hq=>(wx q hq).imp id (fun e=>⟨e,fun k a b _=>none k a b⟩),fun h _=>absurd h.1 ki,?_,fun _=>wy,fun k a b _ hk=>absurd hk (none k a b)⟩
 ·intro ch j a b hj _ hq;unfold dB at hq ⊢;rw [py.sr,py.se,py.place,py.bq,py.au,py.order,py.k,py.code];rcases hq with hq | hq
  ·exfalso
   have ej:j=i:=by
    have:=F3.2;rcases this with m | m
    ·omega
    ·exact absurd m.1 hq.1.ne
   subst ej;have dH:j∈(C ch).recv∨j∈(C ch).send:=hj.imp (fun h=>(hc.q1 ch).1.subset h) (fun h=>(hc.q1 ch).2.subset h);have:=(I.wG a b dH).2.2.1;rw [sc] at this;subst this;rw [fP] at hj;rcases hj with hj | hj
   ·exact F5.1 hj
   ·exact F5.2 hj
  ·exact .inr hq
 ·intro h;rcases wx g h with h | h
  ·exact (I.wk g g0 g1 g h).1 rfl
  ·exact cq h.symm
theorem Inv.readies (I:Inv n nc ns G C S P) {g p:Int} {x y:Gr} {l:List Int} (g0:0≤g) (g1:g < n) (lx:Loc nc ns n x) (hh:∀ ch,bh x ch↔bh (G g) ch) (ow:∀ i,Own x i↔Own (G g) i) (mt:∀ i d,Own x i→Match (G g) i d→Match x i d)
  (nq:∀ i j,¬ dB (G g) i j) (nw:¬ cj x) (fh:¬ cG x) (hw:(G g).an=p :: l) (wx:x.an=l) (ki:¬ Wt (G g)) (py:Part (G p) y) (e1:y.param=(G p).param) (e2:y.bp=(G p).bp)
  (e3:(G p).status=1∧y.status=0∧y.token=(G p).token∨(G p).status=0∧y.status=0∧y.token=true) :
  Inv n nc ns (fX G p y g x) C S P:=by
 have hp:p∈(G g).an:=by rw [hw];simp
 obtain ⟨k1,k2,k3,k4,k5⟩:=I.wk g g0 g1 p hp;obtain ⟨p0,p1⟩:=(I.loc g g0 g1).w3 p hp;have L:=I.loc p p0 p1;have nd:p∉l:=by have:=(I.loc g g0 g1).w4;rw [hw] at this;exact (List.nodup_cons.1 this).1
 have Jr:(G p).status=1→(G p).place=14:=fun h=>by
  rcases L.wD h with h | h
  ·exact h
  ·rcases k2 with k | k <;> omega
 have ly:Loc nc ns n y:=by
  refine L.part py ?_ ?_ ?_ ?_ ?_ ?_ ?_ ?_ ?_ ?_
  ·omega
  ·omega
  ·rw [py.place];intro h;have:=L.wE h;have:=Jr this;omega
  ·omega
  ·rw [py.wt,e1,py.place];intro h;rcases e3 with e | e
   ·grind
   ·grind
  ·rw [e1];exact L.p0
  ·omega
  ·rw [e1,py.wt,py.own];exact L.p2
  ·rw [e1,e2,py.se];exact L.p3
  ·grind
 refine I.move ⟨g0,g1,k1,lx,fun _ _=>ly,py,I.iJ,fun ch a b=>by rw [hh];exact I.iy g g0 g1 ch a b,fun _ _ _ _ _ _ _=>Iff.rfl,I.cap,ow,fun i hi=>mt i _ hi (I.own g g0 g1 i ((ow i).1 hi)).2.1,fun _ _ _=>⟨List.Sublist.refl _,List.Sublist.refl _⟩,fun _ _ _ _=>⟨rfl,rfl⟩,fun ch i a b hi _ hq=>absurd hq (nq _ _),?_,fun h=>absurd h nw,fun h=>absurd h fh,fun _ _ _ _ _ _ h=>absurd h.1 ki,?_,fun q hq=>.inl (by rw [hw];rw [wx] at hq;exact List.mem_cons_of_mem _ hq),fun h _=>absurd h.1 ki,?_,?_,?_⟩
 ·intro ch j _ _ _ _ hq;unfold dB at hq ⊢;rw [py.sr,py.se,py.place,py.bq,e1,py.au,py.order,py.k,py.code];exact hq
 ·intro k a b _ cl e w;have:=w.2.1;omega
 ·intro h;rw [wx] at h;exact (I.wk g g0 g1 g (by rw [hw];exact List.mem_cons_of_mem _ h)).1 rfl
 ·grind
 ·intro k a b e hk _;exact absurd (I.nk k g p a b g0 g1 hk hp) e
end
end Sx
namespace Sx
theorem zE (s:ah) (l:List Gr) (hl:s.gs=l) (g h:Nat) (x:Gr) (hg:g < l.length) (s':ah) (e:s'.gs=l.set g x):aa s' h=if h=g then x else aa s h:=by
 unfold aa;rw [e,hl];simp only [List.getD_eq_getElem?_getD,List.getElem?_set]
 by_cases c:g=h
 ·subst c;simp [hg]
 ·grind
theorem oC {s s':ah} {g:Nat} {x:Gr} (hg:g < s.gs.length) (e:s'.gs=s.gs.set g x) (h:Int) (h0:0≤h):gA s' h=up (gA s) g x h:=by
 unfold gA up;rw [zE s s.gs rfl g h.toNat x hg s' e]
 by_cases c:h=g
 ·subst c;simp
 ·grind
theorem zF {s s':ah} {g p:Nat} {x y:Gr} (hg:g < s.gs.length) (hp:p < s.gs.length) (e:s'.gs=(s.gs.set p y).set g x) (h:Int) (h0:0≤h):gA s' h=fX (gA s) p y g x h:=by
 have e1:=oC (s:={ s with gs:=s.gs.set p y }) (s':=s') (g:=g) (x:=x) (by simpa using hg) e h h0;have e2:=oC (s:=s) (s':={ s with gs:=s.gs.set p y }) (g:=p) (x:=y) hp rfl h h0;rw [e1];unfold fX;unfold up at e2 ⊢
 by_cases c:h=g
 ·grind
 ·grind
theorem kQ {s s':ah} {c:Int} {x:Cn} (hc:1≤c) (bX:c≤s.ax.length) (e:s'.ax=s.ax.set (c - 1).toNat x) (ch:Int) (h1:1≤ch):cn s' ch=up (cn s) c x ch:=by
 unfold cn up;rw [e];simp only [List.getD_eq_getElem?_getD,List.getElem?_set]
 by_cases q:ch=c
 ·grind
 ·have:¬ (c - 1).toNat=(ch - 1).toNat:=by omega
  rw [if_neg q,if_neg this]
theorem wH {s s':ah} {i:Int} {x:Su} (hi:0≤i) (de:i < s.aD.length) (e:s'.aD=s.aD.set i.toNat x) (j:Int) (h1:0≤j):su s' j=up (su s) i x j:=by
 unfold su up;rw [e];simp only [List.getD_eq_getElem?_getD,List.getElem?_set]
 by_cases q:j=i
 ·grind
 ·grind
def lE (s:ah):Int:=((List.range s.gs.length).map (fun g=>(aa s g).at_)).sum
structure MInv (s:ah):Prop where
 v:V s
 n1:1≤s.gs.length
 n8:s.gs.length≤8
 c8:s.ax.length≤8
 sn:(s.aD.length:Int)=s.cY
 jT:s.aD.length≤64
 c1:1≤s.bM
 pH:s.bM≤16
 ca:s.cache.length=s.gs.length
 f0:0≤s.fresh
 po:∃ H,Po.Inv s.cY.toNat s.bM.toNat ⟨s.cache,s.middle,s.fresh.toNat,H⟩
 oD:0≤s.drawn
 pI:s.drawn≤s.cD.length
 du:∀ x∈s.cD,0≤x∧x < 65536
 d5:s.cD.length≤1000
 dn:(s.done.length:Int)=lE s
structure Rest (s s':ah):Prop where
 gl:s'.gs.length=s.gs.length
 cl:s'.ax.length=s.ax.length
 sl:s'.aD.length=s.aD.length
 sN:s'.cY=s.cY
 cN:s'.bM=s.bM
 ca:s'.cache=s.cache
 md:s'.middle=s.middle
 fr:s'.fresh=s.fresh
 dw:s'.cD=s.cD
 dn:s'.drawn=s.drawn
 wI:s'.done=s.done
 at_:∀ g,g < s.gs.length→(aa s' g).at_=(aa s g).at_
theorem Dh {s s':ah} (gl:s'.gs.length=s.gs.length) (at_:∀ g,g < s.gs.length→(aa s' g).at_=(aa s g).at_):lE s'=lE s:=by
 unfold lE;rw [gl]
 congr 1
 exact List.map_congr_left fun g hg=>at_ g (by simpa using hg)
theorem Rest.live {s s':ah} (r:Rest s s') (i:Int):fS s' i=fS s i:=by unfold fS vY;rw [r.ca,r.md,r.fr]
theorem MInv.rest {s s':ah} (h:MInv s) (r:Rest s s') (v:V s'):MInv s':=by
 obtain ⟨a1,a2,a3,a4,a5,a6,a7,a8,a9,kP,mw,lC,mz,mA,mC,lD⟩:=h;refine ⟨v,?_,?_,?_,?_,?_,?_,?_,?_,?_,?_,?_,?_,?_,?_,?_⟩
 ·rw [r.gl];exact a2
 ·rw [r.gl];exact a3
 ·rw [r.cl];exact a4
 ·rw [r.sl,r.sN];exact a5
 ·rw [r.sl];exact a6
 ·rw [r.cN];exact a7
 ·rw [r.cN];exact a8
 ·rw [r.ca,r.gl];exact a9
 ·rw [r.fr];exact kP
 ·rw [r.sN,r.cN,r.ca,r.md,r.fr];exact mw
 ·rw [r.dn];exact lC
 ·rw [r.dn,r.dw];exact mz
 ·rw [r.dw];exact mA
 ·rw [r.dw];exact mC
 ·rw [r.wI,Dh r.gl r.at_];exact lD
theorem V.of {s s':ah} (r:Rest s s') {G':Int→Gr} {C':Int→Cn} {S':Int→Su} (I:Inv s.gs.length s.ax.length s.aD.length G' C' S' (fun i=>fS s i=true))
  (hG:∀ g,0≤g→gA s' g=G' g) (hC:∀ c,1≤c→cn s' c=C' c) (hS:∀ i,0≤i→su s' i=S' i):V s':=by
 unfold V;rw [r.gl,r.cl,r.sl];exact I.pz (fun g a _=>hG g a) (fun c a _=>hC c a) (fun i a _=>hS i a) (fun i _ _=>by rw [r.live])
structure Sf (nc ns n:Int) (x x':Gr):Prop where
 lx:Loc nc ns n x'
 hh:∀ ch,bh x' ch↔bh x ch
 ow:∀ i,Own x' i↔Own x i
 mt:∀ i d,Own x' i→Match x i d→Match x' i d
 qx:∀ i j,dB x i j→dB x' i j
 fh:¬ cG x'
 wx:∀ q∈x'.an,q∈x.an
 wg:jC x→jC x'
 cg:ke x→ke x'∧(SR x'→SR x)
theorem dY (s:ah) (g:Nat):gA s g=aa s g:=by unfold gA;simp
theorem gK (s:ah) (g h:Nat) (x:Gr) (hg:g < s.gs.length):aa (ai s g x) h=if h=g then x else aa s h:=zE s s.gs rfl g h x hg _ rfl
theorem Rest.fJ (s:ah) {g:Nat} {x:Gr} (hg:g < s.gs.length) (ha:x.at_=(aa s g).at_):Rest s (ai s g x):=by
 refine ⟨by simp [Sx.ai],rfl,rfl,rfl,rfl,rfl,rfl,rfl,rfl,rfl,rfl,fun h _=>?_⟩;rw [gK s g h x hg]
 split
 ·grind
 ·rfl
theorem MInv.self {s:ah} (h:MInv s) {g:Nat} (hg:g < s.gs.length) {x:Gr} (f:Sf s.ax.length s.aD.length s.gs.length (aa s g) x) (ha:x.at_=(aa s g).at_)
  (wn:cj x→1≤(su s x.hold).ch∧(su s x.hold).ch≤s.ax.length∧bh x (su s x.hold).ch∧(x.hold∈(cn s (su s x.hold).ch).recv∨x.hold∈(cn s (su s x.hold).ch).send)∧0≤(su s x.hold).cs):MInv (ai s g x):=by
 have r:=Rest.fJ s hg ha;have e:=dY s g;refine h.rest r (V.of r (Inv.self h.v (g:=g) (x:=x) (by omega) (by omega) f.lx ?_ ?_ ?_ ?_ wn f.fh ?_ ?_ ?_) (fun k k0=>oC hg rfl k k0) (fun _ _=>rfl) (fun _ _=>rfl))
 all_goals rw [e]
 ·exact f.hh
 ·exact f.ow
 ·exact f.mt
 ·exact f.qx
 ·exact f.wx
 ·exact f.wg
 ·exact f.cg
end Sx
namespace Sx
def hP (p:Int):Prop:=5≤p∧p≤12∨p=16∨21≤p∧p≤23
structure fG (x x':Gr):Prop where
 ops:x'.ops=x.ops
 at_:x'.at_=x.at_
 status:x'.status=x.status
 token:x'.token=x.token
 param:x'.param=x.param
 an:x'.an=x.an
 ns:¬ SE x
 st:x.status=0
 p0:x.place≠0
 o1:¬ (11≤x.place∧x.place≤15)
 o2:¬ (11≤x'.place∧x'.place≤15)
 ok:bn (aG x).kind x'.place
 q1:x'.place≠0∧x'.place≠27∧(x'.place=17→x.an≠[])∧x'.place≠19
 q2:x'.place=18∨x.place≠18∧x.place≠19
 q3:x.an=[]∨x'.place=16∨x'.place=17∨x'.place=22∨x'.place=23
variable {nc ns n:Int} {x x':Gr}
theorem fG.aG (h:fG x x'):aG x'=aG x:=by unfold Sx.aG;rw [h.ops,h.at_]
theorem fG.loc (h:fG x x') (L:Loc nc ns n x) (hd:x'.place=7∨x'.place=8∨x'.place=23→0≤x'.hold∧x'.hold < ns):Loc nc ns n x':=by
 obtain ⟨a1,a2,a3,a4,a5,a6,a7,a8,a9,kP,mw,lC,mz,mA,mC,lD,ov,oz,nr,oA,oB,mD⟩:=L;have ho:=h.aG;obtain ⟨h1,h2,h3,h4,h5,h6,h7,h8,h9,iL,iM,iA,gR,lF,Js⟩:=h;have hk:¬ (Sx.aG x).kind=9:=h7;have hn:¬ Wt x:=by
  rintro (w | w)
  ·omega
  ·exact h7 w.1
 have Qn:x.param=-1:=by grind
 have pJ:x.token=false:=by grind
 have Jt:x'.place≠26:=by
  intro e;clear a7 a8 a9 kP lC lD nr Js lF;unfold bn at iA;rw [e] at iA;omega
 have ji:=(a5.resolve_left h9).1
 constructor <;> (try simp only [h1,h2,h3,h4,h5,h6,ho]) <;> try assumption
 ·exact .inr ⟨ji,iA⟩
 ·intro _ e1 e2 e3 e4;rcases lF with lF | lF
  ·exact absurd lF e1
  ·exact a6 h9 lF.1 lF.2 e3 e4
 ·rw [h8];simp
 ·omega
 ·rw [h8];simp
 ·rw [pJ];simp
 ·grind
 ·exact gR.2.2.1
 ·intro e;rcases e with e | e | e | e | e
  ·exact hd (.inl e)
  ·omega
  ·exact hd (.inr (.inr e))
  ·exact absurd e Jt
  ·omega
 ·omega
 ·omega
 ·omega
 ·omega
 ·intro e;unfold SE at e;rw [ho] at e;exact absurd e hk
theorem fG.own (h:fG x x') (i:Int):¬ Own x i∧¬ Own x' i:=by
 have ho:=h.aG;have hk:¬ (Sx.aG x).kind=9:=h.ns
 constructor
 ·rintro ⟨_,w | w⟩
  ·exact h.o1 ⟨w.2.1,w.2.2.1⟩
  ·exact h.ns w.1
 ·rintro ⟨_,w | w⟩
  ·exact h.o2 ⟨w.2.1,w.2.2.1⟩
  ·grind [Wt,SE,SR]
theorem fG.nq (h:fG x x') (i j:Int):¬ dB x i j:=by
 rintro (w | w)
 ·exact h.o1 (by omega)
 ·exact h.ns w.1
theorem fG.nw (h:fG x x'):¬ Wt x:=by
 rintro (w | w)
 ·exact h.o1 (by omega)
 ·exact h.ns w.1
theorem fG.fh (h:fG x x') (e:x'.place≠8):¬ cG x':=by
 rintro (w | w)
 ·exact e w
 ·exact h.q1.2.1 w
theorem fG.hh (h:fG x x') (e:hP x.place↔hP x'.place) (ch:Int):bh x' ch↔bh x ch:=by
 have ho:=h.aG;have hk:¬ (Sx.aG x).kind=9:=h.ns;unfold bh SE;rw [ho];unfold hP at e
 constructor
 ·omega
 ·omega
theorem fG.sf (h:fG x x') (L:Loc nc ns n x) (hd:x'.place=7∨x'.place=8∨x'.place=23→0≤x'.hold∧x'.hold < ns) (e:hP x.place↔hP x'.place) (n8:x'.place≠8):Sf nc ns n x x':=by
 refine ⟨h.loc L hd,h.hh e,fun i=>⟨fun w=>absurd w (h.own i).2,fun w=>absurd w (h.own i).1⟩,fun i d w=>absurd w (h.own i).2,fun i j w=>absurd w (h.nq i j),h.fh n8,fun q=>by rw [h.an];exact id,fun w=>absurd w.1 h.nw,fun w=>absurd w.1 h.nw⟩
end Sx
namespace Sx
variable {s:ah} {g:Nat}
theorem MInv.loc (h:MInv s) (hg:g < s.gs.length):Loc s.ax.length s.aD.length s.gs.length (aa s g):=by
 have:=Inv.loc h.v (g:Int) (by omega) (by omega);rw [dY] at this;exact this
theorem MInv.Di (h:MInv s) (hg:g < s.gs.length) {x:Gr} (f:fG (aa s g) x) (e:hP (aa s g).place↔hP x.place) (nw:¬ cj x) (n8:x.place≠8):MInv (ai s g x) :=
 h.self hg (f.sf (h.loc hg) (fun q=>absurd (show cj x by unfold cj;omega) nw) e n8) f.at_ (fun w=>absurd w nw)
theorem wJ (s:ah) (c:Int) (c':Cn) (h:Nat):aa (aF s c c') h=aa s h:=rfl
theorem Ju (s:ah) (c:Int) (c':Su) (h:Nat):aa (bg s c c') h=aa s h:=rfl
theorem Rest.trans {s t u:ah} (a:Rest s t) (b:Rest t u):Rest s u:=by
 refine ⟨b.gl.trans a.gl,b.cl.trans a.cl,b.sl.trans a.sl,b.sN.trans a.sN,b.cN.trans a.cN,b.ca.trans a.ca,b.md.trans a.md,b.fr.trans a.fr,b.dw.trans a.dw,b.dn.trans a.dn,b.wI.trans a.wI,fun g hg=>?_⟩;rw [b.at_ g (by rw [a.gl];exact hg),a.at_ g hg]
theorem Rest.dK (s:ah) (c:Int) (c':Cn):Rest s (aF s c c'):=⟨rfl,by simp [Sx.aF],rfl,rfl,rfl,rfl,rfl,rfl,rfl,rfl,rfl,fun _ _=>rfl⟩
theorem MInv.chan (h:MInv s) (hg:g < s.gs.length) {x:Gr} {c:Int} {c':Cn} (c0:1≤c) (c1:c≤s.ax.length) (lx:Loc s.ax.length s.aD.length s.gs.length x) (hc:iz s.gs.length (cn s) g (aa s g) x c c') (ow:∀ i,Own x i↔Own (aa s g) i) (mt:∀ i d,Own x i→Match (aa s g) i d→Match x i d)
  (qx:∀ i j,dB (aa s g) i j→(∀ ch:Int,1≤ch→ch≤s.ax.length→i∈(up (cn s) c c' ch).recv∨i∈(up (cn s) c c' ch).send→dB x i j)) (nw:¬ cj x)
  (fh:¬ cG x) (wx:∀ q∈x.an,q∈(aa s g).an) (wg:jC (aa s g)→jC x) (cg:ke (aa s g)→ke x∧(SR x→SR (aa s g))) (ha:x.at_=(aa s g).at_):MInv (ai (aF s c c') g x):=by
 have r:Rest s (Sx.ai (Sx.aF s c c') g x):=(Rest.dK s c c').trans (Rest.fJ _ hg ha);have e:=dY s g;refine h.rest r (V.of r (Inv.chan h.v (g:=g) (x:=x) (c:=c) (c':=c') (by omega) (by omega) lx ?_ ?_ ?_ ?_ nw fh ?_ ?_ ?_) (fun k k0=>oC hg rfl k k0) (fun ch q=>kQ c0 c1 rfl ch q) (fun _ _=>rfl))
 all_goals rw [e]
 ·exact hc
 ·exact ow
 ·exact mt
 ·exact qx
 ·exact wx
 ·exact wg
 ·exact cg
theorem MInv.r8 (h:MInv s) (hg:g < s.gs.length) {x:Gr} (f:fG (aa s g) x) {c:Int} {c':Cn} (c0:1≤c) (c1:c≤s.ax.length) (hc:iz s.gs.length (cn s) g (aa s g) x c c') (nw:¬ cj x) (n8:x.place≠8):MInv (ai (aF s c c') g x):=by
 refine h.chan hg c0 c1 (f.loc (h.loc hg) (fun q=>absurd (show cj x by unfold cj;omega) nw)) hc (fun i=>⟨fun w=>absurd w (f.own i).2,fun w=>absurd w (f.own i).1⟩) (fun i d w=>absurd w (f.own i).2) (fun i j w=>absurd w (f.nq i j)) nw (f.fh n8) (fun q=>by rw [f.an];exact id) (fun w=>absurd w.1 f.nw) (fun w=>absurd w.1 f.nw) f.at_
theorem MInv.oE (h:MInv s) (hg:g < s.gs.length) (e:(aa s g).place≠0∧(aa s g).place≠18∧(aa s g).place≠19) (k:2≤(ag s g).kind∧(ag s g).kind≤6):1≤(ag s g).ch∧(ag s g).ch≤s.ax.length:=(h.loc hg).wC e.1 e.2.1 e.2.2 k.1 k.2
theorem MInv.fH (h:MInv s) {c:Int} (c0:1≤c) (c1:c≤s.ax.length):0≤(cn s c).cap∧(cn s c).cap≤4∧((cn s c).buf.length:Int)≤(cn s c).cap:=Inv.cap h.v c c0 c1
theorem nt {c:Int}:Sx.aM s c=true↔1≤c∧c≤s.ax.length:=by unfold Sx.aM;simp
theorem MInv.s4 (h:MInv s) (hg:g < s.gs.length) (st:(aa s g).status=0) (k:2≤(ag s g).kind∧(ag s g).kind≤6) (e:(aa s g).place=4) (p:Int) (hp:(ag s g).kind=6∧p=21∨(ag s g).kind≠6∧p=5) (hl:(cn s (ag s g).ch).lock=-1):MInv (aO (aF s (ag s g).ch { cn s (ag s g).ch with lock:=g }) g p):=by
 obtain ⟨c0,c1⟩:=h.oE hg (by omega) k;have hk:(aG (aa s g)).kind=(ag s g).kind:=rfl;have L:=h.loc hg;refine h.r8 hg (x:={ aa s g with place:=p }) ⟨rfl,rfl,rfl,rfl,rfl,rfl,?_,st,?_,?_,?_,?_,?_,?_,?_⟩ c0 c1 ⟨.inr (.inl ⟨hl,rfl,fun ch=>?_⟩),h.fH c0 c1,⟨List.Sublist.refl _,List.Sublist.refl _⟩,.inl ⟨rfl,rfl⟩⟩ ?_ ?_
 ·unfold SE;omega
 ·omega
 ·omega
 ·simp only;omega
 ·unfold bn;simp only;omega
 ·grind
 ·simp only;omega
 ·by_cases w:(aa s g).an=[]
  ·exact .inl w
  ·have:=L.w1 w;omega
 ·have ho:aG { aa s g with place:=p }=aG (aa s g):=rfl;unfold bh SE;rw [ho,hk];simp only [e]
  constructor
  ·rintro (w | w)
   ·exact .inr w.2.2.1
   ·omega
  ·rintro (w | w)
   ·omega
   ·exact .inl ⟨k.1,k.2,w,by omega⟩
 ·unfold cj;simp only;omega
 ·simp only;omega
end Sx
namespace Sx
variable {s:ah} {g:Nat} {nc ns n:Int}
theorem Jv {x y:Gr} (L:Loc nc ns n x) (k:SR x) (e:x.place=12) (st:x.status=0) (hy:y={ x with place:=13 }):Loc nc ns n y:=by
 have ho:aG y=aG x:=by subst hy;rfl
 have h1:y.ops=x.ops∧y.at_=x.at_∧y.place=13∧y.status=x.status∧y.token=x.token∧y.param=x.param∧y.bq=x.bq∧y.an=x.an∧y.au=x.au:=by subst hy;simp
 clear hy;obtain ⟨a1,a2,a3,a4,a5,a6,a7,a8,a9,kP,mw,lC,mz,mA,mC,lD,ov,oz,nr,oA,oB,mD⟩:=L
 constructor <;> simp only [Wt,SR,SE,e,st,Own,bn,cZ,ho,h1] at * <;> grind
theorem Own.sr {x y:Gr} {i:Int} (k:SR x) (ho:aG y=aG x) (hm:y.bq=x.bq) (p:11≤y.place∧y.place≤15) (h:Own x i):Own y i:=by
 rcases h with ⟨h0,h | h⟩
 ·exact ⟨h0,.inl ⟨by unfold SR;rw [ho];exact k,p.1,p.2,hm.trans h.2.2.2⟩⟩
 ·exact absurd h.1 k.ne
theorem Own.wK {x y:Gr} {i:Int} (k:SR x) (ho:aG y=aG x) (hm:y.bq=x.bq) (p:11≤y.place∧y.place≤15) (q:11≤x.place∧x.place≤15):Own y i↔Own x i :=
 ⟨Own.sr (by unfold SR;rw [ho];exact k) ho.symm hm.symm q,Own.sr k ho hm p⟩
theorem MInv.Jw (h:MInv s) (hg:g < s.gs.length) (st:(aa s g).status=0) (e:(aa s g).place=12) (k:2≤(ag s g).kind∧(ag s g).kind≤6):MInv (aO (free s (ag s g).ch) g 13):=by
 have L:=h.loc hg;have ks:SR (aa s g):=by
  have:=(L.pl.resolve_left (by omega)).2;have hk:(aG (aa s g)).kind=(ag s g).kind:=rfl;unfold bn at this;unfold SR;rw [e] at this;omega
 obtain ⟨c0,c1⟩:=h.oE hg (by omega) k;have ho:aG { aa s g with place:=13 }=aG (aa s g):=rfl;have hk:(aG (aa s g)).kind=(ag s g).kind:=rfl;have hh:bh (aa s g) (ag s g).ch:=.inl ⟨k.1,k.2,rfl,by omega⟩;have gS:=ks.ne;have pl:({ aa s g with place:=13 }:Gr).place=13:=rfl;refine h.chan hg c0 c1 (x:={ aa s g with place:=13 }) (Jv L ks e st rfl) ⟨.inr (.inr ⟨hh,rfl,fun ch=>?_⟩),h.fH c0 c1,⟨List.Sublist.refl _,List.Sublist.refl _⟩,.inl ⟨rfl,rfl⟩⟩ ?_ ?_ ?_ ?_ ?_ (fun q=>id) ?_ ?_ rfl
 ·unfold bh;have n1:¬ SE { aa s g with place:=13 }:=gS;simp only [ho,e,gS,n1,false_and,or_false]
  constructor
  ·intro w;omega
  ·intro w;exact absurd w.1.2.2.1 w.2
 ·intro i;exact Own.wK ks rfl rfl (by rw [pl];decide) (by rw [e];decide)
 ·intro i d _ m;rcases m with m | m
  ·exact .inl m
  ·exact absurd m.1 gS
 ·intro i j q _ _ _ _;rcases q with q | q
  ·exact .inl ⟨q.1,by rw [pl];decide,by rw [pl];decide,q.2.2.2⟩
  ·exact absurd q.1 gS
 ·unfold cj;simp
 ·unfold cG;simp
 ·rintro ⟨w1,w2,w3,w4⟩
  exact ⟨.inl ⟨ks,by rw [pl];decide,by rw [pl];decide⟩,w2,w3,by simp⟩
 ·rintro ⟨w1,w2,w3⟩
  exact ⟨⟨.inl ⟨ks,by rw [pl];decide,by rw [pl];decide⟩,w2,fun h=>absurd h gS⟩,fun _=>ks⟩
theorem ff.r9 {x:Gr} (e:x.place=13) (b:ff nc ns x) {y:Gr} (h1:aG y=aG x) (h2:y.order=x.order) (h3:y.aC=x.aC) (h4:y.k=x.k) (h5:y.au=x.au) (h6:y.res.code=x.res.code) (h7:y.place=14):ff nc ns y:=by
 have hc:∀ j,bL y j=bL x j:=fun j=>by unfold bL;rw [h1]
 obtain ⟨b1,b2,b3,b4,b5,b6,b7,b8,b9,uv,pE,pF,uw,ux,uy,rX,uz,rY,rZ,uA⟩:=b
 constructor <;> (try simp only [h1,h2,h3,h4,h5,h6,h7,hc]) <;> (try assumption) <;> (try simp)
 ·exact pF (by omega)
 ·exact rX (by omega)
 ·exact rY (by omega)
theorem Sf.r9 {x y:Gr} (L:Loc nc ns n x) (e:x.place=13) (st:x.status=0) (h1:y.ops=x.ops) (h2:y.at_=x.at_) (h3:y.bq=x.bq) (h4:y.hold=x.hold) (h5:y.res.code=x.res.code) (h6:y.order=x.order) (h7:y.aC=x.aC) (h8:y.au=x.au) (h9:y.an=x.an) (iL:y.k=x.k) (iM:y.param=x.param) (iA:y.bp=x.bp) (gR:y.place=14)
  (hs:x.token=true∧y.token=false∧y.status=0∨x.token=false∧y.token=false∧y.status=1):Sf nc ns n x y:=by
 have ho:aG y=aG x:=by unfold aG;rw [h1,h2]
 have w0:Wt x:=by
  have:=(L.pl.resolve_left (by omega)).2;unfold bn at this;unfold Wt SR SE;rw [e] at this ⊢;omega
 have qE:SR y↔SR x:=by unfold SR;rw [ho]
 have iK:SE y↔SE x:=by unfold SE;rw [ho]
 have w1:Wt y:=by grind [Wt,SE,SR]
 have ow:∀ i,Own y i↔Own x i:=by
  intro i;unfold Own;rw [qE,iK,gR,e,h3,h8];simp
 refine ⟨?_,?_,ow,?_,?_,?_,fun q=>by rw [h9];exact id,?_,?_⟩
 ·obtain ⟨a1,a2,a3,a4,a5,a6,a7,a8,a9,kP,mw,lC,mz,mA,mC,lD,ov,oz,nr,oA,oB,mD⟩:=L
  constructor <;> (try simp only [h1,h2,h3,h4,h9,iM,iA,ho,qE,iK]) <;> (try assumption)
  ·rw [gR];rw [e] at a5;refine .inr ⟨(a5.resolve_left (by decide)).1,?_⟩;have:=(a5.resolve_left (by decide)).2;unfold bn at this ⊢;omega
  ·omega
  ·omega
  ·omega
  ·omega
  ·intro h;omega
  ·grind
  ·grind
  ·omega
  ·intro h;omega
  ·grind
  ·grind
  ·grind
  ·intro h1 _;exact (mD h1 (by unfold cZ;omega)).r9 e ho h6 h7 iL h8 h5 gR
 ·intro ch;unfold bh;rw [iK,gR,e,ho,h7,iL];simp
 ·intro i d _ m;unfold Match at m ⊢;have hc:∀ j,bL y j=bL x j:=fun j=>by unfold bL;rw [ho]
  rw [qE,iK,ho,h8,h6,hc];exact m
 ·intro i j q;unfold dB at q ⊢;rw [qE,iK,gR,h3,iM,h8,h6,iL,h5];rcases q with q | q
  ·grind
  ·grind
 ·unfold cG;rw [gR];decide
 ·rintro ⟨v1,v2,v3,v4⟩
  refine ⟨w1,by rw [iM];exact v2,?_,?_⟩
  ·grind
  ·grind
 ·rintro ⟨v1,v2,v3⟩
  exact ⟨⟨w1,by rw [iM];exact v2,fun h=>by rw [iA];exact v3 (iK.1 h)⟩,qE.1⟩
theorem MInv.r9 (h:MInv s) (hg:g < s.gs.length) (st:(aa s g).status=0) (e:(aa s g).place=13):MInv (fT (aO s g 14) g):=by
 have L:=h.loc hg;have hs:fT (aO s g 14) g=ai s g (if (aa s g).token=true then { aa s g with place:=14,token:=false } else { aa s g with place:=14,status:=1 }):=by
  unfold fT aO;simp only [gK s g g _ hg,if_true,st,true_and];unfold ai;simp only [List.set_set]
 rw [hs]
 cases ht:(aa s g).token
 ·rw [if_neg (by simp)];exact h.self hg (Sf.r9 L e st rfl rfl rfl rfl rfl rfl rfl rfl rfl rfl rfl rfl rfl (.inr ⟨ht,ht,rfl⟩)) rfl (fun w=>by unfold cj at w;simp at w)
 ·rw [if_pos rfl];exact h.self hg (Sf.r9 L e st rfl rfl rfl rfl rfl rfl rfl rfl rfl rfl rfl rfl rfl (.inl ⟨ht,rfl,st⟩)) rfl (fun w=>by unfold cj at w;simp at w)
end Sx
namespace Sx
variable {s:ah} {g:Nat} {nc ns n:Int}
theorem Jx {C:List (List Int)} {M:List Int} {f:Nat} {H:List Bool} {x:Int}:x∈M ++ C.flatten↔1≤Po.fj ⟨C,M,f,H⟩ x:=by
 unfold Po.fj;simp only;rw [List.mem_append,← List.count_pos_iff (a:=x) (l:=M),← List.count_pos_iff (a:=x) (l:=C.flatten)];omega
theorem oF {s:ah} {H:List Bool} {f:Nat} (hf:s.fresh=f) {x:Int}:fS s x=true↔0≤x∧x < s.fresh∧Po.fj ⟨s.cache,s.middle,f,H⟩ x=0:=by
 unfold fS vY;simp only [Bool.and_eq_true,decide_eq_true_eq,Bool.not_eq_true',List.contains_eq_mem,decide_eq_false_iff_not];rw [Jx (f:=f) (H:=H)];omega
theorem Dj (h:MInv s) (hg:g < s.gs.length):s.cache[g]?=some (s.cache.getD g []):=by
 have:g < s.cache.length:=by rw [h.ca];exact hg
 rw [List.getD_eq_getElem?_getD,List.getElem?_eq_getElem this];rfl
structure Dk (s t:ah) (g:Nat) (i:Int):Prop where
 i0:0≤i
 i1:i < s.aD.length
 nl:fS s i=false
 live:∀ j,fS t j=true↔fS s j=true∨j=i
 gs:t.gs=s.gs
 ax:t.ax=s.ax
 aD:t.aD=s.aD
 sN:t.cY=s.cY
 cN:t.bM=s.bM
 cD:t.cD=s.cD
 drawn:t.drawn=s.drawn
 done:t.done=s.done
 step:t.step=s.step
 cl:t.cache.length=s.cache.length
 f0:0≤t.fresh
 po:∃ H,Po.Inv t.cY.toNat t.bM.toNat ⟨t.cache,t.middle,t.fresh.toNat,H⟩
theorem wL (h:MInv s) (hg:g < s.gs.length) (ok:(bw s g).2.2=true):Dk s (bw s g).1 g (bw s g).2.1:=by
 obtain ⟨H,I⟩:=h.po;have hf:s.fresh=(s.fresh.toNat:Int):=by have:=h.f0;omega
 have Qo:=h.sn;have hc:=Dj h hg;have m1:=I.m1;unfold bw at ok ⊢
 split at ok
 ·rename_i e
  split at ok
  ·rename_i e2;rw [if_pos e,if_pos e2];have e0:=Po.BN m1 e;have nc:Po.fj ⟨s.cache,s.middle,s.fresh.toNat,H⟩ s.fresh=0:=by
    by_cases q:1≤Po.fj ⟨s.cache,s.middle,s.fresh.toNat,H⟩ s.fresh
    ·have:=(I.bound _ q).2;simp only at this;omega
    ·omega
   refine ⟨h.f0,by simp only;omega,?_,?_,rfl,rfl,rfl,rfl,rfl,rfl,rfl,rfl,rfl,rfl,by simp only;have:=h.f0;omega,?_⟩
   ·cases q:fS s s.fresh
    ·rfl
    ·have:=(oF (H:=H) hf).1 q;omega
   ·intro j;rw [oF (H:=H) hf,oF (s:={ s with fresh:=s.fresh + 1 }) (H:=H) (f:=s.fresh.toNat + 1) (by simp only;omega)];simp only;have e3:Po.fj ⟨s.cache,s.middle,s.fresh.toNat + 1,H⟩ j=Po.fj ⟨s.cache,s.middle,s.fresh.toNat,H⟩ j:=rfl;rw [e3]
    constructor
    ·omega
    ·grind
   ·refine ⟨H,?_⟩;simp only;have:(s.fresh + 1).toNat=s.fresh.toNat + 1:=by have:=h.f0;omega
    rw [this];exact I.fresh (by simp only;omega)
  ·cases ok
 ·rename_i e;rw [if_neg e];obtain ⟨b0,b1⟩:0≤(Po.own s.bM.toNat (s.cache.getD g []) s.middle).getLastD 0∧Po.fj ⟨s.cache,s.middle,s.fresh.toNat,H⟩ ((Po.own s.bM.toNat (s.cache.getD g []) s.middle).getLastD 0)=1:=by
   have mE:=Po.yJ (size:=0) (s:=⟨s.cache,s.middle,s.fresh.toNat,H⟩) (most:=s.bM.toNat) hc e ((Po.own s.bM.toNat (s.cache.getD g []) s.middle).getLastD 0);have hi:Po.ind ((Po.own s.bM.toNat (s.cache.getD g []) s.middle).getLastD 0) ((Po.own s.bM.toNat (s.cache.getD g []) s.middle).getLastD 0)=1:=by simp [Po.ind]
   simp only at mE;rw [hi] at mE;have h1:1≤Po.fj ⟨s.cache,s.middle,s.fresh.toNat,H⟩ ((Po.own s.bM.toNat (s.cache.getD g []) s.middle).getLastD 0):=by omega
   exact ⟨(I.bound _ h1).1,by have:=I.one ((Po.own s.bM.toNat (s.cache.getD g []) s.middle).getLastD 0);omega⟩
  have mE:=fun a=>Po.yJ (size:=0) (s:=⟨s.cache,s.middle,s.fresh.toNat,H⟩) (most:=s.bM.toNat) hc e a
  have wM:=I.rL hc e;have Dl:=(I.bound _ (Nat.le_of_eq b1.symm)).2;simp only at mE Dl wM;unfold Po.rL at mE wM;simp only at mE wM;generalize (Po.own s.bM.toNat (s.cache.getD g []) s.middle).getLastD 0=i at *;generalize Po.own s.bM.toNat (s.cache.getD g []) s.middle=ow at *;refine ⟨b0,?_,?_,?_,rfl,rfl,rfl,rfl,rfl,rfl,rfl,rfl,rfl,by simp,h.f0,?_⟩
  ·have:=I.fl;simp only at this Dl ⊢;omega
  ·cases q:fS s i
   ·rfl
   ·have:=((oF (H:=H) hf).1 q).2.2;omega
  ·intro j;have hj:=mE j;rw [oF (H:=H) hf,oF (s:={ s with cache:=s.cache.set g ow.dropLast,middle:=Po.aW s.bM.toNat (s.cache.getD g []) s.middle }) (H:=H.set i.toNat false) (f:=s.fresh.toNat) hf];simp only;unfold Po.ind at hj
   by_cases q:i=j
   ·grind
   ·grind
  ·exact ⟨_,wM⟩
structure Jy (s t:ah) (g:Nat) (i:Int):Prop where
 live:∀ j,fS t j=true↔fS s j=true∧j≠i
 gs:t.gs=s.gs
 ax:t.ax=s.ax
 aD:t.aD=s.aD
 sN:t.cY=s.cY
 cN:t.bM=s.bM
 cD:t.cD=s.cD
 drawn:t.drawn=s.drawn
 done:t.done=s.done
 step:t.step=s.step
 cl:t.cache.length=s.cache.length
 f0:0≤t.fresh
 po:∃ H,Po.Inv t.cY.toNat t.bM.toNat ⟨t.cache,t.middle,t.fresh.toNat,H⟩
theorem Jz (h:MInv s) (hg:g < s.gs.length) {i:Int} (hl:fS s i=true):Jy s (jO s g i) g i:=by
 obtain ⟨H,I⟩:=h.po;have hf:s.fresh=(s.fresh.toNat:Int):=by have:=h.f0;omega
 have hc:=Dj h hg;have Qp:=(oF (H:=H) hf).1 hl;have hL:Po.live s.fresh.toNat H i=true:=by
  have:=I.live i;simp only at this;rw [this];simp;omega
 have zH:=I.qo hc hL;have mE:=fun a=>Po.BO (most:=s.bM.toNat) (s:=⟨s.cache,s.middle,s.fresh.toNat,H⟩) hc i a
 unfold jO;rw [if_pos hl];unfold Po.qo at zH mE;simp only at zH mE;refine ⟨?_,rfl,rfl,rfl,rfl,rfl,rfl,rfl,rfl,rfl,by simp,h.f0,_,zH⟩;intro j;have hj:=mE j;rw [oF (H:=H) hf,oF (s:={ s with cache:=s.cache.set g ((s.cache.getD g []).take ((s.cache.getD g []).length - Po.eu s.bM.toNat (s.cache.getD g [])) ++ [i]),middle:=s.middle ++ (s.cache.getD g []).reverse.take (Po.eu s.bM.toNat (s.cache.getD g [])) }) (H:=H.set i.toNat true) (f:=s.fresh.toNat) hf];simp only;unfold Po.ind at hj
 by_cases q:i=j
 ·grind
 ·grind
end Sx
namespace Sx
variable {s t:ah} {g:Nat} {nc ns n:Int}
theorem at_sum {s t:ah} {g:Nat} {x:Gr} (hg:g < s.gs.length) (e:t.gs=s.gs.set g x) (ha:x.at_=(aa s g).at_):lE t=lE s:=by
 refine Dh (by rw [e,List.length_set]) fun h _=>?_
 rw [zE s s.gs rfl g h x hg t e]
 split
 ·grind
 ·rfl
theorem Dm {s t:ah} (e:t.ax=s.ax) (c:Int):cn t c=cn s c:=by unfold cn;rw [e]
theorem MInv.take (h:MInv s) (hg:g < s.gs.length) {i:Int} (T:Dk s t g i) {x:Gr} {d:Su} (lx:Loc s.ax.length s.aD.length s.gs.length x) (hh:∀ ch,bh x ch↔bh (aa s g) ch)
  (ow:∀ j,Own x j↔Own (aa s g) j∨j=i) (mt:∀ j,Own (aa s g) j→Match x j (su s j)) (md:Match x i d) (dg:d.g=g) (nq:∀ j k,¬ dB (aa s g) j k) (nw:¬ cj x) (fh:¬ cG x) (wk:x.an=(aa s g).an) (wt:¬ Wt (aa s g)) (ha:x.at_=(aa s g).at_) :
  MInv (ai (bg t i d) g x):=by
 have e:=dY s g;have kj:(ai (bg t i d) g x).gs=s.gs.set g x:=by simp only [ai,bg];rw [T.gs]
 have mF:(ai (bg t i d) g x).aD=s.aD.set i.toNat d:=by simp only [ai,bg];rw [T.aD]
 have qF:(ai (bg t i d) g x).ax=s.ax:=T.ax;have hv:=Inv.take h.v (g:=g) (i:=i) (x:=x) (d:=d) (by omega) (by omega) T.i0 T.i1 (by simp [T.nl]) lx (by rw [e];exact hh) (by rw [e];exact ow) (by rw [e];exact mt) md dg (by rw [e];exact nq) nw fh (by rw [e];exact wk) (by rw [e];exact wt);obtain ⟨H,hH⟩:=T.po;refine ⟨?_,?_,?_,?_,?_,?_,?_,?_,?_,T.f0,⟨H,hH⟩,?_,?_,?_,?_,?_⟩
 ·unfold V;rw [kj,mF,qF,List.length_set,List.length_set];refine hv.pz (fun k k0 _=>oC hg kj k k0) (fun ch _ _=>Dm qF ch) (fun j j0 _=>wH T.i0 T.i1 mF j j0) (fun j _ _=>?_);exact T.live j
 ·grind
 ·rw [kj,List.length_set];exact h.n8
 ·rw [qF];exact h.c8
 ·rw [mF,List.length_set];exact h.sn.trans T.sN.symm
 ·rw [mF,List.length_set];exact h.jT
 ·show 1≤t.bM;rw [T.cN];exact h.c1
 ·show t.bM≤16;rw [T.cN];exact h.pH
 ·rw [kj,List.length_set];exact T.cl.trans h.ca
 ·show 0≤t.drawn;rw [T.drawn];exact h.oD
 ·show t.drawn≤t.cD.length;rw [T.drawn,T.cD];exact h.pI
 ·show ∀ x∈t.cD,_;rw [T.cD];exact h.du
 ·show t.cD.length≤1000;rw [T.cD];exact h.d5
 ·rw [at_sum hg kj ha];show (t.done.length:Int)=_;rw [T.done];exact h.dn
theorem MInv.Dn (h:MInv s) (hg:g < s.gs.length) {i:Int} (hi:Own (aa s g) i) {x:Gr} (lx:Loc s.ax.length s.aD.length s.gs.length x) (hh:∀ ch,bh x ch↔bh (aa s g) ch)
  (ow:∀ j,Own x j↔Own (aa s g) j∧j≠i) (mt:∀ j d,Own x j→Match (aa s g) j d→Match x j d) (nq:∀ j k,¬ dB (aa s g) j k) (nw:¬ cj x) (fh:¬ cG x) (wk:x.an=(aa s g).an) (wt:¬ Wt (aa s g)) (ha:x.at_=(aa s g).at_) :
  MInv (ai (cR s g i) g x):=by
 have e:=dY s g;have qG:=Inv.own h.v (g:Int) (by omega) (by omega) i (by rw [e];exact hi);have T:=Jz h hg qG.2.2.2;have i0:=hi.1;have i1:=qG.1;unfold cR;generalize jO s g i=t at *;have kj:(ai (bg t i dX) g x).gs=s.gs.set g x:=by simp only [ai,bg];rw [T.gs]
 have mF:(ai (bg t i dX) g x).aD=s.aD.set i.toNat dX:=by simp only [ai,bg];rw [T.aD]
 have qF:(ai (bg t i dX) g x).ax=s.ax:=T.ax;have hv:=Inv.cR h.v (g:=g) (i:=i) (x:=x) (by omega) (by omega) (by rw [e];exact hi) lx (by rw [e];exact hh) (by rw [e];exact ow) (fun j hj=>mt j _ hj (by
  have:=(Inv.own h.v (g:Int) (by omega) (by omega) j (by rw [e];exact ((ow j).1 hj).1)).2.1;rw [e] at this;exact this)) (by rw [e];exact nq) nw fh (by rw [e];exact wk) (by rw [e];exact wt)
 obtain ⟨H,hH⟩:=T.po;refine ⟨?_,?_,?_,?_,?_,?_,?_,?_,?_,T.f0,⟨H,hH⟩,?_,?_,?_,?_,?_⟩
 ·unfold V;rw [kj,mF,qF,List.length_set,List.length_set];refine hv.pz (fun k k0 _=>oC hg kj k k0) (fun ch _ _=>Dm qF ch) (fun j j0 _=>wH i0 i1 mF j j0) (fun j _ _=>?_);exact T.live j
 ·grind
 ·rw [kj,List.length_set];exact h.n8
 ·rw [qF];exact h.c8
 ·rw [mF,List.length_set];exact h.sn.trans T.sN.symm
 ·rw [mF,List.length_set];exact h.jT
 ·show 1≤t.bM;rw [T.cN];exact h.c1
 ·show t.bM≤16;rw [T.cN];exact h.pH
 ·rw [kj,List.length_set];exact T.cl.trans h.ca
 ·show 0≤t.drawn;rw [T.drawn];exact h.oD
 ·show t.drawn≤t.cD.length;rw [T.drawn,T.cD];exact h.pI
 ·show ∀ x∈t.cD,_;rw [T.cD];exact h.du
 ·show t.cD.length≤1000;rw [T.cD];exact h.d5
 ·rw [at_sum hg kj ha];show (t.done.length:Int)=_;rw [T.done];exact h.dn
theorem JA {x y:Gr} (L:Loc nc ns n x) (k:SR x) (e:x.place=15) (st:x.status=0) (hy:y={ x with place:=18,bq:=-1 }):Loc nc ns n y:=by
 have ho:aG y=aG x:=by subst hy;rfl
 have h1:y.ops=x.ops∧y.at_=x.at_∧y.place=18∧y.status=x.status∧y.token=x.token∧y.param=x.param∧y.bq=-1∧y.an=x.an∧y.au=x.au:=by subst hy;simp
 clear hy;obtain ⟨a1,a2,a3,a4,a5,a6,a7,a8,a9,kP,mw,lC,mz,mA,mC,lD,ov,oz,nr,oA,oB,mD⟩:=L
 constructor <;> simp only [Wt,SR,SE,e,st,Own,bn,cZ,ho,h1] at * <;> grind
theorem lH (s:ah) (g:Nat) (x:Gr) (p:Int) (hg:g < s.gs.length):aO (ai s g x) g p=ai s g { x with place:=p }:=by
 unfold aO;rw [gK s g g x hg,if_pos rfl];unfold ai;simp only [List.set_set]
theorem MInv.JB (h:MInv s) (hg:g < s.gs.length) (st:(aa s g).status=0) (e:(aa s g).place=15) (k:2≤(ag s g).kind∧(ag s g).kind≤6):MInv (aO (ai (cR s g (aa s g).bq) g { aa s g with bq:=-1 }) g 18):=by
 have L:=h.loc hg;have ks:SR (aa s g):=by
  have:=(L.pl.resolve_left (by omega)).2;have hk:(aG (aa s g)).kind=(ag s g).kind:=rfl;unfold bn at this;unfold SR;rw [e] at this;omega
 have gS:=ks.ne;have hm:=L.mi ks (by omega) (by omega);have qG:Own (aa s g) (aa s g).bq:=⟨hm.1,.inl ⟨ks,by omega,by omega,rfl⟩⟩
 have gC:g < (cR s g (aa s g).bq).gs.length:=by
  unfold cR bg;simp only;unfold jO;split <;> exact hg
 rw [lH _ _ _ _ gC];have ho:aG { aa s g with place:=18,bq:=-1 }=aG (aa s g):=rfl;refine h.Dn hg qG (x:={ aa s g with place:=18,bq:=-1 }) (JA L ks e st rfl) ?_ ?_ ?_ ?_ ?_ ?_ rfl ?_ rfl
 ·intro ch;unfold bh;have n1:¬ SE { aa s g with place:=18,bq:=-1 }:=gS;simp only [ho,e,gS,n1,false_and,or_false];omega
 ·intro j;have n1:¬ SE { aa s g with place:=18,bq:=-1 }:=gS
  constructor
  ·rintro ⟨_,w | w⟩
   ·grind
   ·exact absurd w.1 n1
  ·rintro ⟨⟨_,w | w⟩,w2⟩
   ·omega
   ·exact absurd w.1 gS
 ·intro j d w;rcases w with ⟨_,w | w⟩
  ·grind
  ·exact absurd w.1 gS
 ·rintro i j (q | q)
  ·omega
  ·exact absurd q.1 gS
 ·unfold cj;simp
 ·unfold cG;simp
 ·rintro (w | w)
  ·omega
  ·exact absurd w.1 gS
end Sx
namespace Sx
variable {s t:ah} {g:Nat} {nc ns n:Int}
theorem MInv.JC (h:MInv s) (hg:g < s.gs.length) (st:(aa s g).status=0) (e:(aa s g).place=16) (k:2≤(ag s g).kind∧(ag s g).kind≤6):MInv (an (free s (ag s g).ch) g):=by
 obtain ⟨c0,c1⟩:=h.oE hg (by omega) k;have hk:(aG (aa s g)).kind=(ag s g).kind:=rfl;have hh:bh (aa s g) (ag s g).ch:=.inl ⟨k.1,k.2,rfl,by omega⟩;have key:∀ p:Int,(p=17∧(aa s g).an≠[]∨p=18∧(aa s g).an=[])→MInv (aO (free s (ag s g).ch) g p):=by
  intro p hp;refine h.r8 hg (x:={ aa s g with place:=p }) ⟨rfl,rfl,rfl,rfl,rfl,rfl,?_,st,?_,?_,?_,?_,?_,?_,?_⟩ c0 c1 ⟨.inr (.inr ⟨hh,rfl,fun ch=>?_⟩),h.fH c0 c1,⟨List.Sublist.refl _,List.Sublist.refl _⟩,.inl ⟨rfl,rfl⟩⟩ ?_ ?_
  ·unfold SE;omega
  ·omega
  ·omega
  ·simp only;omega
  ·unfold bn;simp only;omega
  ·grind
  ·simp only;omega
  ·grind
  ·have ho:aG { aa s g with place:=p }=aG (aa s g):=rfl;unfold bh SE;rw [ho,hk];simp only [e]
   constructor
   ·intro w;omega
   ·rintro ⟨w | w,w2⟩
    ·exact absurd w.2.2.1 w2
    ·omega
  ·unfold cj;simp only;omega
  ·simp only;omega
 unfold an
 split
 ·rename_i q;refine key 17 (.inl ⟨rfl,fun w=>?_⟩);have:(aa (free s (ag s g).ch) g).an=(aa s g).an:=rfl;rw [this,w] at q;simp at q
 ·rename_i q;refine key 18 (.inr ⟨rfl,?_⟩);have:(aa (free s (ag s g).ch) g).an=(aa s g).an:=rfl;rw [this] at q;exact List.length_eq_zero_iff.1 (by omega)
theorem Rest.two (s:ah) {g p:Nat} {x y:Gr} (hg:g < s.gs.length) (hp:p < s.gs.length) (hx:x.at_=(aa s g).at_) (hy:y.at_=(aa s p).at_) (cq:p≠g):Rest s (Sx.ai (Sx.ai s p y) g x):=by
 refine (Rest.fJ s hp hy).trans (Rest.fJ _ (by simpa [Sx.ai] using hg) ?_);rw [gK s p g y hp,ay];exact hx
theorem JE {x y:Gr} {p:Int} {l:List Int} (L:Loc nc ns n x) (e:x.place=17) (st:x.status=0) (hw:x.an=p :: l) (h1:y.ops=x.ops) (h2:y.at_=x.at_) (h3:y.status=x.status) (h4:y.token=x.token) (h5:y.param=x.param) (h6:y.an=l) (hp:y.place=17∧l≠[]∨y.place=18∧l=[])
  (nP:x.param=-1) (nT:x.token=false):Loc nc ns n y:=by
 have ho:aG y=aG x:=by unfold aG;rw [h1,h2]
 have Dp:=L.w4;have kR:=L.w3;rw [hw] at Dp kR;have nh:=List.nodup_cons.1 Dp;have hy:y.place=17∨y.place=18:=by omega
 have nZ:=(L.pl.resolve_left (by omega))
 have pq:=L.pq;have mk:=L.wC;have p0:=L.p0
 constructor
 ·rw [h1];exact L.lB
 ·rw [h1];exact L.fO
 ·rw [h2];exact L.a0
 ·grind
 ·rw [h1,h2,ho];refine .inr ⟨nZ.1,?_⟩;rcases hp with c | c
  ·grind
  ·rw [c.1];exact .inl rfl
 ·grind
 ·rw [h3];exact pq
 ·rw [h3];omega
 ·omega
 ·rw [h3];omega
 ·rw [h4,nT];simp
 ·grind
 ·grind
 ·grind
 ·rw [h6];exact nh.2
 ·omega
 ·intro _ c1 c2;omega
 ·rw [h5];exact p0
 ·omega
 ·rw [h5];omega
 ·rw [h5];omega
 ·intro _ c;unfold cZ at c;omega
theorem MInv.JF (h:MInv s) (hg:g < s.gs.length) (st:(aa s g).status=0) (e:(aa s g).place=17) :
  MInv (an (ai (ready s ((aa s g).an.headD 0).toNat) g { aa s g with an:=(aa s g).an.tail }) g):=by
 have L:=h.loc hg;have eA:=dY s g;obtain ⟨p,l,hw⟩:∃ p l,(aa s g).an=p :: l:=by
  cases w:(aa s g).an with
  | nil=>exact absurd w (L.w2 e)
  | cons p l=>exact ⟨p,l,rfl⟩
 have hp:=L.w3 p (by rw [hw];simp);obtain ⟨k1,k2,k3,k4,k5⟩:=Inv.wk h.v (g:Int) (by omega) (by omega) p (by rw [eA,hw];simp);obtain ⟨q,rfl⟩:∃ q:Nat,p=q:=⟨p.toNat,by omega⟩
 have hq:q < s.gs.length:=by omega
 have uq:q≠g:=by omega
 rw [dY] at k2 k3 k4 k5;have Lq:=h.loc hq;have lU:(aa s q).status=0∨(aa s q).status=1:=by
  rcases Lq.pq with w | w | w
  ·exact .inl w
  ·exact .inr w
  ·have:=(Lq.Db w).1;rcases k2 with k2 | k2 <;> omega
 obtain ⟨y,hy⟩:∃ y,(if (aa s q).status=1 then { aa s q with status:=0 } else if (aa s q).status=0 then { aa s q with token:=true } else aa s q)=y:=⟨_,rfl⟩
 have er:ready s q=ai s q y:=by unfold ready;rw [hy]
 have JG:((aa s g).an.headD 0).toNat=q:=by rw [hw];simp
 have JH:(aa s g).an.tail=l:=by rw [hw];rfl
 rw [JG,JH,er];obtain ⟨pl,nZ,hs⟩:∃ pl:Int,(pl=17∧l≠[]∨pl=18∧l=[])∧an (ai (ai s q y) g { aa s g with an:=l }) g=ai (ai s q y) g { aa s g with an:=l,place:=pl }:=by
  have gC:g < (ai s q y).gs.length:=by simpa [ai] using hg
  by_cases c:l=[]
  ·refine ⟨18,.inr ⟨rfl,c⟩,?_⟩;unfold an;rw [gK _ g g _ gC,if_pos rfl,if_neg (by simp [c]),lH _ _ _ _ gC]
  ·refine ⟨17,.inl ⟨rfl,c⟩,?_⟩;unfold an;rw [gK _ g g _ gC,if_pos rfl,if_pos (List.length_pos_iff.2 c),lH _ _ _ _ gC]
 rw [hs];have py:Part (aa s q) y∧y.param=(aa s q).param∧y.bp=(aa s q).bp∧((aa s q).status=1∧y.status=0∧y.token=(aa s q).token∨(aa s q).status=0∧y.status=0∧y.token=true):=by
  rw [← hy];rcases lU with w | w
  ·rw [ay,if_pos w];exact ⟨⟨rfl,rfl,rfl,rfl,rfl,rfl,rfl,rfl,rfl,rfl,rfl⟩,rfl,rfl,.inr ⟨w,w,rfl⟩⟩
  ·rw [if_pos w];exact ⟨⟨rfl,rfl,rfl,rfl,rfl,rfl,rfl,rfl,rfl,rfl,rfl⟩,rfl,rfl,.inl ⟨w,rfl,rfl⟩⟩
 obtain ⟨x,hx⟩:∃ x,({ aa s g with an:=l,place:=pl }:Gr)=x:=⟨_,rfl⟩
 have x1:x.ops=(aa s g).ops∧x.at_=(aa s g).at_∧x.place=pl∧x.status=(aa s g).status∧x.token=(aa s g).token∧x.param=(aa s g).param∧x.bq=(aa s g).bq∧x.au=(aa s g).au:=by subst hx;simp
 have x2:x.an=l:=by subst hx;rfl
 have ho:aG x=aG (aa s g):=by subst hx;rfl
 rw [hx];have Dq:x.place=17∨x.place=18:=by omega
 have Dr:∀ (z:Gr) i,z.place=17∨z.place=18→¬ Own z i:=by
  rintro z i c ⟨_,w | w⟩
  ·omega
  ·have:=w.2.1;omega
 have nS:∀ i,¬ Own (aa s g) i∧¬ Own x i:=fun i=>⟨Dr _ i (.inl e),Dr _ i Dq⟩
 have JI:¬ Wt (aa s g):=by rintro (w | w) <;> omega
 have oG:∀ i j,¬ dB (aa s g) i j:=by rintro i j (w | w) <;> omega
 have nF:∀ ch,bh x ch↔bh (aa s g) ch:=by
  have Ds:∀ (z:Gr) ch,z.place=17∨z.place=18→¬ bh z ch:=by
   rintro z ch c (w | w)
   ·omega
   ·have:=w.2;omega
  exact fun ch=>⟨fun w=>absurd w (Ds _ _ Dq),fun w=>absurd w (Ds _ _ (.inl e))⟩
 have nP:(aa s g).param=-1:=by
  have:=L.p0
  by_cases c:0≤(aa s g).param
  ·exact absurd (L.p2 c).2 (nS _).1
  ·omega
 have nT:(aa s g).token=false:=by
  cases c:(aa s g).token
  ·rfl
  ·have:=(L.tk c).2.1;omega
 have lx:Loc s.ax.length s.aD.length s.gs.length x:=JE L e st hw x1.1 x1.2.1 x1.2.2.2.1 x1.2.2.2.2.1 x1.2.2.2.2.2.1 x2 (by rw [x1.2.2.1];exact nZ) nP nT;refine h.rest (by subst hx;exact Rest.two s hg hq rfl py.1.at_ uq) (V.of (by subst hx;exact Rest.two s hg hq rfl py.1.at_ uq) (Inv.readies h.v (g:=g) (p:=(q:Int)) (x:=x) (y:=y) (l:=l) (by omega) (by omega) lx ?_ ?_ ?_ ?_ ?_ ?_ ?_ x2 ?_ ?_ ?_ ?_ ?_) (fun k k0=>zF hg hq rfl k k0) (fun _ _=>rfl) (fun _ _=>rfl))
 all_goals (try rw [eA]);(try rw [dY])
 ·exact nF
 ·grind
 ·grind
 ·exact oG
 ·unfold cj;omega
 ·unfold cG;omega
 ·exact hw
 ·exact JI
 ·exact py.1
 ·exact py.2.1
 ·exact py.2.2.1
 ·exact py.2.2.2
theorem MInv.common (h:MInv s) (hg:g < s.gs.length) (st:(aa s g).status=0) (k:2≤(ag s g).kind∧(ag s g).kind≤6∨(aa s g).place=13∨(aa s g).place=17):MInv (common s g).1:=by
 unfold Sx.common;simp only
 by_cases e4:(aa s g).place=4
 ·rw [if_pos e4];have k:=k.resolve_right (by omega);unfold tryLock
  by_cases hl:(cn s (ag s g).ch).lock=-1
  ·simp only [if_pos hl]
   by_cases k6:(ag s g).kind=6
   ·simp only [if_pos k6,if_true];exact h.s4 hg st k e4 21 (.inl ⟨k6,rfl⟩) hl
   ·simp only [if_neg k6,if_true];exact h.s4 hg st k e4 5 (.inr ⟨k6,rfl⟩) hl
  ·grind
 rw [if_neg e4]
 by_cases si:(aa s g).place=12
 ·rw [if_pos si];exact h.Jw hg st si (k.resolve_right (by omega))
 rw [if_neg si]
 by_cases qH:(aa s g).place=13
 ·rw [if_pos qH];exact h.r9 hg st qH
 rw [if_neg qH]
 by_cases sj:(aa s g).place=15
 ·rw [if_pos sj];exact h.JB hg st sj (k.resolve_right (by omega))
 rw [if_neg sj]
 by_cases sk:(aa s g).place=16
 ·rw [if_pos sk];exact h.JC hg st sk (k.resolve_right (by omega))
 rw [if_neg sk]
 by_cases pK:(aa s g).place=17
 ·rw [if_pos pK];exact h.JF hg st pK
 rw [if_neg pK];exact h
end Sx
namespace Sx
variable {s t:ah} {g:Nat} {nc ns n:Int}
theorem Dt {s:ah} {c:Int} (c0:1≤c) (c1:c≤s.ax.length):aF s c (cn s c)=s:=by
 unfold aF cn;have:(c - 1).toNat < s.ax.length:=by omega
 rw [List.getD_eq_getElem?_getD,List.getElem?_eq_getElem this];simp
structure sq (s:ah) (g:Nat) (c i:Int) (o:Nat):Prop where
 i0:0≤i
 i1:i < s.aD.length
 ch:(su s i).ch=c
 g_:(su s i).g=o
 o1:o < s.gs.length
 own:Own (aa s o) i
 q:dB (aa s o) i (su s i).cs
 mt:Match (aa s o) i (su s i)
theorem MInv.sv (h:MInv s) {c i:Int} (c0:1≤c) (c1:c≤s.ax.length) (hq:i∈(cn s c).recv∨i∈(cn s c).send):∃ o,sq s g c i o:=by
 obtain ⟨t1,t2,t3,t4,t5,t6,t7,t8⟩:=Inv.wG h.v c0 c1 hq;refine ⟨(su s i).g.toNat,t1,t2,t3,by omega,by omega,t6,t7,t8⟩
theorem MInv.wN (h:MInv s) (hg:g < s.gs.length) {i:Int} {o:Nat} {x y:Gr} {c:Int} {c':Cn} (q:sq s g c i o) (lx:Loc s.ax.length s.aD.length s.gs.length x) (hc:iz s.gs.length (cn s) g (aa s g) x c c') (ow:∀ i,Own x i↔Own (aa s g) i) (mt:∀ i d,Own x i→Match (aa s g) i d→Match x i d)
  (nq:∀ i j,¬ dB (aa s g) i j) (nw:¬ cj x) (wx:∀ q∈x.an,q∈(aa s g).an) (ki:¬ Wt (aa s g))
  (hx:cG x) (xi:x.hold=i) (c0:1≤c) (c1:c≤s.ax.length) (xh:bh x c) (hq:i∈(cn s c).recv∨i∈(cn s c).send) (py:Part (aa s o) y) (e1:y.param=(aa s o).param) (e2:y.token=(aa s o).token) (e3:y.status=(aa s o).status)
  (hp:(su s i).cs < 0∧i∉c'.recv∧i∉c'.send∧y.bp=(aa s o).bp∨0≤(su s i).cs∧(aa s o).bp=false∧y.bp=true∧bh (aa s g) c) (ha:x.at_=(aa s g).at_) :
  MInv (ai (ai (aF s c c') o y) g x):=by
 have cq:o≠g:=fun e=>nq _ _ (e ▸ q.q)
 have eA:=dY s g;have eO:gA s (su s i).g=aa s o:=by rw [q.g_,dY]
 have r:Rest s (ai (ai (aF s c c') o y) g x):=(Rest.dK s c c').trans (Rest.two (Sx.aF s c c') (g:=g) (p:=o) hg q.o1 ha py.at_ cq);refine h.rest r (V.of r (Inv.Jp h.v (g:=g) (i:=i) (x:=x) (y:=y) (c:=c) (c':=c') (by omega) (by omega) lx (by rw [eA];exact hc) (by rw [eA];exact ow) (by rw [eA];exact mt) (by rw [eA];exact nq) nw (by rw [eA];exact wx) (by rw [eA];exact ki) hx xi q.ch c0 c1 xh hq (by rw [eO];exact py) (by rw [eO];exact e1) (by rw [eO];exact e2) (by rw [eO];exact e3) (by rw [eO,eA];exact hp)) (fun k k0=>?_) (fun ch w=>kQ c0 c1 rfl ch w) (fun _ _=>rfl));rw [q.g_];exact zF (s:=s) hg q.o1 rfl k k0
theorem MInv.zI (h:MInv s) (hg:g < s.gs.length) {i:Int} {o:Nat} {x y:Gr} {c:Int} {c':Cn} {d:Su} (c0:1≤c) (c1:c≤s.ax.length) (lx:Loc s.ax.length s.aD.length s.gs.length x) (hc:iz s.gs.length (cn s) g (aa s g) x c c') (ow:∀ i,Own x i↔Own (aa s g) i) (mt:∀ i d,Own x i→Match (aa s g) i d→Match x i d)
  (nq:∀ i j,¬ dB (aa s g) i j) (nw:¬ cj x) (fh:¬ cG x) (wx:∀ q∈x.an,q∈(aa s g).an∨q=(o:Int)) (ki:¬ Wt (aa s g))
  (sc:(su s i).ch=c) (so:(su s i).g=o) (o1:o < s.gs.length) (cq:o≠g) (F1:Wt (aa s o)) (F2:(aa s o).param=-1) (F3:Own (aa s o) i) (F4:SE (aa s o)→y.bp=true) (F5:i∉c'.recv∧i∉c'.send)
  (other:∀ k:Nat,k < s.gs.length→k≠g→cG (aa s k)→(su s (aa s k).hold).g=o→False)
  (py:Part (aa s o) y) (e1:y.param=i) (e2:y.token=(aa s o).token) (e3:y.status=(aa s o).status) (ha:x.at_=(aa s g).at_)
  (hd:d.g=(su s i).g∧d.ch=(su s i).ch∧d.cs=(su s i).cs∧d.send=(su s i).send∧d.live=(su s i).live) :
  MInv (ai (bg (ai (aF s c c') o y) i d) g x):=by
 have eA:=dY s g;have eO:gA s (su s i).g=aa s o:=by rw [so,dY]
 have i1:=(Inv.own h.v (o:Int) (by omega) (by omega) i (by rw [dY];exact F3)).1;have i0:=F3.1;have r:Rest s (ai (bg (ai (aF s c c') o y) i d) g x):=by
  have r1:=(Rest.dK s c c').trans (Rest.two (Sx.aF s c c') (g:=g) (p:=o) hg o1 ha py.at_ cq);refine ⟨r1.gl,r1.cl,by simp [Sx.bg,Sx.ai,Sx.aF],r1.sN,r1.cN,r1.ca,r1.md,r1.fr,r1.dw,r1.dn,r1.wI,r1.at_⟩
 have v:=Inv.serve h.v (g:=g) (i:=i) (x:=x) (y:=y) (c:=c) (c':=c') (by omega) (by omega) lx (by rw [eA];exact hc) (by rw [eA];exact ow) (by rw [eA];exact mt) (by rw [eA];exact nq) nw fh (by rw [eA,so];exact wx) (by rw [eA];exact ki) sc (by omega) (by omega) (by omega) (by rw [eO];exact F1) (by rw [eO];exact F2) (by rw [eO];exact F3) (by rw [eO];exact F4) F5 (fun k k0 k1 kg cl e=>by
  refine other k.toNat (by omega) (by omega) cl (by rw [← so];exact e)) (by rw [eO];exact py) e1 (by rw [eO];exact e2) (by rw [eO];exact e3)
 have v2:=v.Jl (S':=up (su s) i d) (fun j=>by
  unfold up
  by_cases e:j=i
  ·rw [if_pos e,e];exact hd
  ·rw [if_neg e];exact ⟨rfl,rfl,rfl,rfl,rfl⟩)
 refine h.rest r (V.of r v2 (fun k k0=>?_) (fun ch w=>kQ c0 c1 rfl ch w) (fun j j0=>wH i0 i1 rfl j j0));rw [so];exact zF (s:=s) hg o1 rfl k k0
def bT (c:Cn) (i:Int):Cn:={ c with recv:=fU c.recv i,send:=fU c.send i }
theorem drop_eq {s:ah} {i c:Int} (e:(su s i).ch=c) (c0:1≤c) (c1:c≤s.ax.length):bE s i=aF s c (bT (cn s c) i):=by
 subst e;unfold bE;rw [if_pos (nt.2 ⟨c0,c1⟩)];rfl
theorem lI {l:List Int} {i:Int}:i∉fU l i:=by unfold fU;simp
theorem gU {l:List Int} {i:Int}:(fU l i).Sublist l:=by unfold fU;exact List.filter_sublist
theorem wO {l:List Gr} {g o:Nat} {a b c:Gr} (h:o≠g):((l.set g a).set o b).set g c=(l.set o b).set g c:=by
 rw [List.set_comm _ _ (by omega:g≠o),List.set_set]
theorem Du {s:ah} {g o:Nat} {i:Int} (hg:g < s.gs.length) (so:(su s i).g=o) (cq:o≠g):pair s g i=ai (ai s o { aa s o with cz:=(aa s g).t,wi:=g,dc:=(su s i).cs }) g { aa s g with cz:=(aa s g).t,wi:=o }:=by
 unfold pair;simp only [so,Int.toNat_natCast]
theorem gD {s:ah} {g h:Nat} {x:Gr} (hg:g < s.gs.length):aa (ai s g x) h=if h=g then x else aa s h:=gK s g h x hg
theorem fQ {s:ah} {g:Nat} {x:Gr}:(ai s g x).gs.length=s.gs.length:=by simp [ai]
theorem Dv (hg:g < s.gs.length) {i c:Int} {o:Nat} {cX hand:Int} (so:(su s i).g=o) (cq:o≠g) (sc:(su s i).ch=c) (c0:1≤c) (c1:c≤s.ax.length) (hn:¬ 0≤(su s i).cs) :
  taken s g i cX hand=ai (ai (aF s c (bT (cn s c) i)) o { aa s o with cz:=s.step,wi:=g,dc:=(su s i).cs }) g { aa s g with hold:=i,t:=s.step,cz:=s.step,wi:=o,place:=hand }:=by
 unfold taken;rw [if_neg hn];have e1:bE (ai s g { aa s g with hold:=i,t:=s.step }) i=aF (ai s g { aa s g with hold:=i,t:=s.step }) c (bT (cn s c) i):=drop_eq (s:=ai s g { aa s g with hold:=i,t:=s.step }) sc c0 c1;have gC:g < (aF (ai s g { aa s g with hold:=i,t:=s.step }) c (bT (cn s c) i)).gs.length:=by show g < (ai s g _).gs.length;rw [fQ];exact hg
 rw [e1,Du gC so cq];have g1:aa (aF (ai s g { aa s g with hold:=i,t:=s.step }) c (bT (cn s c) i)) g={ aa s g with hold:=i,t:=s.step }:=by rw [wJ,gD hg,if_pos rfl]
 have g2:aa (aF (ai s g { aa s g with hold:=i,t:=s.step }) c (bT (cn s c) i)) o=aa s o:=by rw [wJ,gD hg,if_neg cq]
 rw [g1,g2,lH _ _ _ _ (by rw [fQ];exact gC)];unfold ai aF;simp only;rw [wO cq];rfl
theorem Dw {i:Int} {cX hand:Int} (hg:g < s.gs.length) (hn:0≤(su s i).cs):taken s g i cX hand=ai s g { aa s g with hold:=i,place:=cX }:=by
 unfold taken;rw [if_pos hn,lH _ _ _ _ hg]
theorem sq.ne (h:MInv s) {c i:Int} {o:Nat} (q:sq s g c i o) (nq:∀ i j,¬ dB (aa s g) i j):o≠g:=fun e=>nq _ _ (e ▸ q.q)
theorem MInv.s6 (h:MInv s) (hg:g < s.gs.length) (st:(aa s g).status=0) (k:2≤(ag s g).kind∧(ag s g).kind≤5) (e:(aa s g).place=6) {i:Int} (hq:i∈(cn s (ag s g).ch).recv∨i∈(cn s (ag s g).ch).send):MInv (taken s g i 7 8):=by
 obtain ⟨c0,c1⟩:=h.oE hg (by omega) (by omega);have hk:(aG (aa s g)).kind=(ag s g).kind:=rfl;have L:=h.loc hg;obtain ⟨o,q⟩:=h.sv (g:=g) c0 c1 hq;have dm:(aa s g).an=[]:=by
  by_cases w:(aa s g).an=[]
  ·exact w
  ·have:=L.w1 w;omega
 have go:∀ (x:Gr) (p:Int),p=7∨p=8→x.ops=(aa s g).ops→x.at_=(aa s g).at_→x.status=(aa s g).status→x.token=(aa s g).token→x.param=(aa s g).param→x.an=(aa s g).an→x.place=p→fG (aa s g) x:=by
  intro x p hp h1 h2 h3 h4 h5 h6 h7;refine ⟨h1,h2,h3,h4,h5,h6,by unfold SE;omega,st,by omega,by omega,by omega,?_,⟨by omega,by omega,by omega,by omega⟩,by omega,.inl dm⟩;unfold bn;omega
 have hH:∀ x:Gr,aG x=aG (aa s g)→(x.place=7∨x.place=8)→bh x (ag s g).ch:=fun x ho hp=>.inl ⟨by rw [ho];omega,by rw [ho];omega,by rw [ho];rfl,by omega⟩
 by_cases hn:0≤(su s i).cs
 ·rw [Dw hg hn];have G:=go { aa s g with hold:=i,place:=7 } 7 (.inl rfl) rfl rfl rfl rfl rfl rfl rfl;refine h.self hg (G.sf L (fun _=>⟨q.i0,q.i1⟩) ?_ (by simp)) rfl (fun _=>?_)
  ·rw [e];unfold hP;simp
  ·simp only;rw [q.ch];exact ⟨c0,c1,hH _ rfl (.inl rfl),hq,hn⟩
 ·have G:=go { aa s g with hold:=i,t:=s.step,cz:=s.step,wi:=o,place:=8 } 8 (.inr rfl) rfl rfl rfl rfl rfl rfl rfl;rw [Dv hg q.g_ (q.ne h (G.nq)) q.ch c0 c1 hn];refine h.wN hg q (G.loc L (fun _=>⟨q.i0,q.i1⟩)) ⟨.inl ⟨rfl,G.hh (by rw [e];unfold hP;simp)⟩,h.fH c0 c1,⟨gU,gU⟩,.inr ?_⟩ (fun i=>⟨fun w=>absurd w (G.own i).2,fun w=>absurd w (G.own i).1⟩) (fun i d w=>absurd w (G.own i).2) G.nq (by unfold cj;simp) (fun q=>id) G.nw (.inl rfl) rfl c0 c1 (hH _ rfl (.inr rfl)) hq ⟨rfl,rfl,rfl,rfl,rfl,rfl,rfl,rfl,rfl,rfl,rfl⟩ rfl rfl rfl (.inl ⟨by omega,lI,lI,rfl⟩) rfl;exact .inl ⟨by omega,by omega,rfl,by omega⟩
end Sx
namespace Sx
variable {s t:ah} {g:Nat} {nc ns n:Int}
theorem MInv.buf (h:MInv s) {c:Int} {c':Cn} (c0:1≤c) (c1:c≤s.ax.length) (e1:c'.lock=(cn s c).lock) (e2:c'.recv=(cn s c).recv) (e3:c'.send=(cn s c).send) (e4:0≤c'.cap∧c'.cap≤4∧(c'.buf.length:Int)≤c'.cap):MInv (aF s c c'):=by
 refine h.rest (Rest.dK s c c') ?_;have I:=h.v;have key:∀ ch,1≤ch→(cn (aF s c c') ch).lock=(cn s ch).lock∧(cn (aF s c c') ch).recv=(cn s ch).recv∧(cn (aF s c c') ch).send=(cn s ch).send:=by
  intro ch a;rw [kQ c0 c1 rfl ch a]
  by_cases e:ch=c
  ·subst e;rw [fP];exact ⟨e1,e2,e3⟩
  ·rw [gJ _ _ e];exact ⟨rfl,rfl,rfl⟩
 have J:Inv s.gs.length s.ax.length s.aD.length (gA s) (cn (aF s c c')) (su s) (fun i=>fS s i=true):=by
  constructor
  ·exact I.loc
  ·intro ch a b;rw [(key ch a).1];exact I.iJ ch a b
  ·intro k a b ch c d;rw [(key ch c).1];exact I.iy k a b ch c d
  ·intro ch a b;rw [kQ c0 c1 rfl ch a]
   by_cases e:ch=c
   ·subst e;rw [fP];exact e4
   ·rw [gJ _ _ e];exact I.cap ch a b
  ·exact I.own
  ·intro ch a b i;rw [(key ch a).2.1,(key ch a).2.2];exact I.q ch a b i
  ·intro ch a b;rw [(key ch a).2.1,(key ch a).2.2];exact I.nd ch a b
  ·intro k a b w;have:=I.cX k a b w;rw [(key _ this.1).2.1,(key _ this.1).2.2];exact this
  ·intro k a b w;have:=I.cl k a b w;rw [(key _ this.1).2.1,(key _ this.1).2.2];exact this
  ·exact I.ou
  ·exact I.wk
  ·exact I.nk
  ·exact I.su
  ·exact I.lv
 refine V.of (Rest.dK s c c') J (fun _ _=>rfl) (fun _ _=>rfl) (fun _ _=>rfl)
theorem Dx {s:ah} {g:Nat} {back on:Int} (hp:(aa s (su s (aa s g).hold).g.toNat).bp=true):cX s g back on=ai (bE s (aa s g).hold) g { aa s g with hold:=-1,place:=back }:=by
 unfold cX;simp only;rw [if_pos hp]
theorem Dy {s:ah} {g o:Nat} {back on:Int} (hg:g < s.gs.length) (ho:o < s.gs.length) (so:(su s (aa s g).hold).g=o) (cq:o≠g) (hp:(aa s o).bp=false) :
  cX s g back on=ai (ai s o { aa s o with bp:=true,cz:=s.step,wi:=g,dc:=(su s (aa s g).hold).cs }) g { aa s g with t:=s.step,cz:=s.step,wi:=o,place:=on }:=by
 unfold cX;simp only [so,Int.toNat_natCast];rw [if_neg (by rw [hp];simp)];have gC:g < (ai (ai s g { aa s g with t:=s.step }) o { aa s o with bp:=true }).gs.length:=by rw [fQ,fQ];exact hg
 have uD:o < (ai s g { aa s g with t:=s.step }).gs.length:=by rw [fQ];exact ho
 have JJ:(su (ai (ai s g { aa s g with t:=s.step }) o { aa s o with bp:=true }) (aa s g).hold).g=o:=so;rw [Du gC JJ cq];have g1:aa (ai (ai s g { aa s g with t:=s.step }) o { aa s o with bp:=true }) g={ aa s g with t:=s.step }:=by rw [gD uD,if_neg (by omega),gD hg,if_pos rfl]
 have g2:aa (ai (ai s g { aa s g with t:=s.step }) o { aa s o with bp:=true }) o={ aa s o with bp:=true }:=by rw [gD uD,if_pos rfl]
 rw [g1,g2,lH _ _ _ _ (by rw [fQ];exact gC)];unfold ai;simp only [List.set_set];rw [wO cq];rfl
theorem MInv.zJ (h:MInv s) (hg:g < s.gs.length) (w:cj (aa s g)):∃ o,sq s g (su s (aa s g).hold).ch (aa s g).hold o∧1≤(su s (aa s g).hold).ch∧(su s (aa s g).hold).ch≤s.ax.length∧bh (aa s g) (su s (aa s g).hold).ch∧((aa s g).hold∈(cn s (su s (aa s g).hold).ch).recv∨(aa s g).hold∈(cn s (su s (aa s g).hold).ch).send)∧0≤(su s (aa s g).hold).cs:=by
 have:=Inv.cX h.v g (by omega) (by omega);rw [dY] at this;obtain ⟨c0,c1,k1,k2,k3⟩:=this w;obtain ⟨o,q⟩:=h.sv (g:=g) c0 c1 k2;exact ⟨o,q,c0,c1,k1,k2,k3⟩
structure zK (s:ah) (g:Nat) (i c:Int) (o:Nat):Prop where
 c0:1≤c
 c1:c≤s.ax.length
 sc:(su s i).ch=c
 so:(su s i).g=o
 o1:o < s.gs.length
 ne:o≠g
 hh:bh (aa s g) c
 wt:Wt (aa s o)
 pm:(aa s o).param=-1
 own:Own (aa s o) i
 se:SE (aa s o)→(aa s o).bp=true
 sr:SR (aa s o)→i∉(cn s c).recv∧i∉(cn s c).send
theorem MInv.zL (h:MInv s) (hg:g < s.gs.length) (w:cG (aa s g)):∃ o,zK s g (aa s g).hold (su s (aa s g).hold).ch o∧∀ k:Nat,k < s.gs.length→k≠g→cG (aa s k)→(su s (aa s k).hold).g=o→False:=by
 have:=Inv.cl h.v g (by omega) (by omega);rw [dY] at this;obtain ⟨c0,c1,k1,k2,k3,k4,k5,k6,k7,k8,k9⟩:=this w;refine ⟨(su s (aa s g).hold).g.toNat,⟨c0,c1,rfl,by omega,by omega,by omega,k1,k5,k6,k7,k8,k9⟩,fun k a b cl e=>?_⟩;have:=Inv.ou h.v k g (by omega) (by omega) (by omega) (by omega) (by rw [dY];exact cl) (by rw [dY];exact w) (by rw [dY,dY];omega);omega
theorem uE {s:ah} {g o:Nat} {i:Int} {d:Bool} (hg:g < s.gs.length) (ho:o < s.gs.length) (so:(su s i).g=o) (cq:o≠g) :
  serve s g i d=ai (bg (ai s o { aa s o with param:=i }) i { su s i with done:=d }) g { aa s g with an:=(aa s g).an ++ [(o:Int)],hold:=-1 }:=by
 have g1:aa (bg (ai s o { aa s o with param:=i }) i { su s i with done:=d }) g=aa s g:=by rw [Ju,gD ho,if_neg (by omega)]
 have e:serve s g i d=ai (bg (ai s (su s i).g.toNat { aa s (su s i).g.toNat with param:=i }) i { su s i with done:=d }) g { aa (bg (ai s (su s i).g.toNat { aa s (su s i).g.toNat with param:=i }) i { su s i with done:=d }) g with an:=(aa (bg (ai s (su s i).g.toNat { aa s (su s i).g.toNat with param:=i }) i { su s i with done:=d }) g).an ++ [(su s i).g],hold:=-1 }:=rfl;rw [e,so,Int.toNat_natCast,g1]
end Sx
namespace Sx
variable {s t:ah} {g:Nat} {nc ns n:Int}
theorem Loc.zM {x:Gr} (L:Loc nc ns n x) {l:List Int} (h1:x.place=16∨x.place=17∨x.place=22∨x.place=23∨x.place=34∨x.place=30∧x.res.code≠0) (h2:∀ p∈l,0≤p∧p < n) (h3:l.Nodup) (h4:l≠[]):Loc nc ns n { x with an:=l } :=
 ⟨L.lB,L.fO,L.a0,L.a1,L.pl,L.wC,L.pq,L.wD,L.wE,L.Db,L.tk,fun _=>h1,fun _=>h4,h2,h3,L.hd,L.mi,L.p0,L.p1,L.p2,L.p3,fun a b=>by
  obtain ⟨b1,b2,b3,b4,b5,b6,b7,b8,b9,uv,pE,pF,uw,ux,uy,rX,uz,rY,rZ,uA⟩:=L.se a b;exact ⟨b1,b2,b3,b4,b5,b6,b7,b8,b9,uv,pE,pF,uw,ux,uy,rX,uz,rY,rZ,uA⟩⟩
theorem MInv.s7 (h:MInv s) (hg:g < s.gs.length) (st:(aa s g).status=0) (k:2≤(ag s g).kind∧(ag s g).kind≤5) (e:(aa s g).place=7):MInv (cX s g 6 8):=by
 have hk:(aG (aa s g)).kind=(ag s g).kind:=rfl;have L:=h.loc hg;have dm:(aa s g).an=[]:=by
  by_cases w:(aa s g).an=[]
  ·exact w
  ·have:=L.w1 w;omega
 have hd:=L.hd (by omega);have go:∀ (x:Gr) (p:Int),p=6∨p=8→x.ops=(aa s g).ops→x.at_=(aa s g).at_→x.status=(aa s g).status→x.token=(aa s g).token→x.param=(aa s g).param→x.an=(aa s g).an→x.place=p→fG (aa s g) x:=by
  intro x p hp h1 h2 h3 h4 h5 h6 h7;refine ⟨h1,h2,h3,h4,h5,h6,by unfold SE;omega,st,by omega,by omega,by omega,?_,⟨by omega,by omega,by omega,by omega⟩,by omega,.inl dm⟩;unfold bn;omega
 obtain ⟨o,q,c0,c1,hh,hq,kz⟩:=h.zJ hg (.inl e);have cq:o≠g:=q.ne h (go { aa s g with place:=6 } 6 (.inl rfl) rfl rfl rfl rfl rfl rfl rfl).nq
 cases hp:(aa s o).bp with
 | true =>
  rw [Dx (by rw [q.g_];exact hp)];rw [drop_eq rfl c0 c1];have G:=go { aa s g with hold:=-1,place:=6 } 6 (.inl rfl) rfl rfl rfl rfl rfl rfl rfl;refine h.r8 hg G c0 c1 ⟨.inl ⟨rfl,G.hh (by rw [e];unfold hP;simp)⟩,h.fH c0 c1,⟨gU,gU⟩,.inr hh⟩ (by unfold cj;simp) (by simp)
 | false =>
  rw [Dy hg q.o1 q.g_ cq hp];have G:=go { aa s g with t:=s.step,cz:=s.step,wi:=o,place:=8 } 8 (.inr rfl) rfl rfl rfl rfl rfl rfl rfl;have JK:=(G.hh (by rw [e];unfold hP;simp) (su s (aa s g).hold).ch).2 hh;have:=h.wN hg q (c':=cn s (su s (aa s g).hold).ch) (G.loc L (fun _=>hd)) ⟨.inl ⟨rfl,G.hh (by rw [e];unfold hP;simp)⟩,h.fH c0 c1,⟨List.Sublist.refl _,List.Sublist.refl _⟩,.inr hh⟩ (fun i=>⟨fun w=>absurd w (G.own i).2,fun w=>absurd w (G.own i).1⟩) (fun i d w=>absurd w (G.own i).2) G.nq (by unfold cj;simp) (fun q=>id) G.nw (.inl rfl) rfl c0 c1 JK hq (y:={ aa s o with bp:=true,cz:=s.step,wi:=g,dc:=(su s (aa s g).hold).cs }) ⟨rfl,rfl,rfl,rfl,rfl,rfl,rfl,rfl,rfl,rfl,rfl⟩ rfl rfl rfl (.inr ⟨kz,hp,rfl,hh⟩) rfl;rw [Dt c0 c1] at this;exact this
theorem MInv.s8 (h:MInv s) (hg:g < s.gs.length) (st:(aa s g).status=0) (k:2≤(ag s g).kind∧(ag s g).kind≤5) (e:(aa s g).place=8) {o:Nat} {c i:Int} (hi:(aa s g).hold=i) (q:zK s g i c o) (other:∀ k:Nat,k < s.gs.length→k≠g→cG (aa s k)→(su s (aa s k).hold).g=o→False) (r:Md.ak) (d:Su)
  (hd:d.g=(su s i).g∧d.ch=(su s i).ch∧d.cs=(su s i).cs∧d.send=(su s i).send∧d.live=(su s i).live) :
  MInv (ai (bg (ai (aF s c (bT (cn s c) i)) o { aa s o with param:=i }) i d) g { aa s g with an:=(aa s g).an ++ [(o:Int)],hold:=-1,res:=r,place:=16 }):=by
 have hk:(aG (aa s g)).kind=(ag s g).kind:=rfl;have L:=h.loc hg;have dm:(aa s g).an=[]:=by
  by_cases w:(aa s g).an=[]
  ·exact w
  ·have:=L.w1 w;omega
 have G:fG (aa s g) { aa s g with hold:=-1,res:=r,place:=16 }:=by
  refine ⟨rfl,rfl,rfl,rfl,rfl,rfl,by unfold SE;omega,st,by omega,by omega,by simp,?_,?_,?_,.inl dm⟩
  ·show bn (aG (aa s g)).kind 16;rw [hk];unfold bn;omega
  ·grind
  ·simp only;omega
 have G1:=G.loc L (by simp);have lx:Loc s.ax.length s.aD.length s.gs.length { aa s g with an:=(aa s g).an ++ [(o:Int)],hold:=-1,res:=r,place:=16 } :=
  G1.zM (.inl rfl) (by rw [dm];have:=q.o1;simp;omega) (by rw [dm];simp) (by simp)
 have uF:∀ i,¬ Own { aa s g with an:=(aa s g).an ++ [(o:Int)],hold:=-1,res:=r,place:=16 } i:=by
  rintro i ⟨_,w | w⟩
  ·grind
  ·grind
 have nF:∀ ch,bh { aa s g with an:=(aa s g).an ++ [(o:Int)],hold:=-1,res:=r,place:=16 } ch↔bh (aa s g) ch:=by
  intro ch;have:=G.hh (by rw [e];unfold hP;simp) ch;exact this
 refine h.zI hg q.c0 q.c1 lx ⟨.inl ⟨rfl,nF⟩,h.fH q.c0 q.c1,⟨gU,gU⟩,.inr q.hh⟩ (fun i=>⟨fun w=>absurd w (uF i),fun w=>absurd w (G.own i).1⟩) (fun i d w=>absurd w (uF i)) G.nq (by unfold cj;simp) (by unfold cG;simp) (fun q hq=>?_) G.nw q.sc q.so q.o1 q.ne q.wt q.pm q.own (fun w=>q.se w) ⟨lI,lI⟩ other ⟨rfl,rfl,rfl,rfl,rfl,rfl,rfl,rfl,rfl,rfl,rfl⟩ rfl rfl rfl rfl hd;rcases List.mem_append.1 hq with w | w
 ·exact .inl w
 ·grind
end Sx
namespace Sx
variable {s t:ah} {g:Nat} {nc ns n:Int}
theorem Dz {s:ah} {i:Int} {d:Su} (hi:0≤i) (de:i < s.aD.length):su (bg s i d) i=d:=by
 rw [wH hi de rfl i hi,fP]
theorem JL {s:ah} {g o:Nat} {i c:Int} {d:Su} {x:Gr→Gr} {r:Md.ak} {p:Int} (hg:g < s.gs.length) (ho:o < s.gs.length) (so:d.g=o) (cq:o≠g) (i0:0≤i) (i1:i < s.aD.length) :
  ai (serve (bg (aF s c (bT (cn s c) i)) i d) g i true) g { aa (serve (bg (aF s c (bT (cn s c) i)) i d) g i true) g with res:=r,place:=p } =
  ai (bg (ai (aF s c (bT (cn s c) i)) o { aa s o with param:=i }) i { d with done:=true }) g { aa s g with an:=(aa s g).an ++ [(o:Int)],hold:=-1,res:=r,place:=p }:=by
 have s1:su (bg (aF s c (bT (cn s c) i)) i d) i=d:=Dz i0 i1;have e:=uE (s:=bg (aF s c (bT (cn s c) i)) i d) (g:=g) (o:=o) (i:=i) (d:=true) hg ho (by rw [s1];exact so) cq;rw [e,s1];have g1:aa (bg (aF s c (bT (cn s c) i)) i d) g=aa s g:=rfl;have g2:aa (bg (aF s c (bT (cn s c) i)) i d) o=aa s o:=rfl;rw [g1,g2];have g3:∀ y z,aa (ai (bg (ai (bg (aF s c (bT (cn s c) i)) i d) o y) i { d with done:=true }) g z) g=z:=fun y z=>by
  rw [gD (by show g < (ai _ _ _).gs.length;rw [fQ];exact hg),if_pos rfl]
 rw [g3];unfold ai bg aF;simp only [List.set_set]
theorem DA {s:ah} {g o:Nat} {i c:Int} {r:Md.ak} {p:Int} (hg:g < s.gs.length) (ho:o < s.gs.length) (so:(su s i).g=o) (cq:o≠g) :
  ai (serve (aF s c (bT (cn s c) i)) g i true) g { aa (serve (aF s c (bT (cn s c) i)) g i true) g with res:=r,place:=p } =
  ai (bg (ai (aF s c (bT (cn s c) i)) o { aa s o with param:=i }) i { su s i with done:=true }) g { aa s g with an:=(aa s g).an ++ [(o:Int)],hold:=-1,res:=r,place:=p }:=by
 have e:=uE (s:=aF s c (bT (cn s c) i)) (g:=g) (o:=o) (i:=i) (d:=true) hg ho so cq;rw [e];have g1:aa (aF s c (bT (cn s c) i)) g=aa s g:=rfl;have g2:aa (aF s c (bT (cn s c) i)) o=aa s o:=rfl;have g4:su (aF s c (bT (cn s c) i)) i=su s i:=rfl;rw [g1,g2,g4];have g3:∀ y z,aa (ai (bg (ai (aF s c (bT (cn s c) i)) o y) i { su s i with done:=true }) g z) g=z:=fun y z=>by
  rw [gD (by show g < (ai _ _ _).gs.length;rw [fQ];exact hg),if_pos rfl]
 rw [g3];unfold ai bg aF;simp only [List.set_set]
theorem DB {s:ah} {c c2 i:Int} {b:List Int} (c0:1≤c) (c1:c≤s.ax.length) (d0:1≤c2) (d1:c2≤s.ax.length) :
  aF (aF s c (bT (cn s c) i)) c2 { cn (aF s c (bT (cn s c) i)) c2 with buf:=b }=aF (aF s c2 { cn s c2 with buf:=b }) c (bT (cn (aF s c2 { cn s c2 with buf:=b }) c) i):=by
 have len:∀ (c:Int) (x:Cn),(aF s c x).ax.length=s.ax.length:=fun c x=>by simp [aF]
 have e1:cn (aF s c (bT (cn s c) i)) c2=up (cn s) c (bT (cn s c) i) c2:=kQ c0 c1 rfl c2 d0;have e2:cn (aF s c2 { cn s c2 with buf:=b }) c=up (cn s) c2 { cn s c2 with buf:=b } c:=kQ d0 d1 rfl c c0;rw [e1,e2]
 by_cases q:c2=c
 ·subst q;rw [fP,fP];unfold aF;simp only [List.set_set];rfl
 ·rw [gJ _ _ q,gJ _ _ (Ne.symm q)];unfold aF;simp only;rw [List.set_comm _ _ (by omega)]
theorem DC (l:List Int) (r v:Int):(fM l r v).1.length=l.length:=by
 unfold fM
 split
 ·rfl
 ·grind
theorem MInv.JM (h:MInv s) (hg:g < s.gs.length) (st:(aa s g).status=0) (k:2≤(ag s g).kind∧(ag s g).kind≤5) (e:(aa s g).place=8) (v:Int):MInv (ai (kI s g v) g { aa (kI s g v) g with res:=me,place:=16 }):=by
 obtain ⟨o,q,sw⟩:=h.zL hg (.inl e);have L:=h.loc hg;have hd:=L.hd (by omega);unfold kI;simp only;rw [drop_eq q.sc q.c0 q.c1];have e1:su (aF s (su s (aa s g).hold).ch (bT (cn s (su s (aa s g).hold).ch) (aa s g).hold)) (aa s g).hold=su s (aa s g).hold:=rfl;rw [e1,JL (x:=id) hg q.o1 (by exact q.so) q.ne hd.1 hd.2];exact h.s8 hg st k e rfl q sw _ _ ⟨rfl,rfl,rfl,rfl,rfl⟩
theorem MInv.JN (h:MInv s) (hg:g < s.gs.length) (st:(aa s g).status=0) (k:2≤(ag s g).kind∧(ag s g).kind≤5) (e:(aa s g).place=8) :
  MInv (ai (serve (hand (bE s (aa s g).hold) (ag s g).ch (aa s g).hold).1 g (aa s g).hold true) g { aa (serve (hand (bE s (aa s g).hold) (ag s g).ch (aa s g).hold).1 g (aa s g).hold true) g with res:=dI (hand (bE s (aa s g).hold) (ag s g).ch (aa s g).hold).2 true,place:=16 }):=by
 obtain ⟨o,q,sw⟩:=h.zL hg (.inl e);obtain ⟨d0,d1⟩:=h.oE hg (by omega) (by omega);have L:=h.loc hg;have hd:=L.hd (by omega);generalize (dI (hand (bE s (aa s g).hold) (ag s g).ch (aa s g).hold).2 true)=r;unfold hand;simp only;rw [drop_eq q.sc q.c0 q.c1]
 split
 ·rw [DA hg q.o1 q.so q.ne];exact h.s8 hg st k e rfl q sw _ _ ⟨rfl,rfl,rfl,rfl,rfl⟩
 ·simp only;rw [DB q.c0 q.c1 d0 d1];obtain ⟨b,hb,zN⟩:∃ b,(fM (cn (aF s (su s (aa s g).hold).ch (bT (cn s (su s (aa s g).hold).ch) (aa s g).hold)) (ag s g).ch).buf (cn (aF s (su s (aa s g).hold).ch (bT (cn s (su s (aa s g).hold).ch) (aa s g).hold)) (ag s g).ch).cap (su (aF s (su s (aa s g).hold).ch (bT (cn s (su s (aa s g).hold).ch) (aa s g).hold)) (aa s g).hold).v).1=b∧b.length=(cn s (ag s g).ch).buf.length:=by
   refine ⟨_,rfl,?_⟩;rw [DC,kQ q.c0 q.c1 rfl _ d0];unfold up
   split
   ·rename_i c;rw [c];rfl
   ·rfl
  rw [hb];have qI:=h.fH d0 d1;have h2:MInv (aF s (ag s g).ch { cn s (ag s g).ch with buf:=b }):=h.buf d0 d1 rfl rfl rfl ⟨qI.1,qI.2.1,by simp only;rw [zN];exact qI.2.2⟩;obtain ⟨s2,iB⟩:∃ s2,aF s (ag s g).ch { cn s (ag s g).ch with buf:=b }=s2:=⟨_,rfl⟩
  have eg:∀ j,aa s2 j=aa s j:=fun j=>by rw [← iB];rfl
  have es:∀ j,su s2 j=su s j:=fun j=>by rw [← iB];rfl
  have el:s2.gs.length=s.gs.length:=by rw [← iB];rfl
  have ec:s2.ax.length=s.ax.length:=by rw [← iB];simp [aF]
  have eq:∀ ch,1≤ch→(cn s2 ch).recv=(cn s ch).recv∧(cn s2 ch).send=(cn s ch).send:=by
   intro ch a;rw [← iB,kQ d0 d1 rfl ch a];unfold up
   split
   ·grind
   ·exact ⟨rfl,rfl⟩
  rw [iB] at h2 ⊢;have eo:ag s2 g=ag s g:=by unfold ag;rw [eg]
  rw [← es,← eg];rw [DA (by rw [el];exact hg) (by rw [el];exact q.o1) (by rw [es,eg];exact q.so) q.ne];refine h2.s8 (by rw [el];exact hg) (by rw [eg];exact st) (by rw [eo];exact k) (by rw [eg];exact e) rfl ⟨?_,?_,rfl,?_,?_,q.ne,?_,?_,?_,?_,?_,?_⟩ ?_ _ _ ⟨rfl,rfl,rfl,rfl,rfl⟩
  ·rw [es,eg];exact q.c0
  ·rw [es,eg,ec];exact q.c1
  ·rw [es,eg];exact q.so
  ·rw [el];exact q.o1
  ·rw [es,eg];exact q.hh
  ·rw [eg];exact q.wt
  ·rw [eg];exact q.pm
  ·rw [eg,eg];exact q.own
  ·rw [eg];exact q.se
  ·rw [es,eg,eg,(eq _ q.c0).1,(eq _ q.c0).2];exact q.sr
  ·grind
end Sx
namespace Sx
variable {s t:ah} {g:Nat} {nc ns n:Int}
theorem MInv.sy (h:MInv s) (hg:g < s.gs.length) (e:(aa s g).place≤15∨18≤(aa s g).place∧(aa s g).place≤21∨24≤(aa s g).place∧(aa s g).place≤29):(aa s g).an=[]:=by
 by_cases w:(aa s g).an=[]
 ·exact w
 ·have:=(h.loc hg).w1 w;omega
theorem MInv.zO (h:MInv s) (hg:g < s.gs.length) (st:(aa s g).status=0) (k:(ag s g).kind≤8) (e:1≤(aa s g).place∧(aa s g).place≤10∨(aa s g).place=20∨(aa s g).place=21) {x:Gr} (h1:x.ops=(aa s g).ops) (h2:x.at_=(aa s g).at_) (h3:x.status=(aa s g).status) (h4:x.token=(aa s g).token) (h5:x.param=(aa s g).param) (h6:x.an=(aa s g).an)
  (ok:bn (ag s g).kind x.place) (p:1≤x.place∧x.place≤10∨x.place=16∨x.place=18∨x.place=20∨x.place=22):fG (aa s g) x:=by
 have hk:(aG (aa s g)).kind=(ag s g).kind:=rfl;refine ⟨h1,h2,h3,h4,h5,h6,by unfold SE;omega,st,by omega,by omega,by omega,ok,⟨by omega,by omega,by omega,by omega⟩,by omega,.inl (h.sy hg (by omega))⟩
theorem MInv.fY (h:MInv s) (hg:g < s.gs.length) (st:(aa s g).status=0) (k:(ag s g).kind≤8) (e:1≤(aa s g).place∧(aa s g).place≤10∨(aa s g).place=20∨(aa s g).place=21) {x:Gr} (h1:x.ops=(aa s g).ops) (h2:x.at_=(aa s g).at_) (h3:x.status=(aa s g).status) (h4:x.token=(aa s g).token) (h5:x.param=(aa s g).param) (h6:x.an=(aa s g).an)
  (ok:bn (ag s g).kind x.place) (p:1≤x.place∧x.place≤6∨x.place=9∨x.place=10∨x.place=16∨x.place=18∨x.place=20∨x.place=22) (hp:hP (aa s g).place↔hP x.place):MInv (ai s g x) :=
 h.Di hg (h.zO hg st k e h1 h2 h3 h4 h5 h6 ok (by omega)) hp (by unfold cj;omega) (by omega)
theorem MInv.s9 (h:MInv s) (hg:g < s.gs.length) (st:(aa s g).status=0) (k:2≤(ag s g).kind∧(ag s g).kind≤5) (e:(aa s g).place=9) {b:List Int} (hb:(b.length:Int)≤(cn s (ag s g).ch).cap) (r:Md.ak):MInv (bG (aF s (ag s g).ch { cn s (ag s g).ch with buf:=b }) g r 16):=by
 obtain ⟨c0,c1⟩:=h.oE hg (by omega) (by omega);have G:=h.zO hg st (by omega) (by omega) (x:={ aa s g with cz:=s.step,res:=r,place:=16 }) rfl rfl rfl rfl rfl rfl (by show bn _ 16;unfold bn;omega) (by simp);have hc:=h.fH c0 c1;exact h.r8 hg G c0 c1 ⟨.inl ⟨rfl,G.hh (by rw [e];unfold hP;simp)⟩,⟨hc.1,hc.2.1,hb⟩,⟨List.Sublist.refl _,List.Sublist.refl _⟩,.inl ⟨rfl,rfl⟩⟩ (by unfold cj;simp) (by simp)
theorem MInv.mq (h:MInv s) (hg:g < s.gs.length) (st:(aa s g).status=0) (k:(ag s g).kind=2∨(ag s g).kind=3) (e:(aa s g).place=10) {d:Su} (hd:d.g=g∧d.cs=-1∧d.ch=(ag s g).ch∧(d.send=true↔(ag s g).kind=2)):MInv (bq s g d):=by
 have L:=h.loc hg;have hk:aG (aa s g)=ag s g:=rfl;have ks:SR (aa s g):=k;unfold bq
 split
 ·rename_i ok;have T:=wL h hg ok;obtain ⟨i,hi⟩:∃ i,(bw s g).2.1=i:=⟨_,rfl⟩
  rw [hi] at T ⊢;obtain ⟨x,hx⟩:∃ x,({ aa s g with bq:=i,place:=11 }:Gr)=x:=⟨_,rfl⟩
  rw [hx];have h1:x.ops=(aa s g).ops∧x.at_=(aa s g).at_∧x.place=11∧x.status=(aa s g).status∧x.token=(aa s g).token∧x.param=(aa s g).param∧x.bq=i∧x.an=(aa s g).an∧x.au=(aa s g).au:=by subst hx;simp
  have ho:aG x=aG (aa s g):=by subst hx;rfl
  have wk:=h.sy hg (by omega);have i0:=T.i0;have i1:=T.i1;have nO:∀ j,¬ Own (aa s g) j:=by
   rintro j ⟨_,w | w⟩
   ·omega
   ·omega
  have gS:¬ SE x:=by unfold SE;rw [ho];exact ks.ne
  refine h.take hg T (x:=x) (d:=d) ?_ ?_ ?_ (fun j w=>absurd w (nO j)) ?_ hd.1 ?_ ?_ ?_ (by rw [h1.2.2.2.2.2.2.2.1]) ?_ h1.2.1
  ·clear hx;obtain ⟨a1,a2,a3,a4,a5,a6,a7,a8,a9,kP,mw,lC,mz,mA,mC,lD,ov,oz,nr,oA,oB,mD⟩:=L
   constructor <;> simp only [Wt,SR,SE,e,st,Own,bn,cZ,ho,h1,hk] at * <;> grind
  ·intro ch;unfold bh;rw [ho,h1.2.2.1,e];simp only [gS,ks.ne,false_and,or_false]
   constructor <;> (intro w;exact ⟨w.1,w.2.1,w.2.2.1,by omega⟩)
  ·intro j
   constructor
   ·rintro ⟨_,w | w⟩
    ·omega
    ·exact absurd w.1 gS
   ·rintro (w | w)
    ·exact absurd w (nO j)
    ·subst w;exact ⟨i0,.inl ⟨by unfold SR;rw [ho];exact ks,by omega,by omega,h1.2.2.2.2.2.2.1⟩⟩
  ·exact .inl ⟨by unfold SR;rw [ho];exact ks,hd.2.1,by rw [ho,hk];exact hd.2.2.1,by rw [ho,hk];exact hd.2.2.2⟩
  ·rintro j l (w | w)
   ·omega
   ·omega
  ·unfold cj;omega
  ·unfold cG;omega
  ·rintro (w | w)
   ·omega
   ·omega
 ·rename_i ok;have e1:(bw s g).1=s:=by
   unfold bw at ok ⊢
   split
   ·grind
   ·grind
  rw [e1];exact h.fY hg st (by omega) (by omega) (x:={ aa s g with res:={ (aa s g).res with code:=6 },place:=16 }) rfl rfl rfl rfl rfl rfl (by show bn _ 16;unfold bn;omega) (by simp) (by rw [e];unfold hP;simp)
theorem MInv.pG (h:MInv s) (hg:g < s.gs.length) (st:(aa s g).status=0) (k:(ag s g).kind=2∨(ag s g).kind=3) (e:(aa s g).place=11) {c':Cn} {a:Int} (e1:c'.lock=(cn s (ag s g).ch).lock) (e2:c'.cap=(cn s (ag s g).ch).cap) (e3:c'.buf=(cn s (ag s g).ch).buf)
  (er:c'.recv=if (ag s g).kind=2 then (cn s (ag s g).ch).recv else (cn s (ag s g).ch).recv ++ [(aa s g).bq]) (es:c'.send=if (ag s g).kind=2 then (cn s (ag s g).ch).send ++ [(aa s g).bq] else (cn s (ag s g).ch).send) :
  MInv (ai (aF s (ag s g).ch c') g { aa s g with iF:=a,place:=12 }):=by
 obtain ⟨c0,c1⟩:=h.oE hg (by omega) (by omega);have L:=h.loc hg;have hk:aG (aa s g)=ag s g:=rfl;have ks:SR (aa s g):=k;have hm:=L.mi ks (by omega) (by omega);have eA:=dY s g;have qG:Own (aa s g) (aa s g).bq:=⟨hm.1,.inl ⟨ks,by omega,by omega,rfl⟩⟩
 have hO:=Inv.own h.v (g:Int) (by omega) (by omega) (aa s g).bq (by rw [eA];exact qG);have hM:=hO.2.1;rw [eA] at hM;obtain ⟨m1,m2,m3,m4⟩:SR (aa s g)∧(su s (aa s g).bq).cs=-1∧(su s (aa s g).bq).ch=(ag s g).ch∧((su s (aa s g).bq).send=true↔(ag s g).kind=2):=by
  rcases hM with w | w
  ·exact w
  ·exact absurd w.1 ks.ne
 obtain ⟨x,hx⟩:∃ x,({ aa s g with iF:=a,place:=12 }:Gr)=x:=⟨_,rfl⟩
 have h1:x.ops=(aa s g).ops∧x.at_=(aa s g).at_∧x.place=12∧x.status=(aa s g).status∧x.token=(aa s g).token∧x.param=(aa s g).param∧x.bq=(aa s g).bq∧x.an=(aa s g).an∧x.au=(aa s g).au:=by subst hx;simp
 have ho:aG x=aG (aa s g):=by subst hx;rfl
 have wk:=h.sy hg (by omega);have sA:SR x:=by unfold SR;rw [ho];exact ks
 have gS:¬ SE x:=sA.ne;have pm:(aa s g).param=-1:=by
  have:=L.p0
  by_cases c:0≤(aa s g).param
  ·have:=(L.p2 c).1;rcases this with w | w
   ·omega
   ·omega
  ·omega
 rw [hx];have r:Rest s (ai (aF s (ag s g).ch c') g x):=(Rest.dK s _ c').trans (Rest.fJ _ hg h1.2.1);refine h.rest r (V.of r (Inv.push h.v (g:=g) (i:=(aa s g).bq) (x:=x) (c:=(ag s g).ch) (c':=c') (by omega) (by omega) (by rw [eA];exact qG) c0 c1 m3 ?_ ?_ ?_ ?_ ?_ ?_ ?_ ?_ ?_ ?_ ?_ e1 e2 e3 ?_ ?_) (fun j j0=>oC hg rfl j j0) (fun ch q=>kQ c0 c1 rfl ch q) (fun _ _=>rfl))
 ·clear hx r;obtain ⟨a1,a2,a3,a4,a5,a6,a7,a8,a9,kP,mw,lC,mz,mA,mC,lD,ov,oz,nr,oA,oB,mD⟩:=L
  constructor <;> simp only [Wt,SR,SE,e,st,Own,bn,cZ,ho,h1,hk] at * <;> grind
 ·intro ch;rw [eA];unfold bh;rw [ho,h1.2.2.1,e];simp only [gS,ks.ne,false_and,or_false]
  constructor <;> (intro w;exact ⟨w.1,w.2.1,w.2.2.1,by omega⟩)
 ·intro j;rw [eA];exact Own.wK ks ho h1.2.2.2.2.2.2.1 (by omega) (by omega)
 ·intro j w;have w2:=(Own.wK ks ho h1.2.2.2.2.2.2.1 (by omega) (by omega)).1 w;have:j=(aa s g).bq:=by
   rcases w2 with ⟨_,w | w⟩
   ·exact w.2.2.2.symm
   ·omega
  subst this;exact .inl ⟨sA,m2,by rw [ho];exact m3,by rw [ho];exact m4⟩
 ·rw [eA];rintro (w | w)
  ·omega
  ·omega
 ·rw [eA];rintro i j (w | w)
  ·omega
  ·omega
 ·exact .inl ⟨sA,by omega,by omega,h1.2.2.2.2.2.2.1,by rw [h1.2.2.2.2.2.1];exact pm⟩
 ·unfold cj;omega
 ·unfold cG;omega
 ·grind
 ·rw [eA];rintro (w | w)
  ·omega
  ·omega
 ·grind
 ·grind
theorem MInv.DD (h:MInv s) (hg:g < s.gs.length) (st:(aa s g).status=0) (k:(ag s g).kind=2∨(ag s g).kind=3) (e:(aa s g).place=14) (r:Md.ak):MInv (ai s g { aa s g with res:=r,param:=-1,place:=15 }):=by
 have L:=h.loc hg;have hk:aG (aa s g)=ag s g:=rfl;have ks:SR (aa s g):=k;have pm:=L.p1 e st;obtain ⟨x,hx⟩:∃ x,({ aa s g with res:=r,param:=-1,place:=15 }:Gr)=x:=⟨_,rfl⟩
 have h1:x.ops=(aa s g).ops∧x.at_=(aa s g).at_∧x.place=15∧x.status=(aa s g).status∧x.token=(aa s g).token∧x.param=-1∧x.bq=(aa s g).bq∧x.an=(aa s g).an∧x.au=(aa s g).au:=by subst hx;simp
 have ho:aG x=aG (aa s g):=by subst hx;rfl
 have wk:=h.sy hg (by omega);have sA:SR x:=by unfold SR;rw [ho];exact ks
 have gS:¬ SE x:=sA.ne;rw [hx];refine h.self hg ⟨?_,?_,?_,?_,?_,?_,?_,?_,?_⟩ h1.2.1 (fun w=>by unfold cj at w;omega)
 ·clear hx;obtain ⟨a1,a2,a3,a4,a5,a6,a7,a8,a9,kP,mw,lC,mz,mA,mC,lD,ov,oz,nr,oA,oB,mD⟩:=L
  constructor <;> simp only [Wt,SR,SE,e,st,Own,bn,cZ,ho,h1,hk] at * <;> grind
 ·intro ch;unfold bh;rw [ho,h1.2.2.1,e];simp only [gS,ks.ne,false_and,or_false];omega
 ·intro j;exact Own.wK ks ho h1.2.2.2.2.2.2.1 (by omega) (by omega)
 ·intro j d _ w;rcases w with w | w
  ·exact .inl ⟨sA,w.2.1,by rw [ho];exact w.2.2.1,by rw [ho];exact w.2.2.2⟩
  ·exact absurd w.1 ks.ne
 ·rintro i j (w | w)
  ·omega
  ·exact absurd w.1 ks.ne
 ·unfold cG;omega
 ·grind
 ·intro w;exact absurd st (w.2.2.2 e)
 ·intro w;have:=w.2.1;omega
end Sx
end Go.Proofs.YtgjpdogjekmemaaGreat
