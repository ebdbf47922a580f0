/-
  What the laws need, part T1.
  Conditions: none.
-/
import Derived.Test.YtgjpdogjekmemaaGreatB22
set_option linter.unusedVariables false
set_option linter.unusedSimpArgs false
set_option linter.unnecessarySimpa false
set_option maxHeartbeats 2000000
namespace Go.Proofs.YtgjpdogjekmemaaGreat
namespace Fl
open Sx Go.Proofs.Tryz
instance:bK prog 46 5 5:={}
instance:bK prog 46 6 6:={}
instance:aS prog 11:={}
instance:aS prog 12:={}
end Fl
namespace Ta
def md (b1 b2 b3:Bool) (m:Sx.Mk):Sx.Mk:={ g:=m.g,op:=m.op,call:=m.call,fW:=if b2 then 0 else m.fW,bS:=if b3 then 0 else m.bS,wi:=if b3 then -1 else m.wi,c7:=if b3 then -1 else m.c7,re:=if b1 then 0 else m.re,res:=if b1 then ⟨0,-1,0,false,0⟩ else m.res }
def up (s:Int) (m:Sx.Mk):List Sx.Mk:=if decide (m.call > s) then [] else [md (decide (m.re > s)) (decide (m.fW > s)) (decide (m.bS > s)) m]
theorem Oo (s:Int):∀ l:List Sx.Mk,(l.flatMap (up s)).length≤l.length
 | []=>Nat.le_refl _
 | m :: l=>by
  have:=Oo s l;have h:(up s m).length≤1:=by unfold up;split <;> simp
  simp only [List.flatMap_cons,List.length_append,List.length_cons];omega
end Ta
namespace Ss
end Ss
open Go.RowKit
namespace Fl
open Sx Go.Proofs.Tryz
set_option maxRecDepth 100000
set_option maxHeartbeats 4000000
theorem ON (l:List Mk) (s:Int) (hs:l.length≤400):Pure prog 11 [.c (.r 13 (l.map eM)),.c (nI s)] (.c (.r 13 ((l.flatMap (Ta.up s)).map eM))):=by
 refine aA.intro func11 rfl rfl rfl (fun ok e=>?_)
 repeat (refine gn ?_)
 refine J.nX 46 13 ?_;refine J.loop (ι:={ q:Nat × Value // q.1≤l.length }) (fun q=>[(10,.c (nI q.1.1)),(9,.c (nI l.length)),(8,.c (.r 13 (l.map eM))),(5,.c (.v q.1.2)),(1,.c (nI s))]) (fun q=>[.row q.1.2 46 13 (((l.take q.1.1).flatMap (Ta.up s)).map eM)]) (fun q=>l.length - q.1.1) ⟨(0,.slice none 0 0),Nat.zero_le _⟩ (fun X h=>h.aF ⟨rfl,rfl,rfl,rfl,rfl,trivial⟩) (fun q ih=>?_);obtain ⟨⟨k,v⟩,kR⟩:=q;simp only at kR ih ⊢
 by_cases hk:k < l.length
 ·have t1:decide ((k:Int) < (l.length:Int))=true:=decide_eq_true (by omega);obtain ⟨m,hm⟩:∃ m,l[k]?=some m:=⟨_,List.getElem?_eq_getElem hk⟩
  have AX:=cS (enc:=eM) hm;have fe:=Ta.Oo s (l.take k);have ft:=List.length_take_le k l;have fs:=Ta.G7 (f:=Ta.up s) hm;have n1:(((l.take k).flatMap (Ta.up s)).map eM).length=((l.take k).flatMap (Ta.up s)).length:=List.length_map ..;generalize hE:((l.take k).flatMap (Ta.up s)).map eM=E at n1 ⊢;have ev:Ta.up s m=if decide (m.call > s) then [] else [Ta.md (decide (m.re > s)) (decide (m.fW > s)) (decide (m.bS > s)) m]:=rfl
  cases t2:decide (m.call > s)
  ·cases t3:decide (m.re > s) <;> cases t4:decide (m.fW > s) <;> cases t5:decide (m.bS > s)
   all_goals
    rw [ev,t2,t3,t4,t5,if_neg (by simp)] at fs
    repeat (first | (refine K.lit ?_;refine JO.ld (Ld.mE (qb rfl) rfl rfl rfl rfl rfl) rfl (fun _=>?_)) | (refine K.bi ?_;refine JO.ld (Ld.bO (qb rfl) rfl rfl .read (by (simp;omega))) rfl (fun _=>?_)) | refine au ?_ | intro _)
    refine J.ep 1 ?_;refine J.bq ?_ ((ih ⟨(k + 1,_),by simp only;omega⟩ (by simp only;omega)).aF ⟨rfl,rfl,rfl,rfl,rfl,trivial⟩);simp only;rw [fs,List.map_append,hE];rfl
  ·rw [ev,t2,if_pos rfl,List.append_nil] at fs
   repeat (first | refine au ?_ | intro _)
   refine J.ep 0 ?_;refine J.bq ?_ ((ih ⟨(k + 1,_),by simp only;omega⟩ (by simp only;omega)).aF ⟨rfl,rfl,rfl,rfl,rfl,trivial⟩);simp only;rw [fs,hE]
 ·obtain rfl:k=l.length:=by omega
  have t1:decide ((l.length:Int) < (l.length:Int))=false:=decide_eq_false (by omega);rw [List.take_length]
  repeat (refine gn ?_)
  refine J.gy 4 rfl ?_;exact az func11
end Fl
end Go.Proofs.YtgjpdogjekmemaaGreat
set_option maxHeartbeats 2000000
namespace Go.Proofs.YtgjpdogjekmemaaGreat
namespace Sx
variable {s t:ai} {g:Nat} {nc ns n:Int}
end Sx
namespace Sx
variable {s t:ai} {g:Nat} {nc ns n:Int}
end Sx
namespace Sx
variable {s t:ai} {g:Nat} {nc ns n:Int}
end Sx
namespace Sx
variable {s t:ai} {g:Nat} {nc ns n:Int}
end Sx
namespace Sx
variable {s t:ai} {g:Nat} {nc ns n:Int}
end Sx
namespace Sx
variable {s t:ai} {g:Nat} {nc ns n:Int} {x y:Gr}
end Sx
namespace Sx
variable {s t:ai} {g:Nat} {nc ns n:Int} {x y:Gr}
end Sx
namespace Sx
variable {s t:ai} {g:Nat} {nc ns n:Int} {x y:Gr}
end Sx
namespace Sx
variable {s t:ai} {g:Nat} {nc ns n:Int} {x y:Gr}
end Sx
namespace Sx
variable {s t:ai} {g:Nat} {nc ns n:Int} {x y:Gr}
end Sx
namespace Sx
variable {s t:ai} {g:Nat} {nc ns n:Int} {x y:Gr}
end Sx
namespace Sx
variable {s t:ai} {g:Nat} {nc ns n:Int} {x y:Gr}
end Sx
namespace Sx
variable {s t:ai} {g:Nat} {nc ns n:Int} {x y:Gr}
theorem Oq {s:ai} {g h:Nat} {v:Int}:aa (cL s g v) h=aa s h:=by
 unfold cL bh iZ aa
 split <;> rfl
end Sx
namespace Sx
end Sx
namespace Sx
def NJ (x:Gr):Int:=if x.place=2∨x.place=3 then 0 else x.bS
structure NS (n:Int) (x y:Gr):Prop where
 at_:y.at_=x.at_
 call:y.call=x.call
 arr:y.fW=x.fW∨x.fW=0∧y.fW=n
 vi:NJ x=0∨NJ y=NJ x
theorem NS.refl (n:Int) (x:Gr):NS n x x:=⟨rfl,rfl,.inl rfl,.inr rfl⟩
theorem NS.trans {n:Int} {x y z:Gr} (a:NS n x y) (b:NS n y z):NS n x z:=by
 refine ⟨b.at_.trans a.at_,b.call.trans a.call,?_,?_⟩
 ·have:=a.arr;have:=b.arr;omega
 ·have:=a.vi;have:=b.vi;omega
def early (p:Int):Prop:=p=1∨p=4∨5≤p∧p≤7∨9≤p∧p≤11∨p=20∨p=21∨24≤p∧p≤26∨p=28∨p=29
def NH (p:Int):Prop:=1≤p∧p≤11∨20≤p∧p≤29
structure TL (n:Int) (x:Gr):Prop where
 c0:x.call=0↔x.place=0
 c1:0≤x.call∧x.call≤n
 a1:0≤x.fW∧x.fW≤n
 p1:0≤x.bS∧x.bS≤n
 er:early x.place→x.bS=0
 fo:NH x.place→x.fW=0
 se:(aI x).kind=9→(x.place=13∨x.place=14∨x.place=30∧x.res.code=0)→x.br=false→x.bS=0
def NI (s:ai) (g:Nat):Prop:=∀ c i:Int,1≤c→c≤s.aK.length→(i∈(cn s c).recv∨i∈(cn s c).send)→(su s i).cs < 0→(su s i).g.toNat≠g
structure Zt (n:Int) (s t:ai):Prop where
 gl:t.gs.length=s.gs.length
 dn:t.done=s.done
 n0:0≤n
 ev:∀ h,NS n (aa s h) (aa t h)
 lo:∀ h,TL n (aa t h)
 nq:∀ h,(aa t h).bS≠0→NI t h
section
variable {n:Int} {s t u:ai} {g:Nat}
theorem TL.clean (n0:0≤n) {l:List Pn.Op} {a:Int}:TL n (clean l a) :=
 ⟨by simp [Sx.clean],by simp [Sx.clean,n0],by simp [Sx.clean,n0],by simp [Sx.clean,n0],fun _=>rfl,fun _=>rfl,fun _ _ _=>rfl⟩
theorem NQ (t:ai) (g h:Nat) (x:Gr):aa (ah t g x) h=aa t h∨h=g∧aa (ah t g x) h=x:=by
 unfold aa Sx.ah;rw [List.getD_eq_getElem?_getD,List.getElem?_set,List.getD_eq_getElem?_getD]
 split
 ·rename_i e
  split
  ·exact .inr ⟨e.symm,rfl⟩
  ·rename_i hl;rw [← e,List.getElem?_eq_none (by omega)];exact .inl rfl
 ·exact .inl rfl
theorem NI.of (h:NI t g) (e1:u.aK=t.aK) (e2:u.aL=t.aL):NI u g:=fun c i c0 c1 hi hc=>by
 unfold cn su at *;rw [e1] at c1 hi;rw [e2] at hc ⊢;exact h c i c0 c1 hi hc
theorem Zt.ff (z:Zt n s t) {x:Gr} (e:NS n (aa s g) x) (l:TL n x) (w:x.bS≠0→(aa t g).bS≠0∨NI t g):Zt n s (Sx.ah t g x):=by
 refine ⟨by rw [← z.gl];simp [Sx.ah],z.dn,z.n0,fun h=>?_,fun h=>?_,fun h hp=>?_⟩
 ·rcases NQ t g h x with e1 | ⟨rfl,e1⟩
  ·rw [e1];exact z.ev h
  ·rw [e1];exact e
 ·rcases NQ t g h x with e1 | ⟨rfl,e1⟩
  ·rw [e1];exact z.lo h
  ·rw [e1];exact l
 ·rcases NQ t g h x with e1 | ⟨rfl,e1⟩
  ·rw [e1] at hp;exact (z.nq h hp).of rfl rfl
  ·rw [e1] at hp;rcases w hp with w | w
   ·exact (z.nq _ w).of rfl rfl
   ·exact w.of rfl rfl
theorem Zt.of (z:Zt n s t) (e1:u.gs=t.gs) (e2:u.done=t.done) (hq:∀ h,NI t h→NI u h):Zt n s u:=by
 have hg:∀ h,aa u h=aa t h:=fun h=>by unfold aa;rw [e1]
 exact ⟨by rw [e1];exact z.gl,by rw [e2];exact z.dn,z.n0,fun h=>by rw [hg];exact z.ev h,fun h=>by rw [hg];exact z.lo h,fun h hp=>by rw [hg] at hp;exact hq h (z.nq h hp)⟩
theorem Zt.same (z:Zt n s t) (e1:u.gs=t.gs:=by rfl) (e2:u.done=t.done:=by rfl) (e3:u.aK=t.aK:=by rfl) (e4:u.aL=t.aL:=by rfl):Zt n s u:=z.of e1 e2 fun _ h=>h.of e3 e4
theorem Oa (t:ai) (c k:Int) (c':Cn):cn (aH t c c') k=cn t k∨cn t k=cn t c∧cn (aH t c c') k=c':=by
 unfold cn Sx.aH;rw [List.getD_eq_getElem?_getD,List.getElem?_set,List.getD_eq_getElem?_getD,List.getD_eq_getElem?_getD]
 split
 ·rename_i e
  split
  ·exact .inr ⟨by rw [← e],rfl⟩
  ·rename_i hl;rw [← e,List.getElem?_eq_none (by omega)];exact .inl rfl
 ·exact .inl rfl
theorem NI.dI (h:NI t g) {c:Int} {c':Cn} (h1:∀ i∈c'.recv,i∈(cn t c).recv) (h2:∀ i∈c'.send,i∈(cn t c).send):NI (Sx.aH t c c') g:=fun k i k0 k1 hi hc=>by
 have N9:k≤t.aK.length:=by simpa [Sx.aH] using k1
 refine h k i k0 N9 ?_ hc;rcases Oa t c k c' with e | ⟨e1,e2⟩
 ·rw [e] at hi;exact hi
 ·rw [e2] at hi;rw [e1];rcases hi with hi | hi
  ·exact .inl (h1 i hi)
  ·exact .inr (h2 i hi)
theorem Zt.chan (z:Zt n s t) {c:Int} {c':Cn} (h1:∀ i∈c'.recv,i∈(cn t c).recv:=by exact fun _ h=>h) (h2:∀ i∈c'.send,i∈(cn t c).send:=by exact fun _ h=>h):Zt n s (Sx.aH t c c'):=z.of rfl rfl fun _ h=>h.dI h1 h2
theorem Zt.tryLock (z:Zt n s t) {c:Int}:Zt n s (Sx.tryLock t g c).1:=by unfold Sx.tryLock;split;exact z.chan;exact z
theorem Zt.free (z:Zt n s t) {c:Int}:Zt n s (Sx.free t c):=z.chan
theorem Zt.drop (z:Zt n s t) {i:Int}:Zt n s (Sx.bE t i):=by
 unfold Sx.bE
 split
 ·exact z.chan (fun j hj=>gH.subset hj) (fun j hj=>gH.subset hj)
 ·exact z
theorem Ot (t:ai) (i k:Int) (d:Su):su (bh t i d) k=su t k∨su t k=su t i∧k.toNat=i.toNat∧su (bh t i d) k=d:=by
 unfold su Sx.bh;rw [List.getD_eq_getElem?_getD,List.getElem?_set,List.getD_eq_getElem?_getD,List.getD_eq_getElem?_getD]
 split
 ·rename_i e
  split
  ·exact .inr ⟨by rw [← e],e.symm,rfl⟩
  ·rename_i hl;rw [← e,List.getElem?_eq_none (by omega)];exact .inl rfl
 ·exact .inl rfl
theorem Zt.Ob (z:Zt n s t) {i:Int} {d:Su} (e1:d.g=(su t i).g:=by rfl) (e2:d.cs=(su t i).cs:=by rfl):Zt n s (Sx.bh t i d):=z.of rfl rfl fun h hq c k c0 c1 hi hc=>by
 rcases Ot t i k d with e | ⟨e3,_,e4⟩
 ·rw [e] at hc ⊢;exact hq c k c0 c1 hi hc
 ·rw [e4] at hc ⊢;have:=hq c k c0 c1 hi (by rw [e3,← e2];exact hc);rw [e3,← e1] at this;exact this
theorem Zt.Oe (z:Zt n s t) {i:Int} {d:Su} (eH:∀ c k:Int,1≤c→c≤t.aK.length→(k∈(cn t c).recv∨k∈(cn t c).send)→k.toNat≠i.toNat):Zt n s (Sx.bh t i d):=z.of rfl rfl fun h hq c k c0 c1 hi hc=>by
 rcases Ot t i k d with e | ⟨_,e3,_⟩
 ·rw [e] at hc ⊢;exact hq c k c0 c1 hi hc
 ·exact absurd e3 (eH c k c0 c1 hi)
theorem Zt.put (z:Zt n s t) {y:Gr} (hq:y.place≠0) (q:(aa t g).place≠0) (h2:y.place=2∨y.place=3→NJ (aa t g)=0) (ea:y.at_=(aa t g).at_:=by rfl) (ec:y.call=(aa t g).call:=by rfl) (er:y.fW=(aa t g).fW:=by rfl) (ep:y.bS=(aa t g).bS:=by rfl)
  (he:early y.place→(aa t g).bS=0) (hf:NH y.place→(aa t g).fW=0) (hs:(aI y).kind=9→(y.place=13∨y.place=14∨y.place=30∧y.res.code=0)→y.br=false→(aa t g).bS=0):Zt n s (Sx.ah t g y):=by
 have l:=z.lo g;refine z.ff ((z.ev g).trans ⟨ea,ec,.inl er,?_⟩) ⟨by rw [ec];have:=l.c0;omega,by rw [ec];exact l.c1,by rw [er];exact l.a1,by rw [ep];exact l.p1,fun e=>by rw [ep];exact he e,fun e=>by rw [er];exact hf e,fun a b c=>by rw [ep];exact hs a b c⟩ fun h=>.inl (by rw [← ep];exact h)
 unfold NJ at h2 ⊢;rw [ep]
 split
 ·exact .inl rfl
 ·rename_i c
  split
  ·rename_i c2;have:=h2 c2;rw [if_neg c] at this;exact .inl this
  ·exact .inr rfl
theorem Zt.kp (z:Zt n s t) {y:Gr} (e0:y.place=(aa t g).place:=by rfl) (ea:y.at_=(aa t g).at_:=by rfl) (ec:y.call=(aa t g).call:=by rfl) (er:y.fW=(aa t g).fW:=by rfl) (ep:y.bS=(aa t g).bS:=by rfl)
  (eo:y.ops=(aa t g).ops:=by rfl) (ek:y.br=false→(aa t g).br=false:=by exact fun h=>h) (MT:y.res.code=(aa t g).res.code:=by rfl):Zt n s (Sx.ah t g y):=by
 have l:=z.lo g;have OO:aI y=aI (aa t g):=by unfold aI;rw [eo,ea]
 refine z.ff ((z.ev g).trans ⟨ea,ec,.inl er,.inr (by unfold NJ;rw [e0,ep])⟩) ⟨by rw [ec,e0];exact l.c0,by rw [ec];exact l.c1,by rw [er];exact l.a1,by rw [ep];exact l.p1,fun e=>by rw [ep];exact l.er (by rw [← e0];exact e),fun e=>by rw [er];exact l.fo (by rw [← e0];exact e),fun a b c=>by rw [ep];exact l.se (by rw [← OO];exact a) (by rw [← e0,← MT];exact b) (ek c)⟩ fun h=>.inl (by rw [← ep];exact h)
theorem Zt.ite {p:Prop} [Decidable p] {β:Type} {x y:ai × β} (h1:p→Zt n s x.1) (h2:¬ p→Zt n s y.1):Zt n s (if p then x else y).1:=by
 split
 ·exact h1 ‹_›
 ·exact h2 ‹_›
theorem Zt.bN {p:Prop} [Decidable p] {x y:ai} (h1:p→Zt n s x) (h2:¬ p→Zt n s y):Zt n s (if p then x else y):=by
 split
 ·exact h1 ‹_›
 ·exact h2 ‹_›
theorem Zt.bG (z:Zt n s t) (hn:t.step=n) {r:Md.ak} {p:Int} (hv:NJ (aa t g)=0) (hq:NI t g) (q:(aa t g).place≠0) (p0:p≠0) (he:¬ early p) (hf:NH p→(aa t g).fW=0) (hs:p=13∨p=14∨p=30∧r.code=0→False):Zt n s (Sx.bG t g r p):=by
 have l:=z.lo g;have n0:=z.n0;unfold Sx.bG;refine z.ff ((z.ev g).trans ⟨rfl,rfl,.inl rfl,.inl hv⟩) ⟨?_,l.c1,l.a1,?_,fun e=>absurd e he,hf,fun _ b _=>(hs b).elim⟩ fun _=>.inr hq
 ·show (aa t g).call=0↔p=0;have:=l.c0;omega
 ·show 0≤t.step∧t.step≤n;omega
theorem Zt.N1 (z:Zt n s t) {y:Gr} (hv:NJ (aa t g)=0) (hq:NI t g) (q:(aa t g).place≠0) (p0:y.place≠0) (he:¬ early y.place) (hf:NH y.place→(aa t g).fW=0) (hs:(aI y).kind=9→(y.place=13∨y.place=14∨y.place=30∧y.res.code=0)→y.br=true) (ep:y.bS=n) (ea:y.at_=(aa t g).at_:=by rfl) (ec:y.call=(aa t g).call:=by rfl) (er:y.fW=(aa t g).fW:=by rfl):Zt n s (Sx.ah t g y):=by
 have l:=z.lo g;have n0:=z.n0;refine z.ff ((z.ev g).trans ⟨ea,ec,.inl er,.inl hv⟩) ⟨?_,by rw [ec];exact l.c1,by rw [er];exact l.a1,by rw [ep];omega,fun e=>absurd e he,fun e=>by rw [er];exact hf e,fun a b c=>?_⟩ fun _=>.inr hq
 ·rw [ec];have:=l.c0;omega
 ·rw [hs a b] at c;cases c
theorem N5 {x:Gr} (h:x.bS=0):NJ x=0:=by unfold NJ;split;rfl;exact h
theorem Zt.vE (z:Zt n s t) (e:early (aa t g).place):NJ (aa t g)=0:=N5 ((z.lo g).er e)
def NU (e p:Int):Prop:=e≠0∧p≠0∧p≠2∧p≠3∧p≠13∧p≠14∧p≠30∧(early p→early e)∧(NH p→NH e)
theorem Zt.NL (z:Zt n s t) {e p:Int} {y:Gr} (q:(aa t g).place=e) (ey:y.place=p:=by rfl) (c:NU e p:=by unfold NU early NH;omega) (ea:y.at_=(aa t g).at_:=by rfl) (ec:y.call=(aa t g).call:=by rfl) (er:y.fW=(aa t g).fW:=by rfl) (ep:y.bS=(aa t g).bS:=by rfl):Zt n s (Sx.ah t g y):=by
 obtain ⟨c1,c2,c3,c4,c5,c6,c7,c8,c9⟩:=c;have l:=z.lo g;exact z.put (by omega) (by omega) (fun h=>by omega) ea ec er ep (fun h=>l.er (by rw [q];exact c8 (by rw [← ey];exact h))) (fun h=>l.fo (by rw [q];exact c9 (by rw [← ey];exact h))) fun _ h=>by omega
theorem Zt.go (z:Zt n s t) {e p:Int} (q:(aa t g).place=e) (c:NU e p:=by unfold NU early NH;omega):Zt n s (Sx.aT t g p):=z.NL q rfl c
end
end Sx
namespace Sx
section
variable {n:Int} {s t:ai} {g:Nat}
theorem NY (h:MInv s) (hg:g < s.gs.length) (hp:¬ (12≤(aa s g).place∧(aa s g).place≤14)):NI s g:=fun c i c0 c1 hi hc e=>by
 obtain ⟨o,q⟩:=h.qK (g:=g) c0 c1 hi;have eo:o=g:=by rw [q.g_] at e;simpa using e
 subst eo;rcases q.q with w | w
 ·exact hp ⟨w.2.1,w.2.2.1⟩
 ·have:=w.2.1;omega
theorem Ou (h:MInv s) (hs:SE (aa s g)):NI s g:=fun c i c0 c1 hi hc e=>by
 obtain ⟨o,q⟩:=h.qK (g:=g) c0 c1 hi;have eo:o=g:=by rw [q.g_] at e;simpa using e
 subst eo;rcases q.mt with w | w
 ·exact w.1.ne hs
 ·have:=w.2.1;omega
theorem Ov (h:MInv s) (z:Zt n s s) {c i:Int} {o:Nat} (c0:1≤c) (c1:c≤s.aK.length) (hq:i∈(cn s c).recv∨i∈(cn s c).send) (q:qJ s g c i o) (hn:¬ 0≤(su s i).cs) :
  (aa s o).bS=0∧(12≤(aa s o).place∧(aa s o).place≤14)∧(aI (aa s o)).kind≠9∧NI (aH s c (bQ (cn s c) i)) o:=by
 have lu:(su s i).cs < 0:=by omega
 have hp:(aa s o).bS=0:=by
  by_cases e:(aa s o).bS=0
  ·exact e
  ·exact absurd (by rw [q.g_];simp) (z.nq o e c i c0 c1 hq lu)
 have hw:SR (aa s o)∧12≤(aa s o).place∧(aa s o).place≤14∧(aa s o).bt=i:=by
  rcases q.q with w | w
  ·exact ⟨w.1,w.2.1,w.2.2.1,w.2.2.2.1⟩
  ·have:=w.2.1;omega
 refine ⟨hp,⟨hw.2.1,hw.2.2.1⟩,fun e=>hw.1.ne e,fun k j k0 k1 hj hc e=>?_⟩;have N9:k≤s.aK.length:=by simpa [Sx.aH] using k1
 have lX:j∈(cn s k).recv∨j∈(cn s k).send:=by
  rcases Oa s c k (bQ (cn s c) i) with e1 | ⟨e1,e2⟩
  ·rw [e1] at hj;exact hj
  ·rw [e2] at hj;rw [e1];rcases hj with hj | hj
   ·exact .inl (gH.subset hj)
   ·exact .inr (gH.subset hj)
 obtain ⟨o2,q2⟩:=h.qK (g:=g) k0 N9 lX;have eo:o2=o:=by
  have e':(su s j).g.toNat=o:=e;rw [q2.g_] at e';simpa using e'
 subst eo;have iX:j=i:=by
  rcases q2.q with w | w
  ·rw [← w.2.2.2.1,hw.2.2.2]
  ·exact absurd hw.1 (fun a=>a.ne w.1)
 subst iX;have ek:k=c:=by rw [← q2.ch,← q.ch]
 subst ek;rcases Oa s k k (bQ (cn s k) j) with e1 | ⟨e1,e2⟩
 ·have e3:cn (aH s k (bQ (cn s k) j)) k=bQ (cn s k) j:=by
   unfold cn Sx.aH;rw [List.getD_eq_getElem?_getD,List.getElem?_set,if_pos rfl,if_pos (by omega)];rfl
  rw [e3] at hj;rcases hj with hj | hj <;> exact kG hj
 ·rw [e2] at hj;rcases hj with hj | hj <;> exact kG hj
theorem Ow (h:MInv s) (hg:g < s.gs.length) (z:Zt n s s) {c i:Int} {o:Nat} (c0:1≤c) (c1:c≤s.aK.length) (hq:i∈(cn s c).recv∨i∈(cn s c).send) (q:qJ s g c i o) (hn:0≤(su s i).cs) (hh:bl (aa s g) c) (ck:o≠g) (hp:(aa s o).br=false) :
  (aa s o).bS=0∧((aa s o).place=13∨(aa s o).place=14∨(aa s o).place=30)∧SE (aa s o):=by
 have hs:SE (aa s o):=by
  rcases q.mt with w | w
  ·have:=w.2.1;omega
  ·exact w.1
 have:=Inv.BA h.v c0 c1 hq (g:=g) (by omega) (by omega) (by rw [dR];exact hh) (by rw [q.g_];omega);rw [q.g_,dR] at this;rcases this with w | w
 ·rcases w with w | w
  ·exact absurd hs w.1.ne
  ·refine ⟨(z.lo o).se hs w.2 hp,by omega,hs⟩
 ·rw [w.2.2] at hp;cases hp
theorem Oc {p:Int} (h:12≤p∧p≤14∨p=30):¬ early p∧¬ NH p∧p≠0:=by unfold early NH;omega
theorem NN {c:Int} (h:Nat):aa (tryLock t g c).1 h=aa t h:=by unfold tryLock;split <;> rfl
theorem Zt.fH (z:Zt n s t):Zt n s (Sx.fH t g):=by
 unfold Sx.fH
 split
 ·exact z.kp
 ·split
  ·exact z.kp
  ·exact z.kp
theorem Zt.ready (z:Zt n s t) {o:Nat}:Zt n s (Sx.ready t o):=by
 unfold Sx.ready
 split
 ·exact z.kp
 ·split
  ·exact z.kp
  ·exact z.kp
theorem OP {o:Nat} (h:Nat):(aa (ready t o) h).at_=(aa t h).at_∧(aa (ready t o) h).call=(aa t h).call∧(aa (ready t o) h).fW=(aa t h).fW∧(aa (ready t o) h).bS=(aa t h).bS∧(aa (ready t o) h).place=(aa t h).place∧(aa (ready t o) h).ops=(aa t h).ops∧(aa (ready t o) h).br=(aa t h).br∧(aa (ready t o) h).res=(aa t h).res:=by
 unfold ready;rcases NQ t o h (if (aa t o).status=1 then { aa t o with status:=0 } else if (aa t o).status=0 then { aa t o with token:=true } else aa t o) with e | ⟨rfl,e⟩
 ·rw [e];simp
 ·rw [e];split
  ·simp
  ·split <;> simp
theorem Zt.an (z:Zt n s t) {e:Int} (q:(aa t g).place=e) (c:e=16∨e=17∨e=30∨e=34):Zt n s (Sx.an t g):=by
 unfold Sx.an
 split
 ·exact z.go q (by unfold NU early NH;omega)
 ·exact z.go q (by unfold NU early NH;omega)
theorem Zt.serve (z:Zt n s t) {i:Int} {d:Bool}:Zt n s (Sx.serve t g i d):=by
 have z2:Zt n s (Sx.bh (Sx.ah t (su t i).g.toNat { aa t (su t i).g.toNat with param:=i }) i { su t i with done:=d }):=Zt.Ob (z.kp (g:=(su t i).g.toNat) (y:={ aa t (su t i).g.toNat with param:=i }));exact z2.kp
theorem Of {i:Int} {d:Bool} (h:Nat):(aa (serve t g i d) h).place=(aa t h).place:=by
 have hp:∀ (T:ai) (w:List Int),(aa (ah T g { aa T g with an:=w,hold:=-1 }) h).place=(aa T h).place:=fun T w=>by
  rcases NQ T g h { aa T g with an:=w,hold:=-1 } with e | ⟨e0,e⟩
  ·rw [e]
  ·rw [e,e0]
 unfold serve;dsimp only;rw [hp,Ie];rcases NQ t (su t i).g.toNat h { aa t (su t i).g.toNat with param:=i } with e | ⟨e0,e⟩
 ·rw [e]
 ·rw [e,e0]
theorem Zt.iZ (z:Zt n s t) {k:Nat} {x:Int}:Zt n s (Sx.iZ t k x):=by unfold Sx.iZ;split;exact z.same;exact z
theorem OQ (h:MInv s) (hg:g < s.gs.length) {i:Int} (ho:Own (aa s g) i) (nq:∀ j,¬ dy (aa s g) i j) (c k:Int) (c0:1≤c) (c1:c≤s.aK.length) (hk:k∈(cn s c).recv∨k∈(cn s c).send):k.toNat≠i.toNat:=fun e=>by
 obtain ⟨o,q⟩:=h.qK (g:=g) c0 c1 hk;have i0:=ho.1;have k0:=q.i0;obtain rfl:k=i:=by omega
 have:=Inv.own h.v (g:Int) (by omega) (by omega) k (by rw [dR];exact ho);have Pa:=this.2.2.1;have eo:o=g:=by have:=q.g_;omega
 subst eo;exact nq _ q.q
theorem Zt.cL (z:Zt n s s) (h:MInv s) (hg:g < s.gs.length) {i:Int} (ho:Own (aa s g) i) (nq:∀ j,¬ dy (aa s g) i j):Zt n s (Sx.cL s g i):=by
 unfold Sx.cL;refine Zt.Oe z.iZ fun c k c0 c1 hk=>?_
 have e:(Sx.iZ s g i).aK=s.aK:=by unfold Sx.iZ;split <;> rfl
 unfold cn at hk;rw [e] at c1 hk;exact OQ h hg ho nq c k c0 c1 hk
theorem Zt.common (z:Zt n s s) (h:MInv s) (hg:g < s.gs.length):Zt n s (Sx.common s g).1:=by
 have L:=h.loc hg;unfold Sx.common;dsimp only;refine .ite (fun e=>.ite (fun _=>.ite (fun _=>z.tryLock.go (e:=4) (by rw [NN];exact e)) fun _=>z.tryLock.go (e:=4) (by rw [NN];exact e)) fun _=>z) fun _=>.ite (fun e=>?_) fun _=>.ite (fun e=>?_) fun _=>.ite (fun e=>?_) fun _=>.ite (fun e=>Zt.an z.free (e:=16) e (by omega)) fun _=>.ite (fun e=>?_) fun _=>z
 ·have pl:=(L.pl.resolve_left (by omega)).2;rw [e] at pl;refine z.free.put (g:=g) (y:={ aa s g with place:=13 }) (by simp) (by show (aa s g).place≠0;omega) (by simp) rfl rfl rfl rfl (fun a=>by unfold early at a;simp at a) (fun a=>by unfold NH at a;simp at a) fun a _ _=>?_
  have:(aI (aa s g)).kind=9:=a;unfold bp at pl;omega
 ·refine Zt.fH (z.put (g:=g) (y:={ aa s g with place:=14 }) (by simp) (by omega) (by simp) rfl rfl rfl rfl (fun a=>by unfold early at a;simp at a) (fun a=>by unfold NH at a;simp at a) fun a _ c=>(z.lo g).se a (.inl e) c)
 ·have pl:=(L.pl.resolve_left (by omega)).2;rw [e] at pl;have sr:SR (aa s g):=by unfold SR;unfold bp at pl;omega
  have ho:Own (aa s g) (aa s g).bt:=⟨(L.mi sr (by omega) (by omega)).1,.inl ⟨sr,by omega,by omega,rfl⟩⟩
  have z2:=z.cL h hg ho (fun j w=>by rcases w with w | w;omega;exact sr.ne w.1);have eg:aa (Sx.cL s g (aa s g).bt) g=aa s g:=Oq;have z3:=z2.kp (g:=g) (y:={ aa s g with bt:=-1 }) (by rw [eg]) (by rw [eg]) (by rw [eg]) (by rw [eg]) (by rw [eg]) (by rw [eg]) (by rw [eg];exact fun a=>a) (by rw [eg]);refine z3.go (e:=15) ?_;rcases NQ (Sx.cL s g (aa s g).bt) g g { aa s g with bt:=-1 } with e1 | ⟨_,e1⟩
  ·rw [e1,eg];exact e
  ·rw [e1];exact e
 ·obtain ⟨r1,r2,r3,r4,r5,r6,r7,r8⟩:=OP (t:=s) (o:=((aa s g).an.headD 0).toNat) g;have z3:=(z.ready (o:=((aa s g).an.headD 0).toNat)).kp (g:=g) (y:={ aa s g with an:=(aa s g).an.tail }) r5.symm r1.symm r2.symm r3.symm r4.symm r6.symm (fun a=>by rw [r7];exact a) (by rw [r8]);refine z3.an (e:=17) ?_ (by omega);rcases NQ (Sx.ready s ((aa s g).an.headD 0).toNat) g g { aa s g with an:=(aa s g).an.tail } with e1 | ⟨_,e1⟩
  ·rw [e1,r5];exact e
  ·rw [e1];exact e
theorem Zt.bw (z:Zt n s t) {k:Nat}:Zt n s (Sx.bw t k).1:=by
 unfold Sx.bw;split
 ·split
  ·exact z.same
  ·exact z
 ·exact z.same
theorem NV {k:Nat} (h:Nat):aa (Sx.bw t k).1 h=aa t h:=by
 unfold Sx.bw;split
 ·split <;> rfl
 ·rfl
theorem Ox (h:MInv s) (hg:g < s.gs.length) (ok:(Sx.bw s g).2.2=true) (c k:Int) (c0:1≤c) (c1:c≤(Sx.bw s g).1.aK.length) (hk:k∈(cn (Sx.bw s g).1 c).recv∨k∈(cn (Sx.bw s g).1 c).send):k.toNat≠(Sx.bw s g).2.1.toNat:=fun e=>by
 have T:=vl h hg ok;rw [BG T.aK] at hk;rw [T.aK] at c1;have hl:=Inv.Bv h.v c0 c1 hk;obtain ⟨o,q⟩:=h.qK (g:=g) c0 c1 hk;have:=q.i0;have:=T.i0;obtain rfl:k=(Sx.bw s g).2.1:=by omega
 have:=T.nl;rw [this] at hl;cases hl
theorem Zt.bt (z:Zt n s s) (h:MInv s) (hg:g < s.gs.length) (e:(aa s g).place=10) {d:Su}:Zt n s (Sx.bt s g d):=by
 unfold Sx.bt;refine .bN (fun ok=>?_) fun _=>z.bw.NL (e:=10) (p:=16) (by rw [NV];exact e) rfl (ea:=by rw [NV]) (ec:=by rw [NV]) (er:=by rw [NV]) (ep:=by rw [NV])
 have z2:=z.bw.Oe (d:=d) (Ox h hg ok);have eg:aa (Sx.bh (Sx.bw s g).1 (Sx.bw s g).2.1 d) g=aa s g:=by rw [Ie,NV]
 exact z2.NL (e:=10) (p:=11) (by rw [eg];exact e) rfl (ea:=by rw [eg]) (ec:=by rw [eg]) (er:=by rw [eg]) (ep:=by rw [eg])
theorem Zt.push (z:Zt n s t) {c i:Int} {c':Cn} (hr:∀ j∈c'.recv,j∈(cn t c).recv∨j=i) (hs:∀ j∈c'.send,j∈(cn t c).send∨j=i) (hi:(su t i).cs < 0→(aa t (su t i).g.toNat).bS=0):Zt n s (Sx.aH t c c'):=by
 refine ⟨z.gl,z.dn,z.n0,z.ev,z.lo,fun h hp k j k0 k1 hj hc=>?_⟩;have N9:k≤t.aK.length:=by simpa [Sx.aH] using k1
 have old:j∈(cn t k).recv∨j∈(cn t k).send→(su t j).g.toNat≠h:=fun hj=>z.nq h hp k j k0 N9 hj hc
 have new:j=i→(su t j).g.toNat≠h:=fun e e2=>by
  subst e;subst e2;exact hp (hi hc)
 rcases Oa t c k c' with e | ⟨e1,e2⟩
 ·rw [e] at hj;exact old hj
 ·rw [e2] at hj;rw [e1] at old;rcases hj with hj | hj
  ·rcases hr j hj with w | w
   ·exact old (.inl w)
   ·exact new w
  ·rcases hs j hj with w | w
   ·exact old (.inr w)
   ·exact new w
theorem Zt.taken (z:Zt n s s) (hn:s.step=n) (h:MInv s) (hg:g < s.gs.length) {i c p q:Int} (e:(aa s g).place=6∨(aa s g).place=25) (hp:p=7∨p=26) (OR:q=8∨q=27) (c0:1≤c) (c1:c≤s.aK.length) (hq:i∈(cn s c).recv∨i∈(cn s c).send):Zt n s (Sx.taken s g i p q)∧(aa (Sx.taken s g i p q) g).place≠0:=by
 obtain ⟨o,Q⟩:=h.qK (g:=g) c0 c1 hq
 by_cases lu:0≤(su s i).cs
 ·rw [BP hg lu];refine ⟨?_,by rw [fT hg,if_pos rfl];show p≠0;omega⟩;rcases e with e | e
  ·exact z.NL (p:=p) e rfl (c:=by unfold NU early NH;omega)
  ·exact z.NL (p:=p) e rfl (c:=by unfold NU early NH;omega)
 ·obtain ⟨p0,pw,k9,nq⟩:=Ov h z c0 c1 hq Q lu;have ck:o≠g:=fun a=>by subst a;omega
  rw [BO hg Q.g_ ck Q.ch c0 c1 lu];refine ⟨?_,by rw [fT (by rw [fB];exact hg),if_pos rfl];show q≠0;omega⟩;have nw:=Oc (p:=(aa s o).place) (by omega);have z1:Zt n s (Sx.aH s c (bQ (cn s c) i)):=z.chan (fun j hj=>gH.subset hj) (fun j hj=>gH.subset hj);have z2:=z1.N1 (g:=o) (y:={ aa s o with bS:=s.step,wi:=g,c7:=(su s i).cs }) (N5 p0) nq nw.2.2 nw.2.2 nw.1 (fun a=>absurd a nw.2.1) (fun a=>absurd a k9) hn;have eg:aa (Sx.ah (Sx.aH s c (bQ (cn s c) i)) o { aa s o with bS:=s.step,wi:=g,c7:=(su s i).cs }) g=aa s g:=by rw [fT (s:=Sx.aH s c (bQ (cn s c) i)) Q.o1,if_neg (by omega)];rfl
  have NM:NI s g:=NY h hg (by omega);refine z2.N1 (g:=g) (by rw [eg];exact z.vE (by unfold early;omega)) (fun k j k0 k1 hj hc=>?_) (by rw [eg];omega) (by show q≠0;omega) (by show ¬ early q;unfold early;omega) (fun _=>by rw [eg];exact (z.lo g).fo (by unfold NH;omega)) (fun _ b=>by have b:q=13∨q=14∨q=30∧_:=b;omega) hn (by rw [eg]) (by rw [eg]) (by rw [eg]);exact ((NM.dI (c:=c) (c':=bQ (cn s c) i) (fun j hj=>gH.subset hj) (fun j hj=>gH.subset hj)).of rfl rfl:NI (Sx.ah (Sx.aH s c (bQ (cn s c) i)) o { aa s o with bS:=s.step,wi:=g,c7:=(su s i).cs }) g) k j k0 k1 hj hc
theorem Zt.cR (z:Zt n s s) (hn:s.step=n) (h:MInv s) (hg:g < s.gs.length) {p q:Int} (e:(aa s g).place=7∧p=6∨(aa s g).place=26∧p=25) (OR:q=8∨q=27):Zt n s (Sx.cR s g p q)∧(aa (Sx.cR s g p q) g).place≠0:=by
 obtain ⟨o,Q,c0,c1,hh,hq,lu⟩:=h.yA hg (by unfold bW;omega);have NM:NI s g:=NY h hg (by omega)
 by_cases hp:(aa s (su s (aa s g).hold).g.toNat).br=true
 ·rw [BQ hp];have eg:∀ i,aa (Sx.bE s i) g=aa s g:=fun i=>by unfold Sx.bE;split <;> rfl
  refine ⟨?_,by rw [fT (by unfold Sx.bE;split <;> exact hg),if_pos rfl];show p≠0;omega⟩;rcases e with ⟨e,rfl⟩ | ⟨e,rfl⟩
  ·exact z.drop.NL (e:=7) (p:=6) (by rw [eg];exact e) rfl (ea:=by rw [eg]) (ec:=by rw [eg]) (er:=by rw [eg]) (ep:=by rw [eg])
  ·exact z.drop.NL (e:=26) (p:=25) (by rw [eg];exact e) rfl (ea:=by rw [eg]) (ec:=by rw [eg]) (er:=by rw [eg]) (ep:=by rw [eg])
 ·rw [Q.g_,Int.toNat_natCast,Bool.not_eq_true] at hp;have ck:o≠g:=fun a=>by
   subst a;rcases Q.q with w | w
   ·omega
   ·have:=w.2.2.2.2;have:=w.1;unfold SE at this;omega
  obtain ⟨p0,pw,hs⟩:=Ow h hg z c0 c1 hq Q lu hh ck hp;rw [BR hg Q.o1 Q.g_ ck hp];refine ⟨?_,by rw [fT (by rw [fB];exact hg),if_pos rfl];show q≠0;omega⟩;have nw:=Oc (p:=(aa s o).place) (by omega);have z2:=z.N1 (g:=o) (y:={ aa s o with br:=true,bS:=s.step,wi:=g,c7:=(su s (aa s g).hold).cs }) (N5 p0) (Ou h hs) nw.2.2 nw.2.2 nw.1 (fun a=>absurd a nw.2.1) (fun _ _=>rfl) hn;have eg:aa (Sx.ah s o { aa s o with br:=true,bS:=s.step,wi:=g,c7:=(su s (aa s g).hold).cs }) g=aa s g:=by rw [fT Q.o1,if_neg (by omega)]
  exact z2.N1 (g:=g) (by rw [eg];exact z.vE (by unfold early;omega)) (NM.of rfl rfl) (by rw [eg];omega) (by show q≠0;omega) (by show ¬ early q;unfold early;omega) (fun _=>by rw [eg];exact (z.lo g).fo (by unfold NH;omega)) (fun _ b=>by have b:q=13∨q=14∨q=30∧_:=b;omega) hn (by rw [eg]) (by rw [eg]) (by rw [eg])
theorem Zt.pt (z:Zt n s t) (hn:t.step=n) {r:Md.ak} {p e:Int} (q:(aa t g).place=e) (hq:NI t g) (he:early e:=by unfold early;omega) (c:p≠0∧¬ early p∧(NH p→NH e)∧p≠13∧p≠14:=by unfold early NH;omega) (c2:p=30→r.code≠0:=by omega):Zt n s (Sx.bG t g r p) :=
 z.bG hn (z.vE (by rw [q];exact he)) hq (by unfold early at he;omega) c.1 c.2.1 (fun a=>(z.lo g).fo (by rw [q];exact c.2.2.1 a)) (fun a=>by rcases a with a | a | a;exact c.2.2.2.1 a;exact c.2.2.2.2 a;exact c2 a.1 a.2)
theorem Zt.arr (z:Zt n s t) {y:Gr} {e:Int} (q:(aa t g).place=e) (ey:y.fW=n) (he:early e∧NH e:=by unfold early NH;omega) (c:y.place≠0∧¬ early y.place∧¬ NH y.place:=by unfold early NH;simp) (ea:y.at_=(aa t g).at_:=by rfl) (ec:y.call=(aa t g).call:=by rfl) (ep:y.bS=(aa t g).bS:=by rfl):Zt n s (Sx.ah t g y):=by
 have l:=z.lo g;have n0:=z.n0;have p0:=l.er (by rw [q];exact he.1);have a0:=l.fo (by rw [q];exact he.2);refine z.ff ((z.ev g).trans ⟨ea,ec,.inr ⟨a0,ey⟩,.inl (N5 p0)⟩) ⟨?_,by rw [ec];exact l.c1,by rw [ey];omega,by rw [ep];exact l.p1,fun a=>absurd a c.2.1,fun a=>absurd a c.2.2,fun _ _ _=>by rw [ep];exact p0⟩ fun a=>.inl (by rw [← ep];exact a)
 have:=l.c0;have:=he.1;unfold early at this;rw [ec];omega
theorem NX {i:Int} (h:Nat):aa (Sx.bE t i) h=aa t h:=by unfold Sx.bE;split <;> rfl
theorem Oy (h:MInv s) (hg:g < s.gs.length) (k:SR (aa s g)) (e:(aa s g).place=11):(su s (aa s g).bt).g=g:=by
 have L:=h.loc hg;have ho:Own (aa s g) (aa s g).bt:=⟨(L.mi k (by omega) (by omega)).1,.inl ⟨k,by omega,by omega,rfl⟩⟩
 have:=Inv.own h.v (g:Int) (by omega) (by omega) _ (by rw [dR];exact ho);exact this.2.2.1
theorem Zt.jO (z:Zt n s s) {v:Int}:Zt n s (Sx.jO s g v):=(z.drop.Ob (i:=(aa s g).hold) (d:={ su (Sx.bE s (aa s g).hold) (aa s g).hold with v:=v })).serve
theorem Zt.bH (z:Zt n s s) (hn:s.step=n) (h:MInv s) (hg:g < s.gs.length):Zt n s (Sx.bH s g).1:=by
 have NT:=NY h hg;have L:=h.loc hg;unfold Sx.bH;dsimp only;refine .ite (fun _=>z) fun k=>.ite (fun _=>z.common h hg) fun _=>.ite (fun _=>z) fun hm=>?_
 have ov:=l5.1 (show Sx.aR s (ag s g).ch=true by simpa using hm);refine .ite (fun e=>.ite (fun _=>z.go e) fun _=>z.pt hn e (NT (by omega))) fun _=>.ite (fun e=>.ite (fun _=>?_) fun _=>z.NL (p:=18) e rfl) fun _=>.ite (fun e=>.ite (fun _=>z.pt hn e (NT (by omega))) fun _=>z.go e) fun _=>.ite (fun e=>.ite (fun _=>z.go e) fun hr=>(z.taken hn h hg (.inl e) (.inl rfl) (.inl rfl) ov.1 ov.2 (.inl (qO hr))).1) fun _=>.ite (fun e=>(z.cR hn h hg (.inl ⟨e,rfl⟩) (.inl rfl)).1) fun _=>.ite (fun e=>?_) fun _=>.ite (fun e=>.ite (fun _=>?_) fun _=>.ite (fun _=>z.pt hn e (NT (by omega))) fun _=>z.go e) fun _=>.ite (fun e=>z.bt h hg e) fun _=>.ite (fun e=>?_) fun _=>.ite (fun e=>z.NL (p:=15) e rfl) fun _=>z
 ·exact z.ff ⟨rfl,rfl,.inl rfl,.inl (by unfold NJ;rw [if_pos (.inl e)])⟩ ⟨by have:=(z.lo g).c0;show (aa s g).call=0↔(4:Int)=0;omega,(z.lo g).c1,(z.lo g).a1,⟨Int.le_refl _,z.n0⟩,fun _=>rfl,fun _=>(z.lo g).fo (by rw [e];unfold NH;omega),fun _ _ _=>rfl⟩ fun a=>absurd rfl a
 ·exact z.jO.NL (e:=8) (p:=16) (by unfold Sx.jO;dsimp only;rw [Of,Ie,NX];exact e) rfl
 ·exact (z.chan (c:=(ag s g).ch) (c':={ cn s (ag s g).ch with buf:=_ })).pt hn e ((NT (by omega)).dI (fun _ h=>h) fun _ h=>h)
 ·have pl:=(L.pl.resolve_left (by omega)).2;rw [e] at pl;have sr:SR (aa s g):=by unfold SR;unfold bp at pl;omega
  have p0:=(z.lo g).er (by rw [e];unfold early;omega);have z2:=z.push (c:=(ag s g).ch) (i:=(aa s g).bt) (c':={ cn s (ag s g).ch with send:=(cn s (ag s g).ch).send ++ [(aa s g).bt] }) (fun j hj=>.inl hj) (fun j hj=>by simpa using hj) fun _=>by rw [Oy h hg sr e];exact p0
  exact z2.arr (e:=11) e hn
theorem Zt.hand (z:Zt n s t) {c i:Int}:Zt n s (Sx.hand t c i).1:=by unfold Sx.hand;dsimp only;split;exact z;exact z.chan
theorem Oz {c i:Int} (h:Nat):aa (Sx.hand t c i).1 h=aa t h:=by unfold Sx.hand;dsimp only;split <;> rfl
theorem Zt.bF (z:Zt n s s) (hn:s.step=n) (h:MInv s) (hg:g < s.gs.length):Zt n s (Sx.bF s g).1:=by
 have NT:=NY h hg;have L:=h.loc hg;unfold Sx.bF;dsimp only;refine .ite (fun _=>z) fun k=>.ite (fun _=>z.common h hg) fun _=>.ite (fun _=>z) fun hm=>?_
 have ov:=l5.1 (show Sx.aR s (ag s g).ch=true by simpa using hm);refine .ite (fun e=>.ite (fun _=>z.go e) fun _=>z.pt hn e (NT (by omega))) fun _=>.ite (fun e=>.ite (fun _=>?_) fun _=>z.NL (p:=18) e rfl) fun _=>.ite (fun e=>.ite (fun _=>?_) fun _=>?_) fun _=>.ite (fun e=>.ite (fun _=>z.pt hn e (NT (by omega))) fun _=>.ite (fun _=>z.go e) fun _=>z.go e) fun _=>.ite (fun e=>.ite (fun _=>z.go e) fun hr=>(z.taken hn h hg (.inl e) (.inl rfl) (.inl rfl) ov.1 ov.2 (.inr (qO hr))).1) fun _=>.ite (fun e=>(z.cR hn h hg (.inl ⟨e,rfl⟩) (.inl rfl)).1) fun _=>.ite (fun e=>?_) fun _=>.ite (fun e=>.ite (fun _=>?_) fun _=>.ite (fun _=>z.pt hn e (NT (by omega))) fun _=>z.go e) fun _=>.ite (fun e=>z.bt h hg e) fun _=>.ite (fun e=>?_) fun _=>.ite (fun e=>z.NL (p:=15) e rfl) fun _=>z
 ·exact z.put (g:=g) (y:={ aa s g with place:=3 }) (by simp) (by omega) (fun _=>by unfold NJ;rw [if_pos (.inl e)]) rfl rfl rfl rfl (fun a=>by unfold early at a;simp at a) (fun a=>(z.lo g).fo (by rw [e];unfold NH;omega)) (fun _ b=>by simp at b)
 ·exact z.ff ⟨rfl,rfl,.inl rfl,.inl (by unfold NJ;rw [if_pos (.inr e)])⟩ ⟨by have:=(z.lo g).c0;show (aa s g).call=0↔(4:Int)=0;omega,(z.lo g).c1,(z.lo g).a1,⟨Int.le_refl _,z.n0⟩,fun _=>rfl,fun _=>(z.lo g).fo (by rw [e];unfold NH;omega),fun _ _ _=>rfl⟩ fun a=>absurd rfl a
 ·exact z.bG hn (by unfold NJ;rw [if_pos (.inr e)]) (NT (by omega)) (by omega) (by omega) (by unfold early;omega) (fun a=>by unfold NH at a;omega) (by omega)
 ·exact (z.drop.hand.serve).NL (e:=8) (p:=16) (by rw [Of,Oz,NX];exact e) rfl
 ·exact (z.chan (c:=(ag s g).ch) (c':={ cn s (ag s g).ch with buf:=_ })).pt hn e ((NT (by omega)).dI (fun _ h=>h) fun _ h=>h)
 ·have pl:=(L.pl.resolve_left (by omega)).2;rw [e] at pl;have sr:SR (aa s g):=by unfold SR;unfold bp at pl;omega
  have p0:=(z.lo g).er (by rw [e];unfold early;omega);have z2:=z.push (c:=(ag s g).ch) (i:=(aa s g).bt) (c':={ cn s (ag s g).ch with recv:=(cn s (ag s g).ch).recv ++ [(aa s g).bt] }) (fun j hj=>by simpa using hj) (fun j hj=>.inl hj) fun _=>by rw [Oy h hg sr e];exact p0
  exact z2.arr (e:=11) e hn
theorem Zt.closed (z:Zt n s s) (hn:s.step=n) (h:MInv s) (hg:g < s.gs.length) {i c:Int} {o:Nat} {x y:Gr} {d:Su} (e:(aa s g).place=22∨(aa s g).place=23) (Q:qJ s g c i o) (c0:1≤c) (c1:c≤s.aK.length) (hq:i∈(cn s c).recv∨i∈(cn s c).send) (hh:bl (aa s g) c)
  (hc:¬ 0≤(su s i).cs∨0≤(su s i).cs∧(aa s o).br=false∧y.br=true) (hx:x.place=22∨x.place=23) (x1:x.at_=(aa s g).at_) (x2:x.call=(aa s g).call) (x3:x.fW=(aa s g).fW) (x4:x.bS=(aa s g).bS)
  (y1:y.at_=(aa s o).at_) (y2:y.call=(aa s o).call) (y3:y.fW=(aa s o).fW) (y4:y.bS=s.step) (y5:y.place=(aa s o).place) (y6:y.ops=(aa s o).ops) (d1:d.g=(su s i).g) (d2:d.cs=(su s i).cs) :
  Zt n s (Sx.ah (Sx.bh (Sx.ah (Sx.aH s c (bQ (cn s c) i)) o y) i d) g x):=by
 have ck:o≠g:=fun a=>by
  subst a;rcases Q.q with w | w
  ·omega
  ·have:=w.2.2.2.2;omega
 have z1:Zt n s (Sx.aH s c (bQ (cn s c) i)):=z.chan (fun j hj=>gH.subset hj) (fun j hj=>gH.subset hj);have OS:aI y=aI (aa s o):=by unfold aI;rw [y1,y6]
 have z2:Zt n s (Sx.ah (Sx.aH s c (bQ (cn s c) i)) o y):=by
  by_cases lu:0≤(su s i).cs
  ·obtain ⟨hp,hy⟩:(aa s o).br=false∧y.br=true:=by
    rcases hc with w | w
    ·exact absurd lu w
    ·exact w.2
   obtain ⟨p0,pw,hs⟩:=Ow h hg z c0 c1 hq Q lu hh ck hp;have nw:=Oc (p:=(aa s o).place) (by omega);exact z1.N1 (g:=o) (N5 p0) ((Ou h hs).dI (fun j hj=>gH.subset hj) (fun j hj=>gH.subset hj)) nw.2.2 (by rw [y5];exact nw.2.2) (by rw [y5];exact nw.1) (fun a=>absurd (by rw [← y5];exact a) nw.2.1) (fun _ _=>hy) (by rw [y4];exact hn) y1 y2 y3
  ·obtain ⟨p0,pw,k9,nq⟩:=Ov h z c0 c1 hq Q lu;have nw:=Oc (p:=(aa s o).place) (by omega);exact z1.N1 (g:=o) (N5 p0) nq nw.2.2 (by rw [y5];exact nw.2.2) (by rw [y5];exact nw.1) (fun a=>absurd (by rw [← y5];exact a) nw.2.1) (fun a=>absurd (by rw [← OS];exact a) k9) (by rw [y4];exact hn) y1 y2 y3
 have z3:=z2.Ob (i:=i) (d:=d) d1 d2;have eg:aa (Sx.bh (Sx.ah (Sx.aH s c (bQ (cn s c) i)) o y) i d) g=aa s g:=by rw [Ie,fT (s:=Sx.aH s c (bQ (cn s c) i)) Q.o1,if_neg (by omega)];rfl
 exact z3.put (g:=g) (by omega) (by rw [eg];omega) (fun a=>by omega) (by rw [eg];exact x1) (by rw [eg];exact x2) (by rw [eg];exact x3) (by rw [eg];exact x4) (fun a=>by unfold early at a;omega) (fun a=>by rw [eg];exact (z.lo g).fo (by unfold NH;omega)) (fun _ b=>by omega)
end
end Sx
namespace Sx
section
variable {n:Int} {s t:ai} {g:Nat}
theorem Zt.ju (z:Zt n s s) (hn:s.step=n) (h:MInv s) (hg:g < s.gs.length) (k:(ag s g).kind=6) (e:(aa s g).place=22) {i:Int} (hq:i∈(cn s (ag s g).ch).recv∨i∈(cn s (ag s g).ch).send):Zt n s (Sx.ju s g i):=by
 obtain ⟨c0,c1⟩:=h.mV hg (by omega) (by omega);have L:=h.loc hg;obtain ⟨o,q⟩:=h.qK (g:=g) c0 c1 hq;have hh:bl (aa s g) (ag s g).ch:=.inl ⟨by show 2≤(ag s g).kind;omega,by show (ag s g).kind≤6;omega,rfl,by omega⟩;have ck:o≠g:=fun a=>by
  subst a;rcases q.q with w | w
  ·omega
  ·have:=w.2.2.2.2;omega
 unfold Sx.ju;dsimp only;have es:su (Sx.ah s g { aa s g with hold:=i }) i=su s i:=rfl;rw [es]
 by_cases lu:0≤(su s i).cs
 ·rw [if_pos lu,kF _ _ _ _ hg];exact z.NL (e:=22) (p:=23) e rfl
 ·rw [if_neg lu];have l1:(Sx.ah s g { aa s g with hold:=i }).gs.length=s.gs.length:=fB;have gg:aa (Sx.ah s g { aa s g with hold:=i }) g={ aa s g with hold:=i }:=by rw [fT hg,if_pos rfl]
  have go:aa (Sx.ah s g { aa s g with hold:=i }) o=aa s o:=by rw [fT hg,if_neg ck]
  rw [BZ (s:=Sx.ah s g { aa s g with hold:=i }) (i:=i) (by rw [l1];exact hg) (by rw [l1];exact q.o1) (by rw [gg]) q.g_ q.ch c0 c1 ck,gg,go,es];have ef:∀ y d x,Sx.ah (Sx.bh (Sx.ah (Sx.aH (Sx.ah s g { aa s g with hold:=i }) (ag s g).ch (bQ (cn (Sx.ah s g { aa s g with hold:=i }) (ag s g).ch) i)) o y) i d) g x=Sx.ah (Sx.bh (Sx.ah (Sx.aH s (ag s g).ch (bQ (cn s (ag s g).ch) i)) o y) i d) g x:=by
   intro y d x;unfold Sx.ah Sx.bh Sx.aH;simp only;rw [vr ck];rfl
  rw [ef];exact z.closed hn h hg (.inl e) q c0 c1 hq hh (.inl lu) (.inl e) rfl rfl rfl rfl rfl rfl rfl rfl rfl rfl rfl rfl
theorem Zt.j8 (z:Zt n s s) (hn:s.step=n) (h:MInv s) (hg:g < s.gs.length) (k:(ag s g).kind=6) (e:(aa s g).place=23):Zt n s (Sx.j8 s g):=by
 obtain ⟨o,q,c0,c1,hh,hq,lu⟩:=h.yA hg (.inr (.inl e));have ck:o≠g:=fun a=>by
  subst a;rcases q.q with w | w
  ·omega
  ·have:=w.2.2.2.2;omega
 unfold Sx.j8;simp only [q.g_,Int.toNat_natCast]
 cases hp:(aa s o).br with
 | true =>
  rw [if_pos rfl];exact z.drop.NL (e:=23) (p:=22) (by rw [NX];exact e) rfl (ea:=by rw [NX]) (ec:=by rw [NX]) (er:=by rw [NX]) (ep:=by rw [NX])
 | false =>
  rw [if_neg (by simp)];have l1:(Sx.ah s o { aa s o with br:=true }).gs.length=s.gs.length:=fB;have gg:aa (Sx.ah s o { aa s o with br:=true }) g=aa s g:=by rw [fT q.o1,if_neg (by omega)]
  have go:aa (Sx.ah s o { aa s o with br:=true }) o={ aa s o with br:=true }:=by rw [fT q.o1,if_pos rfl]
  have es:su (Sx.ah s o { aa s o with br:=true }) (aa s g).hold=su s (aa s g).hold:=rfl;rw [BZ (s:=Sx.ah s o { aa s o with br:=true }) (i:=(aa s g).hold) (by rw [l1];exact hg) (by rw [l1];exact q.o1) (by rw [gg]) q.g_ q.ch c0 c1 ck,gg,go,es];rw [kF _ _ _ _ (by simp only [Sx.bh,Sx.ah,Sx.aH,List.length_set];exact hg)];have ef:∀ y d x c,Sx.ah (Sx.bh (Sx.ah (Sx.aH (Sx.ah s o { aa s o with br:=true }) c (bQ (cn (Sx.ah s o { aa s o with br:=true }) c) (aa s g).hold)) o y) (aa s g).hold d) g x=Sx.ah (Sx.bh (Sx.ah (Sx.aH s c (bQ (cn s c) (aa s g).hold)) o y) (aa s g).hold d) g x:=by
   intro y d x c;unfold Sx.ah Sx.bh Sx.aH;simp only [List.set_set];rfl
  rw [ef];exact z.closed hn h hg (.inr e) q c0 c1 hq hh (.inr ⟨lu,hp,rfl⟩) (.inl rfl) rfl rfl rfl rfl rfl rfl rfl rfl rfl rfl rfl rfl
theorem Zt.c9 (z:Zt n s s) (hn:s.step=n) (h:MInv s) (hg:g < s.gs.length):Zt n s (Sx.c9 s g).1:=by
 have NT:=NY h hg;unfold Sx.c9;dsimp only;refine .ite (fun _=>z) fun k=>.ite (fun _=>z.common h hg) fun _=>.ite (fun _=>z) fun hm=>.ite (fun e=>.ite (fun _=>z.pt hn e (NT (by omega))) fun _=>?_) fun _=>.ite (fun e=>.ite (fun hr=>z.ju hn h hg (by omega) e (.inl (qO (by omega)))) fun _=>.ite (fun hs=>z.ju hn h hg (by omega) e (.inr (qO (by omega)))) fun _=>z.go e) fun _=>.ite (fun e=>z.j8 hn h hg (by omega) e) fun _=>z
 exact (z.chan (c:=(ag s g).ch) (c':={ cn s (ag s g).ch with closed:=true })).pt hn e ((NT (by omega)).dI (fun _ h=>h) fun _ h=>h)
theorem Zt.next (z:Zt n s t) {e p:Int} (q:(aa t g).place=e) (c:NU e p∨p=e:=by first | (left;unfold NU early NH;omega) | (right;rfl)):Zt n s (Sx.next t g p):=by
 unfold Sx.next;dsimp only;refine .bN (fun _=>?_) fun _=>z.kp
 rcases c with c | c
 ·exact z.NL q rfl (c:=c)
 ·exact z.kp (y:={ aa t g with k:=0,place:=p }) (by show p=_;omega)
theorem Zt.eT (z:Zt n s t):Zt n s (Sx.eT t g):=by
 unfold Sx.eT;dsimp only;exact .bN (fun _=>z.kp) fun _=>z.kp
theorem Zt.lock (z:Zt n s s) {e p:Int} (q:(aa s g).place=e) (c:NU e p:=by unfold NU early NH;omega):Zt n s (Sx.lock s g p):=by
 unfold Sx.lock;dsimp only;refine .bN (fun _=>.bN (fun _=>?_) fun _=>?_) fun _=>z
 ·exact z.tryLock.NL (by rw [NN];exact q) rfl (c:=c) (ea:=by rw [NN]) (ec:=by rw [NN]) (er:=by rw [NN]) (ep:=by rw [NN])
 ·exact z.tryLock.kp (e0:=by rw [NN]) (ea:=by rw [NN]) (ec:=by rw [NN]) (er:=by rw [NN]) (ep:=by rw [NN]) (eo:=by rw [NN]) (ek:=by rw [NN];exact fun a=>a) (MT:=by rw [NN])
theorem Zt.dL (z:Zt n s t) (hn:t.step=n) (hg:g < t.gs.length) {r:Md.ak} {i:Int} (e:(aa t g).place=25) (hq:NI t g) (hr:r.code≠0):Zt n s (Sx.dL t g r i):=by
 rw [Cq hg];exact z.N1 (g:=g) (z.vE (by rw [e];unfold early;omega)) hq (by omega) (by show (30:Int)≠0;omega) (by show ¬ early 30;unfold early;omega) (fun a=>by have a:NH 30:=a;unfold NH at a;omega) (fun _ b=>by have b:(30:Int)=13∨(30:Int)=14∨(30:Int)=30∧r.code=0:=b;omega) hn
theorem Zt.iw (z:Zt n s s) (hn:s.step=n) (h:MInv s) (hg:g < s.gs.length) (k:(ag s g).kind=9) (e:(aa s g).place=25):Zt n s (Sx.iw s g (ag s g)):=by
 have NM:=NY h hg (by omega);have b:=h.ic hg k (by unfold cU;omega);obtain ⟨b1,b2,b3,b4,b5,b6⟩:=b.hand (by omega);have hk:(aI (aa s g)).kind=9:=k;unfold Sx.iw;dsimp only;have oY:(bT (ag s g) (aB (aa s g).order (aa s g).k)).ch=bJ (aa s g) (aB (aa s g).order (aa s g).k):=rfl;rw [← oY] at b4 b5 b6;generalize bT (ag s g) (aB (aa s g).order (aa s g).k)=kk at b4 b5 b6 ⊢;generalize aB (aa s g).order (aa s g).k=i;have hq:Zt n s (if kk.send=true then gB s g i kk else gZ s g i kk).1:=by
  refine .ite (fun _=>?_) fun _=>?_
  ·unfold gB;dsimp only;exact .ite (fun _=>z.dL hn hg e NM (by simp)) fun _=>.ite (fun hr=>(z.taken hn h hg (.inr e) (.inr rfl) (.inr rfl) b5 b6 (.inl (qO (by omega)))).1.eT) fun _=>.ite (fun _=>(z.chan (c:=kk.ch) (c':={ cn s kk.ch with buf:=_ })).dL hn hg e (NM.dI (fun _ h=>h) fun _ h=>h) (by simp)) fun _=>z
  ·unfold gZ;dsimp only;exact .ite (fun hr=>(z.taken hn h hg (.inr e) (.inr rfl) (.inr rfl) b5 b6 (.inr (qO (by omega)))).1.eT) fun _=>.ite (fun _=>(z.chan (c:=kk.ch) (c':={ cn s kk.ch with buf:=_ })).dL hn hg e (NM.dI (fun _ h=>h) fun _ h=>h) (by simp [dA])) fun _=>.ite (fun _=>z.dL hn hg e NM (by simp [dA])) fun _=>z
 generalize (if kk.send=true then gB s g i kk else gZ s g i kk)=r at hq ⊢;refine .bN (fun _=>hq) fun _=>.bN (fun _=>z.next e (.inr rfl)) fun _=>.bN (fun _=>z.dL hn hg e NM (by simp)) fun _=>?_
 exact (z.kp (g:=g) (y:={ aa s g with aq:=List.replicate (ag s g).cases.length (-1) })).next (e:=25) (by rw [fT hg,if_pos rfl];exact e)
theorem Zt.iy (z:Zt n s s) (hg:g < s.gs.length) (e:(aa s g).place=27) {o:Pn.Op}:Zt n s (Sx.iy s g o):=by
 unfold Sx.iy;dsimp only;have key:∀ m:ai × Md.ak,Zt n s m.1→(aa m.1 g).place=27→g < m.1.gs.length→m.2.code≠0→Zt n s (Sx.unlock (Sx.ah (Sx.serve m.1 g (aa s g).hold true) g { aa (Sx.serve m.1 g (aa s g).hold true) g with res:=m.2 }) g 30):=fun m hm hp hl hr=>by
  have l2:g < (Sx.serve m.1 g (aa s g).hold true).gs.length:=by rw [hm.serve.gl];exact hg
  rw [vD l2];have p2:(aa (Sx.serve m.1 g (aa s g).hold true) g).place=27:=by rw [Of];exact hp
  exact hm.serve.put (g:=g) (by show (30:Int)≠0;omega) (by omega) (fun a=>by have a:(30:Int)=2∨(30:Int)=3:=a;omega) rfl rfl rfl rfl (fun a=>by have a:early 30:=a;unfold early at a;omega) (fun a=>by have a:NH 30:=a;unfold NH at a;omega) (fun _ b=>by have b:(30:Int)=13∨(30:Int)=14∨(30:Int)=30∧m.2.code=0:=b;omega)
 refine key _ ?_ ?_ ?_ ?_
 ·split
  ·exact z.drop.Ob
  ·exact z.drop.hand
 ·split
  ·show (aa (Sx.bE s _) g).place=27;rw [NX];exact e
  ·rw [Oz,NX];exact e
 ·split
  ·show g < (Sx.bE s _).gs.length;unfold Sx.bE;split <;> exact hg
  ·rw [z.drop.hand.gl];exact hg
 ·split <;> simp [dA]
theorem Zt.aL (z:Zt n s s) (h:MInv s) (hg:g < s.gs.length) (e:(aa s g).place=28) {o:Pn.Op}:Zt n s (Sx.aL s g o):=by
 unfold Sx.aL;dsimp only;have ls:g < (Sx.bw s g).1.gs.length:=by rw [z.bw.gl];exact hg
 refine .bN (fun ok=>?_) fun _=>?_
 ·have z2:=fun d=>z.bw.Oe (i:=(Sx.bw s g).2.1) (d:=d) (Ox h hg ok)
  have eg:∀ d,aa (Sx.bh (Sx.bw s g).1 (Sx.bw s g).2.1 d) g=aa s g:=fun d=>by rw [Ie,NV]
  refine Zt.next (e:=28) ((z2 _).kp (e0:=by rw [eg]) (ea:=by rw [eg]) (ec:=by rw [eg]) (er:=by rw [eg]) (ep:=by rw [eg]) (eo:=by rw [eg]) (ek:=by rw [eg];exact fun a=>a) (MT:=by rw [eg])) ?_;rw [fT (show g < (Sx.bh (Sx.bw s g).1 (Sx.bw s g).2.1 _).gs.length from ls),if_pos rfl];exact e
 ·rw [vD ls];refine z.bw.put (g:=g) (by show (30:Int)≠0;omega) (by rw [NV];omega) (fun a=>by have a:(30:Int)=2∨(30:Int)=3:=a;omega) (by rw [NV]) (by rw [NV]) (by rw [NV]) (by rw [NV]) (fun a=>by have a:early 30:=a;unfold early at a;omega) (fun a=>by have a:NH 30:=a;unfold NH at a;omega) (fun _ b=>by have b:(30:Int)=13∨(30:Int)=14∨(30:Int)=30∧(6:Int)=0:=b;omega)
theorem Zt.ja (z:Zt n s s) (hn:s.step=n) (h:MInv s) (hg:g < s.gs.length) (k:(ag s g).kind=9) (e:(aa s g).place=29):Zt n s (Sx.ja s g (ag s g)):=by
 have b:=h.ic hg k (by unfold cU;omega);obtain ⟨b1,b2,b3,b4,b5,b6⟩:=b.hand (by omega);have kx:SE (aa s g):=k;have gS:=b.s2 (by omega);have v0:=b.s6 (by omega) _ b1;have vm:aB (aa s g).aq (aB (aa s g).order (aa s g).k)∈(aa s g).aq:=kJ.2 ⟨_,b2,by omega,rfl⟩;have ho:Own (aa s g) (aB (aa s g).aq (aB (aa s g).order (aa s g).k)):=⟨v0,.inr ⟨kx,by omega,vm⟩⟩
 have OA:=(Inv.own h.v (g:Int) (by omega) (by omega) _ (by rw [dR];exact ho)).2.2.1;have p0:=(z.lo g).er (by rw [e];unfold early;omega);unfold Sx.ja;dsimp only;generalize (bT (ag s g) (aB (aa s g).order (aa s g).k))=kk;generalize hv:aB (aa s g).aq (aB (aa s g).order (aa s g).k)=v at OA;have z2:Zt n s (Sx.aH s kk.ch (if kk.send=true then { cn s kk.ch with send:=(cn s kk.ch).send ++ [v] } else { cn s kk.ch with recv:=(cn s kk.ch).recv ++ [v] })):=by
  refine z.push (i:=v) ?_ ?_ fun _=>by rw [OA];exact p0
  ·split
   ·exact fun j hj=>.inl hj
   ·exact fun j hj=>by simpa using hj
  ·split
   ·exact fun j hj=>by simpa using hj
   ·exact fun j hj=>.inl hj
 refine .bN (fun _=>z2.next e (.inr rfl)) fun _=>?_
 rw [vD (by exact hg)];exact z2.arr (e:=29) e hn
theorem Zt.cI (z:Zt n s s):Zt n s (Sx.cI s g).1:=z.free.kp
theorem Zt.iz (z:Zt n s s) (h:MInv s) (hg:g < s.gs.length) (k:(ag s g).kind=9) (e:(aa s g).place=34):Zt n s (Sx.iz s g):=by
 have b:=h.ic hg k (by unfold cU;omega);obtain ⟨b1,b2,b3,b4,b5,b6⟩:=b.hand (by omega);have kx:SE (aa s g):=k;have gS:=b.s2 (by omega);have hz:Zt n s (if 0≤aB (aa s g).aq (aB (aa s g).order (aa s g).k) then Sx.cL s g (aB (aa s g).aq (aB (aa s g).order (aa s g).k)) else s):=by
  refine .bN (fun v0=>?_) fun _=>z
  have vm:aB (aa s g).aq (aB (aa s g).order (aa s g).k)∈(aa s g).aq:=kJ.2 ⟨_,b2,by omega,rfl⟩;exact z.cL h hg ⟨v0,.inr ⟨kx,by omega,vm⟩⟩ fun j=>mX kx (by omega) _ j
 have eg:aa (if 0≤aB (aa s g).aq (aB (aa s g).order (aa s g).k) then Sx.cL s g (aB (aa s g).aq (aB (aa s g).order (aa s g).k)) else s) g=aa s g:=by split;exact Oq;rfl
 unfold Sx.iz;dsimp only;generalize (if 0≤aB (aa s g).aq (aB (aa s g).order (aa s g).k) then Sx.cL s g (aB (aa s g).aq (aB (aa s g).order (aa s g).k)) else s)=t at hz eg ⊢;have lt:g < t.gs.length:=by rw [hz.gl];exact hg
 have z3:∀ l:List Int,Zt n s (Sx.ah t g { aa s g with aq:=l }):=fun l=>hz.kp (e0:=by rw [eg]) (ea:=by rw [eg]) (ec:=by rw [eg]) (er:=by rw [eg]) (ep:=by rw [eg]) (eo:=by rw [eg]) (ek:=by rw [eg];exact fun a=>a) (MT:=by rw [eg])
 have e3:∀ l:List Int,(aa (Sx.ah t g { aa s g with aq:=l }) g).place=34:=fun l=>by rw [fT lt,if_pos rfl];exact e
 refine .bN (fun _=>?_) fun _=>(z3 _).next (e3 _) (.inr rfl)
 refine Zt.an (e:=34) ((z3 []).next (e3 _) (.inr rfl)) ?_ (by omega);unfold Sx.next;dsimp only
 split
 ·rw [fT (by rw [fB];exact lt),if_pos rfl]
 ·rw [fT (by rw [fB];exact lt),if_pos rfl];exact e3 []
theorem Zt.bn (z:Zt n s s) (hn:s.step=n) (h:MInv s) (hg:g < s.gs.length):Zt n s (Sx.bn s g).1:=by
 have ef:(aa (Sx.cI s g).1 g).place=(aa s g).place:=by rw [I3 hg]
 unfold Sx.bn;dsimp only;refine .ite (fun _=>z) fun k=>?_
 have k:(ag s g).kind=9:=by omega
 refine .ite (fun e=>z.lock e) fun _=>.ite (fun e=>z.iw hn h hg k e) fun _=>.ite (fun e=>(z.cR hn h hg (.inr ⟨e,rfl⟩) (.inr rfl)).1.eT) fun _=>.ite (fun e=>z.iy hg e) fun _=>.ite (fun e=>z.aL h hg e) fun _=>.ite (fun e=>z.ja hn h hg k e) fun _=>.ite (fun e=>.ite (fun _=>z.cI) fun _=>.ite (fun ec=>?_) fun _=>.ite (fun _=>z.cI.go (e:=30) (by rw [ef];exact e)) fun _=>z.cI.an (e:=30) (by rw [ef];exact e) (by omega)) fun _=>.ite (fun e=>?_) fun _=>.ite (fun e=>z.lock e) fun _=>.ite (fun e=>?_) fun _=>.ite (fun e=>.ite (fun _=>z.cI) fun _=>z.cI.go (e:=33) (by rw [ef];exact e)) fun _=>.ite (fun e=>z.iz h hg k e) fun _=>.ite (fun _=>z.common h hg) fun _=>z
 ·have er:aa (Sx.cI s g).1 g={ aa s g with k:=(aa s g).k - 1 }:=I3 hg;exact z.cI.put (g:=g) (y:={ aa (Sx.cI s g).1 g with place:=13 }) (by simp) (by rw [ef];omega) (by simp) rfl rfl rfl rfl (fun a=>by unfold early at a;simp at a) (fun a=>by unfold NH at a;simp at a) (fun a b c=>by rw [er] at c ⊢;exact (z.lo g).se k (.inr (.inr ⟨e,ec⟩)) c)
 ·unfold Sx.jP;dsimp only;exact z.NL (e:=14) (p:=31) e rfl
 ·unfold Sx.jb;dsimp only;refine .bN (fun _=>z.drop.next (e:=32) (by rw [NX];exact e) (.inr rfl)) fun _=>?_
  exact z.drop.NL (e:=32) (p:=33) (by rw [NX];exact e) rfl
end
end Sx
namespace Sx
section
variable {n:Int} {s t:ai} {g:Nat}
structure NZ (n:Int) (s t:ai) (g:Nat):Prop where
 gl:t.gs.length=s.gs.length
 lo:∀ h,TL n (aa t h)
 nq:∀ h,(aa t h).bS≠0→NI t h
 ot:∀ h,h≠g→NS n (aa s h) (aa t h)
 me:t.done=s.done∧NS n (aa s g) (aa t g)∨t.done=s.done∧(aa s g).call=0∧(aa t g).call=n∨t.done=s.done ++ [mark s g n]∧g < s.gs.length∧(aa s g).place=18∧(aa t g).call=0
theorem Zt.N6 (z:Zt n s t):NZ n s t g:=⟨z.gl,z.lo,z.nq,fun h _=>z.ev h,.inl ⟨z.dn,z.ev g⟩⟩
def N7 (n:Int) (x y:Gr):Prop :=
 y.call=x.call∧y.fW=x.fW∧y.bS=x.bS∧y.place=x.place∧y.at_=x.at_ ∨
 y.call=n∧y.fW=0∧(y.bS=0∧(y.place=20∨y.place=4∨y.place=19∨y.place=1∨y.place=24)∨y.bS=n∧y.place=18)
theorem OT (h:MInv s) (hg:g < s.gs.length) (e:(aa s g).place=0):∃ d y,iB s g=ah { s with drawn:=d } g y∧N7 s.step (aa s g) y:=by
 have L:=h.loc hg;have key:∀ (d:Int) (y:Gr),N7 s.step (aa s g) y→∃ d' y',ah { s with drawn:=d } g y=ah { s with drawn:=d' } g y'∧N7 s.step (aa s g) y':=fun d y hy=>⟨d,y,rfl,hy⟩
 have N2:∀ y:Gr,N7 s.step (aa s g) y→∃ d' y',ah s g y=ah { s with drawn:=d' } g y'∧N7 s.step (aa s g) y':=fun y hy=>⟨s.drawn,y,rfl,hy⟩
 unfold iB;dsimp only
 split
 ·exact N2 _ (.inl ⟨rfl,rfl,rfl,rfl,rfl⟩)
 ·rename_i c;obtain ⟨x,hx⟩:∃ x,ah (clear s g) g { aa (clear s g) g with call:=(clear s g).step }=ah s g x∧x={ kO (aa s g) with call:=s.step }:=by
   refine ⟨_,?_,rfl⟩;unfold clear;rw [fT hg,if_pos rfl,kH];rfl
  rw [hx.1];have xc:x.call=s.step:=by rw [hx.2]
  have xa:x.fW=0:=by rw [hx.2];rfl
  have xq:x.bS=0:=by rw [hx.2];rfl
  have gx:aa (ah s g x) g=x:=by rw [fT hg,if_pos rfl]
  have gT:∀ p,aT (ah s g x) g p=ah s g { x with place:=p }:=fun p=>by unfold aT;rw [gx,kH]
  have pA:∀ r p,bG (ah s g x) g r p=ah s g { x with bS:=s.step,res:=r,place:=p }:=fun r p=>yI _ _ _ _ _ hg
  have nV:∀ (d:Int) (y:Gr),∃ z:Gr,never (ah { s with drawn:=d } g y) g=ah { s with drawn:=d } g z∧z.call=y.call∧z.fW=y.fW∧z.bS=y.bS∧z.place=19:=fun d y=>by
   have g1:aa (ah { s with drawn:=d } g y) g=y:=by rw [fT (s:={ s with drawn:=d }) hg,if_pos rfl]
   have g2:aa (ah { s with drawn:=d } g { y with place:=19 }) g={ y with place:=19 }:=by rw [fT (s:={ s with drawn:=d }) hg,if_pos rfl]
   unfold never aT fH;rw [g1];simp only [kH];rw [g2];refine ⟨_,rfl,?_⟩
   split
   ·exact ⟨rfl,rfl,rfl,rfl⟩
   ·split <;> exact ⟨rfl,rfl,rfl,rfl⟩
  have OU:∃ d' y',never (ah s g x) g=ah { s with drawn:=d' } g y'∧N7 s.step (aa s g) y':=by
   obtain ⟨z,z1,z2,z3,z4,z5⟩:=nV s.drawn x;rw [show ah s g x=ah { s with drawn:=s.drawn } g x from rfl,z1];exact key _ _ (.inr ⟨z2.trans xc,z3.trans xa,.inl ⟨z4.trans xq,by omega⟩⟩)
  split
  ·rw [gT];exact N2 _ (.inr ⟨xc,xa,.inl ⟨xq,.inl rfl⟩⟩)
  split
  ·split
   ·rw [gT];exact N2 _ (.inr ⟨xc,xa,.inl ⟨xq,.inr (.inl rfl)⟩⟩)
   ·exact OU
  split
  ·split
   ·rw [gT];exact N2 _ (.inr ⟨xc,xa,.inl ⟨xq,.inr (.inr (.inr (.inl rfl)))⟩⟩)
   ·rw [pA];exact N2 _ (.inr ⟨xc,xa,.inr ⟨rfl,rfl⟩⟩)
  split
  ·split
   ·rw [gT];exact N2 _ (.inr ⟨xc,xa,.inl ⟨xq,.inr (.inl rfl)⟩⟩)
   ·rw [pA];exact N2 _ (.inr ⟨xc,xa,.inr ⟨rfl,rfl⟩⟩)
  ·have w1:∀ (d:Int) (y:Gr),ah { ah s g x with drawn:=d } g y=ah { s with drawn:=d } g y:=fun d y=>by unfold ah;simp only [List.set_set]
   obtain ⟨S,hS⟩:∃ S,ah s g x=S:=⟨_,rfl⟩
   rw [hS] at gx w1 ⊢;unfold iA;dsimp only;rw [gx,w1]
   split
   ·exact key _ _ (.inr ⟨xc,xa,.inl ⟨xq,.inr (.inr (.inr (.inr rfl)))⟩⟩)
   ·split
    ·rw [yI _ _ _ _ _ (by exact hg)];exact key _ _ (.inr ⟨xc,xa,.inr ⟨rfl,rfl⟩⟩)
    ·obtain ⟨z,z1,z2,z3,z4,z5⟩:=nV (drawn S (ag S g).cases.length).2 { x with order:=x.order ++ (dx (drawn S (ag S g).cases.length).1 (ag S g).cases.length).filter (fun i=>aR S (bT (ag S g) i).ch),aE:=aE (((dx (drawn S (ag S g).cases.length).1 (ag S g).cases.length).filter (fun i=>aR S (bT (ag S g) i).ch)).map (fun i=>(bT (ag S g) i).ch)),place:=24 };rw [z1];exact key _ _ (.inr ⟨z2.trans xc,z3.trans xa,.inl ⟨z4.trans xq,by omega⟩⟩)
theorem OV (z:Zt n s s) (hn:s.step=n) (n1:1≤n) (h:MInv s) (hg:g < s.gs.length) (e:(aa s g).place=0):NZ n s (iB s g) g:=by
 obtain ⟨d,y,e1,e2⟩:=OT h hg e;have l:=z.lo g;have c0:=l.c0.2 e;have hd:Zt n s { s with drawn:=d }:=z.same;rw [e1];have NM:NI { s with drawn:=d } g:=(NY h hg (by omega)).of rfl rfl;have ly:TL n y:=by
  rcases e2 with ⟨a1,a2,a3,a4,a5⟩ | ⟨a1,a2,a3⟩
  ·exact ⟨by omega,by have:=l.c1;omega,by have:=l.a1;omega,by have:=l.p1;omega,fun a=>by unfold early at a;omega,fun a=>by unfold NH at a;omega,fun _ b=>by omega⟩
  ·refine ⟨by omega,by omega,by omega,by omega,fun a=>?_,fun _=>a2,fun _ b=>by omega⟩;rcases a3 with a3 | a3
   ·exact a3.1
   ·unfold early at a;omega
 refine ⟨by rw [← hd.gl];exact fB,fun k=>?_,fun k hp=>?_,fun k hk=>?_,?_⟩
 ·rcases NQ { s with drawn:=d } g k y with a | ⟨_,a⟩
  ·rw [a];exact hd.lo k
  ·rw [a];exact ly
 ·rcases NQ { s with drawn:=d } g k y with a | ⟨rfl,a⟩
  ·rw [a] at hp;exact (hd.nq k hp).of rfl rfl
  ·exact NM.of rfl rfl
 ·rcases NQ { s with drawn:=d } g k y with a | ⟨a,_⟩
  ·rw [a];exact hd.ev k
  ·exact absurd a hk
 ·have eg:aa (ah { s with drawn:=d } g y) g=y:=by rw [fT (s:={ s with drawn:=d }) hg,if_pos rfl]
  rcases e2 with ⟨a1,a2,a3,a4,a5⟩ | ⟨a1,a2,a3⟩
  ·refine .inl ⟨rfl,?_⟩;rw [eg];exact ⟨a5,a1,.inl a2,.inr (by unfold NJ;rw [a4,a3])⟩
  ·exact .inr (.inl ⟨rfl,c0,by rw [eg,a1,hn]⟩)
theorem NI.makes (h:NI t g) {m:Int}:NI { t with aK:=t.aK ++ [⟨m,[],false,-1,[],[]⟩] } g:=fun c i c0 c1 hi hc=>by
 have OW:c≤t.aK.length + 1:=by simpa using c1
 by_cases hl:c≤t.aK.length
 ·refine h c i c0 hl ?_ hc;unfold cn at hi ⊢;simp only [List.getD_eq_getElem?_getD] at hi ⊢;rw [List.getElem?_append_left (by omega)] at hi;exact hi
 ·exfalso
  have e:(c - 1).toNat=t.aK.length:=by omega
  unfold cn at hi;simp only [List.getD_eq_getElem?_getD] at hi;rw [e,List.getElem?_append_right (Nat.le_refl _),Nat.sub_self] at hi;simp at hi
theorem Zt.iC (z:Zt n s s) (hn:s.step=n) (h:MInv s) (hg:g < s.gs.length) (e:(aa s g).place=20):Zt n s (Sx.iC s g):=by
 have NM:=NY h hg (by omega);unfold Sx.iC;dsimp only;refine .bN (fun _=>z.pt hn e NM) fun _=>.bN (fun _=>?_) fun _=>.bN (fun _=>z.pt hn e NM) fun _=>.bN (fun _=>z.pt hn e NM) fun _=>z.pt hn e NM
 exact (z.of (u:={ s with aK:=s.aK ++ [⟨(ag s g).n,[],false,-1,[],[]⟩] }) rfl rfl fun _ w=>w.makes).pt hn e NM.makes
theorem OX (z:Zt n s s) (hn:s.step=n) (h:MInv s) (hg:g < s.gs.length) (e:(aa s g).place=18):NZ n s (Sx.answer s g) g:=by
 have l:=z.lo g;have n0:=z.n0;obtain ⟨y,e1,e2⟩:∃ y,Sx.answer s g=ah { s with done:=s.done ++ [mark s g s.step] } g y∧y.call=0∧y.place=0∧y.fW=0∧y.bS=0:=by
  unfold Sx.answer;dsimp only;refine ⟨kO { aa s g with at_:=(aa s g).at_ + 1,place:=0 },?_,rfl,rfl,rfl,rfl⟩;unfold clear;have e3:aa { s with done:=s.done ++ [mark s g s.step] } g=aa s g:=rfl;rw [e3,fT (s:={ s with done:=s.done ++ [mark s g s.step] }) hg,if_pos rfl,kH]
 rw [e1];have ly:TL n y:=⟨by omega,by omega,by omega,by omega,fun _=>e2.2.2.2,fun _=>e2.2.2.1,fun _ _ _=>e2.2.2.2⟩
 refine ⟨fB,fun k=>?_,fun k hp=>?_,fun k hk=>?_,.inr (.inr ⟨by rw [hn];rfl,hg,e,?_⟩)⟩
 ·rcases NQ { s with done:=s.done ++ [mark s g s.step] } g k y with a | ⟨_,a⟩
  ·rw [a];exact z.lo k
  ·rw [a];exact ly
 ·rcases NQ { s with done:=s.done ++ [mark s g s.step] } g k y with a | ⟨rfl,a⟩
  ·rw [a] at hp;exact (z.nq k hp).of rfl rfl
  ·rw [a] at hp;exact absurd e2.2.2.2 hp
 ·rcases NQ { s with done:=s.done ++ [mark s g s.step] } g k y with a | ⟨a,_⟩
  ·rw [a];exact z.ev k
  ·exact absurd a hk
 ·rw [fT (s:={ s with done:=s.done ++ [mark s g s.step] }) hg,if_pos rfl];exact e2.1
theorem TL.mono {x:Gr} (h:TL n x) {m:Int} (e:n≤m):TL m x:=⟨h.c0,by have:=h.c1;omega,by have:=h.a1;omega,by have:=h.p1;omega,h.er,h.fo,h.se⟩
theorem OY (h:MInv s) (lo:∀ k,TL s.step (aa s k)) (nq:∀ k,(aa s k).bS≠0→NI s k) (s0:0≤s.step) (p:Int):(one s p).1=s∨(one s p).1.step=s.step + 1∧∃ g,NZ (s.step + 1) s (one s p).1 g:=by
 unfold one
 by_cases c:p < 0∨(s.gs.length:Int)≤p∨(aa s p.toNat).status≠0
 ·rw [if_pos c];exact .inl rfl
 rw [if_neg c];dsimp only;have hg:p.toNat < s.gs.length:=by omega
 have h1:=h.tick;have z:Zt (s.step + 1) { s with step:=s.step + 1 } { s with step:=s.step + 1 }:=⟨rfl,rfl,by omega,fun k=>.refl _ _,fun k=>(lo k).mono (by omega),fun k hp=>(nq k hp).of rfl rfl⟩
 have p1:SP (s.step + 1) { s with step:=s.step + 1 }:=rfl;have back:∀ {t:ai},NZ (s.step + 1) { s with step:=s.step + 1 } t p.toNat→∃ g,NZ (s.step + 1) s t g:=fun {t} w=>⟨p.toNat,w.gl,w.lo,w.nq,w.ot,w.me⟩
 split
 ·refine .inr ⟨p1.gC,back ?_⟩;unfold gC;dsimp only
  split
  ·rename_i e;exact OV z rfl (by omega) h1 hg e
  ·split
   ·rename_i e;exact (z.iC rfl h1 hg e).N6
   ·split
    ·rename_i e;exact OX z rfl h1 hg e
    ·exact z.N6
 split
 ·exact .inr ⟨p1.bH,back (z.bH rfl h1 hg).N6⟩
 split
 ·exact .inr ⟨p1.bF,back (z.bF rfl h1 hg).N6⟩
 split
 ·exact .inr ⟨p1.c9,back (z.c9 rfl h1 hg).N6⟩
 split
 ·exact .inr ⟨p1.bn,back (z.bn rfl h1 hg).N6⟩
 ·exact .inl rfl
end
end Sx
namespace Ta
open Sx (NZ TL NI NJ aa NS)
section
variable {s t:Sx.ai} {n k:Int}
theorem N3 (s:Sx.ai) (h:Nat):tm s h={ Sx.mark s h 0 with bS:=NJ (aa s h) }:=by
 unfold tm NJ
 by_cases c:(aa s h).place=2∨(aa s h).place=3
 ·rw [if_pos c,if_pos (by simpa using c)]
 ·rw [if_neg c,if_neg (by simpa using c)];rfl
theorem OB {m:Sx.Mk} {h:Nat}:m∈now s h↔(aa s h).call≠0∧m=tm s h:=by
 unfold now
 by_cases c:(aa s h).call=0
 ·rw [if_pos (by simpa using c)];simp [c]
 ·rw [if_neg (by simpa using c)];simp [c]
theorem Og {m:Sx.Mk}:∀ {k:Nat},m∈gD s k↔m∈s.done∨∃ h,h < k∧(aa s h).call≠0∧m=tm s h
 | 0=>by simp [gD]
 | k + 1=>by
  rw [gD,List.mem_append,Og,OB]
  constructor
  ·rintro ((a | ⟨h,a,b⟩) | b)
   ·exact .inl a
   ·exact .inr ⟨h,by omega,b⟩
   ·exact .inr ⟨k,by omega,b⟩
  ·rintro (a | ⟨h,a,b⟩)
   ·exact .inl (.inl a)
   ·by_cases e:h=k
    ·subst e;exact .inr b
    ·exact .inl (.inr ⟨h,by omega,b⟩)
theorem NK {m:Sx.Mk}:m∈told s↔m∈s.done∨∃ h,h < s.gs.length∧(aa s h).call≠0∧m=tm s h:=Og
structure TR (s:Sx.ai):Prop where
 lo:∀ h,TL s.step (aa s h)
 nq:∀ h,(aa s h).bS≠0→NI s h
 s0:0≤s.step
 dn:∀ m∈s.done,1≤m.call∧m.call≤s.step∧1≤m.re∧m.re≤s.step∧m.fW≤s.step∧m.bS≤s.step
 d1:s.done.Pairwise fun a b=>a.call≠b.call
 d2:∀ m∈s.done,∀ h,(aa s h).call≠m.call
 d3:∀ h j,h≠j→(aa s h).call=(aa s j).call→(aa s h).call=0
structure NR (n:Int) (m m':Sx.Mk):Prop where
 g:m'.g=m.g
 op:m'.op=m.op
 call:m'.call=m.call
 re:m'.re=m.re∨m.re=0∧m'.re=n
 rs:m.re≠0→m'=m
 arr:m'.fW=m.fW∨m.fW=0∧m'.fW=n
 pt:m.bS=0∨m'.bS=m.bS
theorem NR.refl (n:Int) (m:Sx.Mk):NR n m m:=⟨rfl,rfl,rfl,.inl rfl,fun _=>rfl,.inl rfl,.inr rfl⟩
theorem NR.tm {h:Nat} (e:NS n (aa s h) (aa t h)):NR n (tm s h) (tm t h):=by
 rw [N3,N3];exact ⟨rfl,e.at_,e.call,.inl rfl,fun a=>absurd rfl a,e.arr,e.vi⟩
theorem TR.step (R:TR s) {g:Nat} (S:NZ (s.step + 1) s t g) (e:t.step=s.step + 1) :
  TR t∧(∀ m'∈told t,m'.call=s.step + 1∨∃ m∈told s,NR (s.step + 1) m m')∧(∀ m∈told s,∃ m'∈told t,NR (s.step + 1) m m'):=by
 have s0:=R.s0;have up:∀ m∈s.done,1≤m.call∧m.call≤t.step∧1≤m.re∧m.re≤t.step∧m.fW≤t.step∧m.bS≤t.step:=fun m hm=>by have:=R.dn m hm;omega
 have NO:∀ h,h≠g→(aa t h).call=(aa s h).call:=fun h hh=>(S.ot h hh).call
 have old:∀ h,(aa s h).call≤s.step∧0≤(aa s h).call:=fun h=>by have:=(R.lo h).c1;omega
 have lo:∀ h,TL t.step (aa t h):=fun h=>by rw [e];exact S.lo h
 rcases S.me with ⟨dn,ev⟩ | ⟨dn,c0,c1⟩ | ⟨dn,hg,pl,c0⟩
 ·have ca:∀ h,(aa t h).call=(aa s h).call:=fun h=>by
   by_cases hh:h=g
   ·subst hh;exact ev.call
   ·exact NO h hh
  have ea:∀ h,NS (s.step + 1) (aa s h) (aa t h):=fun h=>by
   by_cases hh:h=g
   ·subst hh;exact ev
   ·exact S.ot h hh
  refine ⟨⟨lo,S.nq,by omega,by rw [dn];exact up,by rw [dn];exact R.d1,fun m hm h=>by rw [dn] at hm;rw [ca];exact R.d2 m hm h,fun h j hh he=>by rw [ca,ca] at he;rw [ca];exact R.d3 h j hh he⟩,fun m' hm=>.inr ?_,fun m hm=>?_⟩
  ·rcases NK.1 hm with a | ⟨h,a,b,rfl⟩
   ·rw [dn] at a;exact ⟨m',NK.2 (.inl a),.refl _ _⟩
   ·rw [ca] at b;exact ⟨tm s h,NK.2 (.inr ⟨h,by rw [← S.gl];exact a,b,rfl⟩),NR.tm (ea h)⟩
  ·rcases NK.1 hm with a | ⟨h,a,b,rfl⟩
   ·exact ⟨m,NK.2 (.inl (by rw [dn];exact a)),.refl _ _⟩
   ·exact ⟨tm t h,NK.2 (.inr ⟨h,by rw [S.gl];exact a,by rw [ca];exact b,rfl⟩),NR.tm (ea h)⟩
 ·refine ⟨⟨lo,S.nq,by omega,by rw [dn];exact up,by rw [dn];exact R.d1,fun m hm h=>?_,fun h j hh he=>?_⟩,fun m' hm=>?_,fun m hm=>?_⟩
  ·rw [dn] at hm
   by_cases hh:h=g
   ·subst hh;rw [c1];have:=R.dn m hm;omega
   ·rw [NO h hh];exact R.d2 m hm h
  ·by_cases h1:h=g
   ·subst h1;rw [c1,NO j (fun a=>hh a.symm)] at he;have:=old j;omega
   ·by_cases h2:j=g
    ·subst h2;rw [c1,NO h h1] at he;have:=old h;omega
    ·rw [NO h h1,NO j h2] at he;rw [NO h h1];exact R.d3 h j hh he
  ·rcases NK.1 hm with a | ⟨h,a,b,rfl⟩
   ·rw [dn] at a;exact .inr ⟨m',NK.2 (.inl a),.refl _ _⟩
   ·by_cases hh:h=g
    ·subst hh;left;rw [N3];exact c1
    ·rw [NO h hh] at b;exact .inr ⟨tm s h,NK.2 (.inr ⟨h,by rw [← S.gl];exact a,b,rfl⟩),NR.tm (S.ot h hh)⟩
  ·rcases NK.1 hm with a | ⟨h,a,b,rfl⟩
   ·exact ⟨m,NK.2 (.inl (by rw [dn];exact a)),.refl _ _⟩
   ·have hh:h≠g:=fun q=>by subst q;exact b c0
    exact ⟨tm t h,NK.2 (.inr ⟨h,by rw [S.gl];exact a,by rw [NO h hh];exact b,rfl⟩),NR.tm (S.ot h hh)⟩
 ·have lg:=R.lo g;have cg:(aa s g).call≠0:=fun a=>by have:=lg.c0.1 a;omega
  have vg:NJ (aa s g)=(aa s g).bS:=by unfold NJ;rw [if_neg (by omega)]
  have OC:NR (s.step + 1) (tm s g) (Sx.mark s g (s.step + 1)):=by
   rw [N3];exact ⟨rfl,rfl,rfl,.inr ⟨rfl,rfl⟩,fun a=>absurd rfl a,.inl rfl,.inr vg.symm⟩
  refine ⟨⟨lo,S.nq,by omega,fun m hm=>?_,?_,fun m hm h=>?_,fun h j hh he=>?_⟩,fun m' hm=>?_,fun m hm=>?_⟩
  ·rw [dn] at hm;rcases List.mem_append.1 hm with hm | hm
   ·exact up m hm
   ·rw [List.mem_singleton.1 hm,e];have a1:=lg.c1;have a2:=lg.a1;have a3:=lg.p1
    show 1≤(aa s g).call∧(aa s g).call≤_∧1≤s.step + 1∧s.step + 1≤s.step + 1∧(aa s g).fW≤_∧(aa s g).bS≤_;omega
  ·rw [dn,List.pairwise_append];exact ⟨R.d1,List.pairwise_singleton _ _,fun a ha b hb=>by rw [List.mem_singleton.1 hb];exact fun q=>R.d2 a ha g q.symm⟩
  ·rw [dn] at hm;have h1:1≤m.call:=by
    rcases List.mem_append.1 hm with hm | hm
    ·exact (R.dn m hm).1
    ·rw [List.mem_singleton.1 hm];have:=lg.c1;show 1≤(aa s g).call;omega
   by_cases hh:h=g
   ·subst hh;rw [c0];omega
   ·rw [NO h hh];rcases List.mem_append.1 hm with hm | hm
    ·exact R.d2 m hm h
    ·rw [List.mem_singleton.1 hm];intro q;have:=R.d3 h g hh q;have q':(aa s h).call=(aa s g).call:=q;exact cg (by rw [← q'];exact this)
  ·by_cases h1:h=g
   ·subst h1;exact c0
   ·by_cases h2:j=g
    ·subst h2;rw [he];exact c0
    ·rw [NO h h1,NO j h2] at he;rw [NO h h1];exact R.d3 h j hh he
  ·right
   rcases NK.1 hm with a | ⟨h,a,b,rfl⟩
   ·rw [dn] at a;rcases List.mem_append.1 a with a | a
    ·exact ⟨m',NK.2 (.inl a),.refl _ _⟩
    ·rw [List.mem_singleton.1 a];exact ⟨tm s g,NK.2 (.inr ⟨g,hg,cg,rfl⟩),OC⟩
   ·have hh:h≠g:=fun q=>by subst q;exact b c0
    rw [NO h hh] at b;exact ⟨tm s h,NK.2 (.inr ⟨h,by rw [← S.gl];exact a,b,rfl⟩),NR.tm (S.ot h hh)⟩
  ·rcases NK.1 hm with a | ⟨h,a,b,rfl⟩
   ·exact ⟨m,NK.2 (.inl (by rw [dn];exact List.mem_append_left _ a)),.refl _ _⟩
   ·by_cases hh:h=g
    ·subst hh;exact ⟨Sx.mark s h (s.step + 1),NK.2 (.inl (by rw [dn];exact List.mem_append_right _ (List.mem_singleton.2 rfl))),OC⟩
    ·exact ⟨tm t h,NK.2 (.inr ⟨h,by rw [S.gl];exact a,by rw [NO h hh];exact b,rfl⟩),NR.tm (S.ot h hh)⟩
structure N0 (k:Int) (m m0:Sx.Mk):Prop where
 g:m.g=m0.g
 op:m.op=m0.op
 call:m.call=m0.call
 re:(if m.re > k then 0 else m.re)=m0.re
 rs:m0.re≠0→m=m0
 arr:(if m.fW > k then 0 else m.fW)=m0.fW
 pt:m0.bS≠0→m.bS=m0.bS
theorem N0.ev {m m' m0:Sx.Mk} (h:N0 k m m0) (e:NR n m m') (k0:0≤k) (hn:k < n):N0 k m' m0:=by
 refine ⟨e.g.trans h.g,e.op.trans h.op,e.call.trans h.call,?_,fun a=>?_,?_,fun a=>?_⟩
 ·have h1:=h.re;rcases e.re with a | ⟨a,b⟩
  ·rw [a];exact h1
  ·rw [a,av] at h1;rw [b,if_pos (by omega)];exact h1
 ·have h1:=h.rs a;subst h1;exact e.rs a
 ·have h1:=h.arr;rcases e.arr with a | ⟨a,b⟩
  ·rw [a];exact h1
  ·rw [a,av] at h1;rw [b,if_pos (by omega)];exact h1
 ·have h1:=h.pt a;rcases e.pt with b | b
  ·rw [h1] at b;exact absurd b a
  ·rw [b];exact h1
theorem TR.bound (R:TR s) {m:Sx.Mk} (hm:m∈told s):1≤m.call∧m.call≤s.step∧m.re≤s.step∧m.fW≤s.step∧m.bS≤s.step:=by
 have s0:=R.s0;rcases NK.1 hm with a | ⟨h,a,b,rfl⟩
 ·have:=R.dn m a;omega
 ·have l:=R.lo h;have a1:=l.c1;have a2:=l.a1;have a3:=l.p1;rw [N3]
  show 1≤(aa s h).call∧(aa s h).call≤s.step∧(0:Int)≤s.step∧(aa s h).fW≤s.step∧NJ (aa s h)≤s.step;unfold NJ
  split <;> omega
def N4 (s t:Sx.ai):Prop:=(∀ m∈told t,m.call≤s.step→∃ m0∈told s,N0 s.step m m0)∧∀ m0∈told s,∃ m∈told t,N0 s.step m m0
theorem N4.refl (R:TR s):N4 s s:=by
 have h:∀ m∈told s,N0 s.step m m:=fun m hm=>by
  have:=R.bound hm;exact ⟨rfl,rfl,rfl,by rw [if_neg (by omega)],fun _=>rfl,by rw [if_neg (by omega)],fun _=>rfl⟩
 exact ⟨fun m hm _=>⟨m,hm,h m hm⟩,fun m hm=>⟨m,hm,h m hm⟩⟩
theorem Oh {s0:Sx.ai} (R0:TR s0):∀ (l:List Int) (s:Sx.ai),Sx.MInv s→TR s→s0.step≤s.step→N4 s0 s→TR (Sx.runs s l).1∧N4 s0 (Sx.runs s l).1
 | [],s,_,R,_,F=>⟨R,F⟩
 | p :: r,s,h,R,hle,F=>by
  unfold Sx.runs
  split
  ·exact ⟨R,F⟩
  ·refine Oh R0 r _ (h.one _) ?_ ?_ ?_
   all_goals
    rcases Sx.OY h R.lo R.nq R.s0 (Sx.pick s p) with e | ⟨e,g,S⟩
   ·rw [e];exact R
   ·exact (R.step S e).1
   ·rw [e];exact hle
   ·rw [e];omega
   ·rw [e];exact F
   ·obtain ⟨_,S1,S2⟩:=R.step S e;refine ⟨fun m' hm hc=>?_,fun m0 hm=>?_⟩
    ·rcases S1 m' hm with a | ⟨m,bY,ev⟩
     ·omega
     ·obtain ⟨m0,q1,q2⟩:=F.1 m bY (by rw [← ev.call];exact hc);exact ⟨m0,q1,q2.ev ev R0.s0 (by omega)⟩
    ·obtain ⟨m,q1,q2⟩:=F.2 m0 hm;obtain ⟨m',q3,q4⟩:=S2 m q1;exact ⟨m',q3,q2.ev q4 R0.s0 (by omega)⟩
theorem TR.start {p:List (List Pn.Op)} {a c:Int} {d:List Int}:TR (Sx.start p a c d):=by
 have hg:∀ h,∃ l,aa (Sx.start p a c d) h=Sx.clean l 0:=fun h=>by
  unfold Sx.aa Sx.start;rw [List.getD_eq_getElem?_getD,List.getElem?_map]
  cases p[h]? with
  | none=>exact ⟨_,rfl⟩
  | some l=>exact ⟨l,rfl⟩
 refine ⟨fun h=>?_,fun h hp=>?_,Int.le_refl _,fun m hm=>(by cases hm),List.Pairwise.nil,fun m hm=>(by cases hm),fun h j _ _=>?_⟩
 ·obtain ⟨l,e⟩:=hg h;rw [e];exact TL.clean (Int.le_refl _)
 ·obtain ⟨l,e⟩:=hg h;rw [e] at hp;exact absurd rfl hp
 ·obtain ⟨l,e⟩:=hg h;rw [e];rfl
end
end Ta
namespace Ss
section
variable {α:Type} {key:α→Int}
theorem OD (x:α):∀ l:List α,(ins key l x).Perm (x :: l)
 | []=>List.Perm.refl _
 | y :: ys=>by
  rw [ins]
  split
  ·exact List.Perm.refl _
  ·exact ((OD x ys).cons y).trans (List.Perm.swap x y ys)
theorem OE (l:List α):(bg key l).Perm l:=by
 refine xB (p:=fun l=>(bg key l).Perm l) (List.Perm.refl _) (fun l x ih=>?_) l;rw [nJ];exact (OD x _).trans (((ih.cons x)).trans (List.perm_append_comm (l₁:=[x]) (l₂:=l)))
end
end Ss
namespace Ta
open Sx (aa)
section
variable {s t:Sx.ai} {k:Int}
theorem OF (R:TR s):∀ j,(gD s j).Pairwise fun a b=>a.call≠b.call
 | 0=>R.d1
 | j + 1=>by
  rw [gD,List.pairwise_append];refine ⟨OF R j,?_,fun a ha b hb=>?_⟩
  ·unfold now;split
   ·exact List.Pairwise.nil
   ·exact List.pairwise_singleton _ _
  ·obtain ⟨c,rfl⟩:=OB.1 hb;have eb:(tm s j).call=(aa s j).call:=by rw [N3];rfl
   rw [eb];rcases Og.1 ha with q | ⟨h,q1,q2,rfl⟩
   ·exact fun e=>R.d2 a q j e.symm
   ·have ea:(tm s h).call=(aa s h).call:=by rw [N3];rfl
    rw [ea];exact fun e=>q2 (R.d3 h j (by omega) e)
def Lt (l:List Sx.Mk):Prop:=l.Pairwise fun a b=>a.call < b.call
theorem OG (R:TR s):Lt (marks s):=by
 have h1:(marks s).Pairwise fun a b=>a.call≤b.call:=Ss.jd (key:=fun m:Sx.Mk=>m.call) (told s)
 have h2:(marks s).Pairwise fun a b=>a.call≠b.call:=((Ss.OE (key:=fun m:Sx.Mk=>m.call) (told s)).pairwise_iff (fun {x y} h=>Ne.symm h)).2 (OF R s.gs.length)
 exact List.Pairwise.imp₂ (fun a b h1 h2=>by omega) h1 h2
theorem Od {m:Sx.Mk}:m∈marks s↔m∈told s:=(Ss.OE (key:=fun m:Sx.Mk=>m.call) (told s)).mem_iff
theorem Oi {m x:Sx.Mk} (h:x∈up k m):x=md (decide (m.re > k)) (decide (m.fW > k)) (decide (m.bS > k)) m∧m.call≤k:=by
 unfold up at h
 split at h
 ·cases h
 ·rename_i c;exact ⟨List.mem_singleton.1 h,by simpa using c⟩
theorem OZ {l:List Sx.Mk} (h:Lt l):Lt (l.flatMap (up k)):=by
 unfold Lt;rw [List.pairwise_flatMap];refine ⟨fun m _=>?_,h.imp fun {a b} O0 x hx y hy=>?_⟩
 ·unfold up;split
  ·exact List.Pairwise.nil
  ·exact List.pairwise_singleton _ _
 ·rw [(Oi hx).1,(Oi hy).1];exact O0
theorem matched {R:Sx.Mk→Sx.Mk→Prop}:∀ (A B:List Sx.Mk),Lt A→Lt B→(∀ x∈A,∃ y∈B,y.call=x.call∧R x y)→(∀ y∈B,∃ x∈A,x.call=y.call)→A.length=B.length∧∀ (i:Nat) x y,A[i]?=some x→B[i]?=some y→R x y
 | [],[],_,_,_,_=>⟨rfl,fun i x y h _=>by simp at h⟩
 | [],b :: B,_,_,_,h=>by obtain ⟨x,hx,_⟩:=h b (by simp);cases hx
 | a :: A,[],_,_,h,_=>by obtain ⟨x,hx,_⟩:=h a (by simp);cases hx
 | a :: A,b :: B,hA,hB,h1,h2=>by
  unfold Lt at hA hB;rw [List.pairwise_cons] at hA hB;obtain ⟨y,hy,ey,ry⟩:=h1 a (by simp);obtain ⟨x,hx,ex⟩:=h2 b (by simp);have lx:a.call≤x.call:=by
   rcases List.mem_cons.1 hx with rfl | hx
   ·exact Int.le_refl _
   ·exact Int.le_of_lt (hA.1 x hx)
  have O1:y=b:=by
   rcases List.mem_cons.1 hy with e | hy
   ·exact e
   ·have:=hB.1 y hy;omega
  subst O1;obtain ⟨q1,q2⟩:=matched A B hA.2 hB.2 (fun x hx=>by
   obtain ⟨z,hz,ez,rz⟩:=h1 x (by simp [hx]);rcases List.mem_cons.1 hz with rfl | hz
   ·have:=hA.1 x hx;omega
   ·exact ⟨z,hz,ez,rz⟩) (fun z hz=>by
   obtain ⟨x,hx,ex⟩:=h2 z (by simp [hz]);rcases List.mem_cons.1 hx with rfl | hx
   ·have:=hB.1 z hz;omega
   ·exact ⟨x,hx,ex⟩)
  refine ⟨by simp [q1],fun i x z h3 h4=>?_⟩
  cases i with
  | zero =>
   simp only [List.getElem?_cons_zero,Option.some.injEq] at h3 h4;rw [← h3,← h4];exact ry
  | succ i =>
   simp only [List.getElem?_cons_succ] at h3 h4;exact q2 i x z h3 h4
structure OH (x y:Sx.Mk):Prop where
 g:x.g=y.g
 op:x.op=y.op
 call:x.call=y.call
 re:x.re=y.re
 arr:x.fW=y.fW
 rs:x.re≠0→x=y
 pt:y.bS≠0→x.bS=y.bS
theorem N0.fin (R:TR s) {m m0:Sx.Mk} (h0:m0∈told s) (h:N0 s.step m m0):OH (md (decide (m.re > s.step)) (decide (m.fW > s.step)) (decide (m.bS > s.step)) m) m0:=by
 have b:=R.bound h0;have e1:(md (decide (m.re > s.step)) (decide (m.fW > s.step)) (decide (m.bS > s.step)) m).re=m0.re:=by
  rw [← h.re];unfold md;simp only [decide_eq_true_eq]
 refine ⟨h.g,h.op,h.call,e1,?_,fun a=>?_,fun a=>?_⟩
 ·rw [← h.arr];unfold md;simp only [decide_eq_true_eq]
 ·rw [e1] at a;have e:=h.rs a;subst e;unfold md;rw [decide_eq_false (by omega),decide_eq_false (by omega),decide_eq_false (by omega)];rfl
 ·have e:=h.pt a;rw [← e];unfold md;rw [decide_eq_false (by omega:¬ m.bS > s.step)];rfl
theorem O2 (R:TR s) (Rt:TR t) (F:N4 s t):((marks t).flatMap (up s.step)).length=(marks s).length∧∀ (i:Nat) x y,((marks t).flatMap (up s.step))[i]?=some x→(marks s)[i]?=some y→OH x y:=by
 refine matched _ _ (OZ (OG Rt)) (OG R) (fun x hx=>?_) fun y hy=>?_
 ·obtain ⟨m,hm,hx⟩:=List.mem_flatMap.1 hx;obtain ⟨rfl,hc⟩:=Oi hx;obtain ⟨m0,h0,r⟩:=F.1 m (Od.1 hm) hc;exact ⟨m0,Od.2 h0,r.call.symm,r.fin R h0⟩
 ·have h0:=Od.1 hy;obtain ⟨m,hm,r⟩:=F.2 y h0;have b:=R.bound h0;have hc:m.call≤s.step:=by have:=r.call;omega
  refine ⟨md (decide (m.re > s.step)) (decide (m.fW > s.step)) (decide (m.bS > s.step)) m,List.mem_flatMap.2 ⟨m,Od.2 hm,?_⟩,r.call⟩;unfold up;rw [if_neg (by simpa using hc)];simp
end
end Ta
namespace Sx
theorem Oj {s:ai}:∀ l:List Int,(∀ p,pick s p < 0)→(runs s l).1=s
 | [],_=>rfl
 | p :: r,h=>by unfold runs;rw [if_pos (h p)]
theorem OI:∀ (l m:List Int) (s:ai),(runs s (l ++ m)).1=(runs (runs s l).1 m).1
 | [],m,s=>rfl
 | p :: l,m,s=>by
  by_cases h:pick s p < 0
  ·have hn:∀ q,pick s q < 0:=by
    have hr:(running s).length=0:=by
     by_cases e:(running s).length=0
     ·exact e
     ·exfalso
      unfold pick at h;rw [if_neg e] at h;have b1:0≤p % ((running s).length:Int):=Int.emod_nonneg _ (by omega);have b2:p % ((running s).length:Int) < (running s).length:=Int.emod_lt_of_pos _ (by omega);have hm:=nF b1 b2;unfold running at hm;obtain ⟨g,_,e2⟩:=List.mem_map.1 hm;rw [show (List.map Int.ofNat (List.filter (fun g=>decide ((aa s g).status=0)) (List.range s.gs.length)))=running s from rfl] at e2;rw [← e2] at h;have:(0:Int)≤Int.ofNat g:=Int.natCast_nonneg g;omega
    intro q;unfold pick;rw [if_pos hr];omega
   have e1:(runs s ((p :: l) ++ m)).1=s:=Oj _ hn;have e2:(runs s (p :: l)).1=s:=Oj _ hn;rw [e1,e2,Oj m hn]
  ·rw [List.cons_append]
   conv=>lhs;unfold runs
   conv=>rhs;rw [show (runs s (p :: l)).1=(runs (one s (pick s p)).1 l).1 from by conv=>lhs;unfold runs;rw [if_neg h]]
   rw [if_neg h];exact OI l m _
end Sx
open Go.RowKit
namespace Fl
open Sx Go.Proofs.Tryz
set_option maxRecDepth 100000
section
variable {s:ai} {g:Nat}
end
theorem O3 {F:FuncId} {a:tU} {l:List Int} {n:Int} (h:Pure prog F [.agg (vN a.p a.sn a.cn a.d),.c (ints l),.c (nI n)] (.c (bI true))) {w:World} {cs:Array Value} {U:List Nat} {v:Value} {S:List Nat} (he:qU w cs.toList a U) (hl:GV (jH .i64) 1 w v l S):Calls prog F #[.agg cs,v,.int .i64 n] w fun e w'=>e=.returned (.bool true)∧aP [] w w' :=
 Hv h (xs:=[.agg cs,v,.int .i64 n]) (bU.cons (by unfold RD;exact ⟨cs.toList,by simp,J7 he fun _ _=>trivial⟩) (bU.cons (by unfold RD;exact J5.ra hl fun _ _=>trivial) (bU.cons (RD.v rfl) bU.nil)))
end Fl
open Go.RowKit
namespace Fl
open Sx Go.Proofs.Tryz
def NP (b i:Nat) (o:Oper):Bool :=
 (o.dst == some (b + i)) && (match o.op with | .select ..=>false | _=>true) && (o.after.toList.all fun e=>!Region.binds .any e || decide (e.on < i)) &&
 (o.op.operands.toList.all fun | .tmp t=>decide (t < b) || o.after.toList.any (fun e=>Region.binds .any e && (b + e.on == t)) | _=>true) &&
 (match o.guard with | some (g,_)=>o.after.toList.any (fun e=>Region.binds .any e && (e.on == g)) | none=>true)
def NW (b:Nat):Nat→List Oper→Bool
 | _,[]=>true
 | i,o :: l=>NP b i o && NW b (i + 1) l
theorem NW.at {b:Nat}:∀ {l:List Oper} {i:Nat},NW b i l=true→∀ {j:Nat} {o:Oper},l[j]?=some o→NP b (i + j) o=true
 | [],_,_,_,_,h=>by simp at h
 | x :: l,i,h,j,o,hj=>by
  unfold NW at h;rw [Bool.and_eq_true] at h
  cases j with
  | zero=>simp at hj;subst hj;exact h.1
  | succ j =>
   have:=NW.at h.2 (j:=j) (o:=o) (by simpa using hj);rw [show i + (j + 1)=i + 1 + j by omega];exact this
section
variable {ops:Array Oper} {b i:Nat} {aQ:Array Bool}
theorem NP.dst {o:Oper} (h:NP b i o=true):o.dst=some (b + i):=by
 unfold NP at h;simp only [Bool.and_eq_true] at h;simpa using h.1.1.1.1
theorem NP.looks (H:NW b 0 ops.toList=true) {o:Oper} (hi:ops[i]?=some o) {t:Nat} (ht:t∈o.looksAt ops) :
  t < b∨∃ e∈o.after,Region.binds .any e=true∧e.on < i∧b + e.on=t:=by
 have h:=NW.at H (j:=i) (o:=o) (by simpa using hi);rw [Nat.zero_add] at h;unfold NP at h;simp only [Bool.and_eq_true] at h;obtain ⟨⟨⟨⟨_,_⟩,h3⟩,h4⟩,h5⟩:=h;have lt:∀ e∈o.after.toList,Region.binds .any e=true→e.on < i:=fun e he hb=>by
  have:=List.all_eq_true.1 h3 e he;simpa [hb] using this
 unfold Oper.looksAt at ht;rw [List.mem_append] at ht;rcases ht with ht | ht
 ·obtain ⟨x,hx,Ok⟩:=List.mem_filterMap.1 ht;have hq:=List.all_eq_true.1 h4 x hx
  cases x with
  | tmp u =>
   simp only [Option.some.injEq] at Ok;subst Ok;simp only [Bool.or_eq_true,decide_eq_true_iff] at hq;rcases hq with hq | hq
   ·exact .inl hq
   ·obtain ⟨e,he,hb⟩:=List.any_eq_true.1 hq;simp only [Bool.and_eq_true,beq_iff_eq] at hb;exact .inr ⟨e,by simpa using he,hb.1,lt e he hb.1,hb.2⟩
  | _=>simp at Ok
 ·cases hg:o.guard with
  | none=>rw [hg] at ht;simp at ht
  | some p =>
   obtain ⟨g,w⟩:=p;rw [hg] at ht h5;simp only at ht h5;obtain ⟨e,he,hb⟩:=List.any_eq_true.1 h5;simp only [Bool.and_eq_true,beq_iff_eq] at hb
   cases Ol:ops[g]? with
   | none=>rw [Ol] at ht;simp at ht
   | some og =>
    have:=NP.dst (NW.at H (j:=g) (o:=og) (by simpa using Ol));rw [Ol] at ht;simp [this] at ht;exact .inr ⟨e,by simpa using he,hb.1,lt e he hb.1,by omega⟩
theorem OJ (H:NW b 0 ops.toList=true) (hl:∀ j,j < ops.size→aQ[j]?=some (decide (j < i))) (hi:i < ops.size):rT .any ops none aQ i=true:=by
 have gd:∀ j (x:Bool),j < ops.size→aQ.getD j x=decide (j < i):=fun j x hj=>by rw [Array.getD_eq_getD_getElem?,hl j hj];rfl
 have at_:∀ j,j < ops.size→∃ o,ops[j]?=some o:=fun j hj=>⟨_,Array.getElem?_eq_getElem hj⟩
 have ok:∀ j o,ops[j]?=some o→NP b j o=true:=fun j o ho=>by
  have:=NW.at H (j:=j) (o:=o) (by simpa using ho)
  rwa [Nat.zero_add] at this
 unfold rT;simp only [Bool.and_eq_true];refine ⟨⟨⟨?_,?_⟩,?_⟩,rfl⟩
 ·unfold Region.noSelect;rw [Array.all_eq_true_iff_forall_mem];intro o ho;obtain ⟨j,hj⟩:=Array.getElem?_of_mem ho;have:=ok j o hj;unfold NP at this;simp only [Bool.and_eq_true] at this;exact this.1.1.1.2
 ·obtain ⟨oi,N8⟩:=at_ i hi;unfold Region.free;rw [N8];simp only;rw [List.all_eq_true];intro j hj;have hj:=List.mem_range.1 hj;obtain ⟨oj,j5⟩:=at_ j hj;rw [j5,gd j true hj]
  by_cases h1:j≤i
  ·rcases Nat.lt_or_eq_of_le h1 with h | h
   ·simp [h]
   ·simp [h]
  ·simp only [Bool.or_eq_true]
   by_cases h2:∃ e∈oj.after,Region.binds .any e=true∧e.on=i
   ·obtain ⟨e,he,hb,ho⟩:=h2;refine .inr (.inl (Array.any_eq_true'.2 ⟨e,he,by simp [hb,ho]⟩))
   ·refine .inr (.inr ?_);have d1:=NP.dst (ok i oi N8);have d2:=NP.dst (ok j oj j5);unfold Oper.apart;simp only [d1,d2,Bool.and_eq_true,Bool.not_eq_true',bne_iff_ne,ne_eq,Option.some.injEq];refine ⟨⟨?_,by omega⟩,?_⟩
    ·rw [← Bool.not_eq_true,List.contains_iff_mem];intro hm;rcases NP.looks H j5 hm with h | ⟨e,he,hb,_,ho⟩
     ·omega
     ·exact h2 ⟨e,he,hb,by omega⟩
    ·rw [← Bool.not_eq_true,List.contains_iff_mem];intro hm;rcases NP.looks H N8 hm with h | ⟨e,he,hb,gq,ho⟩ <;> omega
 ·rw [List.contains_iff_mem];refine List.mem_filter.2 ⟨List.mem_range.2 hi,?_⟩;obtain ⟨oi,N8⟩:=at_ i hi;rw [N8,gd i true hi];have:=ok i oi N8;unfold NP at this;simp only [Bool.and_eq_true] at this;have h3:=this.1.1.2;simp only [Nat.lt_irrefl,decide_false,Bool.not_false,Bool.true_and,Option.map_some,Option.getD_some];rw [Array.all_eq_true_iff_forall_mem];intro e he;have:=List.all_eq_true.1 h3 e (by simpa using he);simp only [Bool.or_eq_true,decide_eq_true_iff] at this ⊢;rcases this with h | h
  ·exact .inl h
  ·refine .inr ?_;rw [gd e.on false (by omega)];exact decide_eq_true h
end
section
variable (P:Program) (c:Cx)
structure NG (b:Nat) (ops:Array Oper) (i:Nat) (l:List Oper) (k:List Item) (f:Fm) (L:List ak):Prop where
 go:NW b 0 ops.toList=true→∀ aQ:Array Bool,aQ.size=ops.size→(∀ j,j < ops.size→aQ[j]?=some (decide (j < i)))→ops.toList.drop i=l→JD P c ops none [] l.length aQ k f L f L
end
section
variable {P:Program} {c:Cx} {k:List Item} {f:Fm} {L:List ak} {ops:Array Oper} {l:List Oper} {o:Oper} {b i t:Nat}
theorem J.look {id:Nat} (b:Nat) (hm:P.follows .mixedOrders=true) (hb:NW b 0 l=true) (h:NG P c b l.toArray 0 l k f L):J P c (.code (.region id l.toArray true) :: k) f L :=
 J.draw hm rfl (JW.base none (h.go (by simpa using hb) _ (by simp) (fun j hj=>by simp at hj;simp [hj]) rfl))
theorem OK {aQ:Array Bool} (hs:aQ.size=ops.size) (hl:∀ j,j < ops.size→aQ[j]?=some (decide (j < i))):∀ j,j < ops.size→(aQ.setIfInBounds i true)[j]?=some (decide (j < i + 1)):=fun j hj=>by
 rw [Array.getElem?_setIfInBounds]
 by_cases h:i=j
 ·subst h;simp [hs,hj]
 ·rw [if_neg h,hl j hj]
  congr 1
  exact decide_eq_decide.2 (by omega)
theorem drop_cons (h:ops.toList.drop i=o :: l):ops[i]?=some o∧ops.toList.drop (i + 1)=l∧i < ops.size:=by
 have h1:ops.toList[i]?=some o:=by rw [← List.head?_drop,h];rfl
 refine ⟨by simpa using h1,?_,?_⟩
 ·rw [← List.tail_drop,h];rfl
 ·have:=(List.getElem?_eq_some_iff.1 h1).1;simpa using this
theorem NG.q {d:D} {U:List Nat} (hd:o.dst=some t) (hw:dD ops o f=true) (ht:t < c.N) (q:Qt P c U o f L d) (h:NG P c b ops (i + 1) l k ((t,d) :: f) L):NG P c b ops i (o :: l) k f L:=⟨fun H aQ hs hl jY=>by
 obtain ⟨h1,h2,h3⟩:=drop_cons jY;exact JD.take i h1 hd (OJ H hl h3) hw ht q (by simp) (h.go H _ (by simpa using hs) (OK hs hl) h2)⟩
theorem NG.no (hd:o.dst=some t) (hw:oH ops o f=true) (ht:t < c.N) (h:NG P c b ops (i + 1) l k ((t,.aU []) :: f) L):NG P c b ops i (o :: l) k f L:=⟨fun H aQ hs hl jY=>by
 obtain ⟨h1,h2,h3⟩:=drop_cons jY;exact JD.skip i h1 hd (OJ H hl h3) hw ht (h.go H _ (by simpa using hs) (OK hs hl) h2)⟩
theorem NG.nil (h:J P c k f L):NG P c b ops i [] k f L:=⟨fun H aQ hs hl jY=>by
 refine JD.done ?_ h;unfold Region.ready;rw [List.filter_eq_nil_iff];intro j hj;have hj:=List.mem_range.1 hj;have:ops.toList.length≤i:=List.drop_eq_nil_iff.1 jY;have hi:j < i:=by simp at this;omega
 rw [Array.getD_eq_getD_getElem?,hl j hj];simp [hi]⟩
end
end Fl
open Go.RowKit
namespace Ta
theorem OL {s:Sx.ai} (h:Sx.MInv s):s.done.length≤128:=by
 have e:=h.dn;have:=Fl.Dy h;omega
end Ta
namespace Fl
open Sx Go.Proofs.Tryz
set_option maxRecDepth 100000
set_option maxHeartbeats 4000000
theorem O4 (s:ai) (hb:s.gs.length≤1000):Pure prog 12 [.agg (aC s)] (.c (ints (Sx.running s))):=by
 have C:=LH s (by omega);refine aA.intro func12 rfl rfl rfl (fun ok e=>?_)
 repeat (first | refine au ?_ | intro _)
 exact az func12
theorem O5 {p:List (List Pn.Op)} {sn cn:Int} {d l:List Int} {s:ai} (hd:∀ x∈d,0≤x∧x < 65536) (h:iU p sn cn d l=(s,true)) (c:Nat) :
  ∃ t,iU p sn cn d (l.take c)=(t,true)∧s=(Sx.runs t (l.drop c)).1∧∃ s0,Ta.TR s0∧Sx.MInv s0∧t=(Sx.runs s0 (l.take c)).1:=by
 unfold iU at h
 split at h
 ·cases h
 ·rename_i c1
  split at h
  ·rename_i c2;refine ⟨(Sx.runs (Sx.new p sn cn d).1 (l.take c)).1,?_,?_,(Sx.new p sn cn d).1,?_,?_,rfl⟩
   ·unfold iU;rw [if_neg (by rw [List.length_take];omega),if_pos c2]
   ·rw [← OI,List.take_append_drop];exact (congrArg Prod.fst h).symm
   ·unfold Sx.new at c2 ⊢
    split at c2
    ·cases c2
    ·split at c2
     ·cases c2
     ·rename_i r1 r2;rw [if_neg r1,if_neg r2];exact Ta.TR.start
   ·unfold Sx.new at c2 ⊢
    split at c2
    ·cases c2
    ·split at c2
     ·cases c2
     ·rename_i r1 r2;rw [if_neg r1,if_neg r2];exact (Sx.Good.start (by simpa using r1) (by simpa using r2) hd (by omega)).toMInv
  ·cases h
theorem O6 (p:List (List Pn.Op)) (sn cn:Int) (d l:List Int) (cut:Int) (hd:∀ x∈d,0≤x∧x < 65536) :
  Pure prog 4 [.agg (vN p sn cn d),.c (ints l),.c (nI cut)] (.c (bI true)):=by
 have CA:=Hu;have CR:=LO p sn cn d l hd;have Om:=LO p sn cn d (l.take cut.toNat) hd;have HG:=LN (p:=p) (sn:=sn) (cn:=cn) (l:=l) hd;have On:=LN (p:=p) (sn:=sn) (cn:=cn) (l:=l.take cut.toNat) hd;have HT:=fun s=>O5 (p:=p) (sn:=sn) (cn:=cn) (d:=d) (l:=l) (s:=s) hd
 generalize iU p sn cn d l=r at CR HG HT;obtain ⟨s,o⟩:=r;refine aA.intro func4 rfl rfl rfl (fun ok e=>?_)
 cases o with
 | false =>
  repeat (first | (refine K.store ?_;refine JO.ld (Ld.bu rfl rfl rfl (by exact rfl) (by exact rfl)) rfl (fun _=>?_)) | refine ke (CA) ?_ | refine aO (CR) ?_ | refine au ?_ | intro _)
  exact az func4
 | true =>
 cases c1:decide (cut < 0) with
 | true =>
  repeat (first | (refine K.store ?_;refine JO.ld (Ld.bu rfl rfl rfl (by exact rfl) (by exact rfl)) rfl (fun _=>?_)) | refine aM c1 ?_ | refine ke (CA) ?_ | refine aO (CR) ?_ | refine au ?_ | intro _)
  exact az func4
 | false =>
 cases c2:decide (cut > (l.length:Int)) with
 | true =>
  repeat (first | (refine K.store ?_;refine JO.ld (Ld.bu rfl rfl rfl (by exact rfl) (by exact rfl)) rfl (fun _=>?_)) | refine aM c1 ?_ | refine aM c2 ?_ | refine ke (CA) ?_ | refine aO (CR) ?_ | refine au ?_ | intro _)
  exact az func4
 | false =>
 have OW:=of_decide_eq_false c1;have Pb:=of_decide_eq_false c2;obtain ⟨t,ht,hs,s0,R0,M0,OM⟩:=HT s rfl cut.toNat;rw [ht] at Om On;have G:Sx.Good s:=HG rfl;have G2:Sx.Good t:=On rfl;have F1:=Ta.Oh R0 (l.take cut.toNat) s0 M0 R0 (Int.le_refl _) (Ta.N4.refl R0);rw [← OM] at F1;have F2:=Ta.Oh F1.1 (l.drop cut.toNat) t G2.toMInv F1.1 (Int.le_refl _) (Ta.N4.refl F1.1);rw [← hs] at F2;have TS:=Ta.O2 F1.1 F2.1 F2.2;have g8:=G.n8;have O7:=G2.n8;have dn:=Ta.OL G.toMInv;have Pc:=Ta.OL G2.toMInv;have ln:=Ta.qu s s.gs.length;have sD:=Ta.qu t t.gs.length;have lm:(Ta.marks s).length≤400:=by unfold Ta.marks Ta.told;rw [Ss.fL];omega
 have O8:(Ta.marks t).length≤400:=by unfold Ta.marks Ta.told;rw [Ss.fL];omega
 have C1:=FQ s (by omega) g8;have C2:=FQ t (by omega) O7;have C5:=ON (Ta.marks s) t.step lm;have CU:=O4 t (by omega);have lr:(Sx.running t).length≤t.gs.length:=by
  unfold Sx.running;rw [List.length_map];exact Nat.le_trans (List.length_filter_le _ _) (by simp)
 clear HG On HT ht hs R0 M0 OM F1 F2 ln sD;generalize Ta.marks s=ms at C1 C5 TS lm;generalize hA:ms.flatMap (Ta.up t.step)=La at C5 TS;generalize Ta.marks t=Lb at C2 TS O8;obtain ⟨e1,e2⟩:=TS;have h1:((l.map fun n=>[nI n]).take cut.toNat).drop (0:Int).toNat=(l.take cut.toNat).map fun n=>[nI n]:=by rw [List.map_take];rfl
 have l0:(l.map fun n=>[nI n]).length=l.length:=List.length_map ..;have t3:((La.length:Int) != (Lb.length:Int))=false:=by rw [e1];simp
 have t4:decide (((Sx.running t).length:Int)≤(t.gs.length:Int))=true:=decide_eq_true (by omega)
 repeat (first | (refine K.store ?_;refine JO.ld (Ld.bu rfl rfl rfl (by exact rfl) (by exact rfl)) rfl (fun _=>?_)) | refine aM c1 ?_ | refine aM c2 ?_ | refine ke (CA) ?_ | refine aO (CR) ?_ | refine au ?_ | intro _)
 rename_i b3 b7 _;refine J.join (ι:=Nat) (fun b9=>[(9,.c (.v (pt b9))),(7,.c (.v (pt b7)))]) (fun b9=>[.box b9 36 (aC t),.box b7 36 (aC s),.box b3 27 (vN p sn cn d)]) (fun b9=>?rest1) (fun rest1=>?_)
 case rest1 =>
  repeat ((refine J.seq ?_))
  refine J.join (ι:=Unit) (fun _=>[(12,.c (.r 13 (Lb.map eM))),(11,.c (.r 13 (La.map eM))),(9,.c (.v (pt b9)))]) (fun _=>[.box b9 36 (aC t),.box b7 36 (aC s),.box b3 27 (vN p sn cn d)]) (fun _=>?AM) (fun AM=>?_)
  case AM =>
   repeat (first | refine aM t3 ?_ | refine gn ?_)
   refine J.loop (ι:={ k:Nat // k≤La.length }) (fun q=>[(56,.c (nI q.1)),(55,.c (nI La.length)),(12,.c (.r 13 (Lb.map eM))),(11,.c (.r 13 (La.map eM))),(9,.c (.v (pt b9)))]) (fun _=>[.box b9 36 (aC t),.box b7 36 (aC s),.box b3 27 (vN p sn cn d)]) (fun q=>La.length - q.1) ⟨0,Nat.zero_le _⟩ (fun X h=>h.aF ⟨rfl,rfl,rfl,rfl,rfl,trivial⟩) (fun q ih=>?_);obtain ⟨k,kR⟩:=q;simp only at kR ih ⊢;have Pd:La.length≤400:=by omega
   by_cases hk:k < La.length
   ·have t1:decide ((k:Int) < (La.length:Int))=true:=decide_eq_true (by omega);obtain ⟨x,hx⟩:∃ m,La[k]?=some m:=⟨_,List.getElem?_eq_getElem hk⟩
    obtain ⟨y,hy⟩:∃ m,Lb[k]?=some m:=⟨_,List.getElem?_eq_getElem (by omega)⟩
    have AX:=cS (enc:=eM) hx;have AY:=cS (enc:=eM) hy;obtain ⟨f1,f2,f3,f4,f5,f6,f7⟩:=e2 k x y hx hy;have n1:(x.g != y.g)=false:=by rw [f1];simp
    have n2:(x.op != y.op)=false:=by rw [f2];simp
    have n3:(x.call != y.call)=false:=by rw [f3];simp
    have n4:(x.re != y.re)=false:=by rw [f4];simp
    have n5:(x.fW != y.fW)=false:=by rw [f5];simp
    have next:J prog _ _ _ _:=(ih ⟨k + 1,by omega⟩ (by simp only;omega))
    clear ih
    cases c6:(x.re != 0) <;> cases c7:(y.bS != 0)
    ·repeat (first | refine aM t1 ?_ | refine gn ?_)
     refine J.look 59 (by kernel_rfl) (by kernel_rfl) ?_;refine NG.q rfl rfl (qb rfl) (Qt.move rfl) ?_;refine NG.q rfl rfl (qb rfl) (Qt.move rfl) ?_;refine NG.q rfl rfl (qb rfl) (Qt.dj rfl rfl (by omega) AX) ?_;refine NG.q rfl rfl (qb rfl) (Qt.fieldAddr rfl rfl) ?_
     (refine NG.q rfl rfl (qb rfl) (Qt.pM rfl .el rfl) ?_)
     refine NG.q rfl rfl (qb rfl) (Qt.move rfl) ?_;refine NG.q rfl rfl (qb rfl) (Qt.move rfl) ?_;refine NG.q rfl rfl (qb rfl) (Qt.dj rfl rfl (by omega) AY) ?_;refine NG.q rfl rfl (qb rfl) (Qt.fieldAddr rfl rfl) ?_
     (refine NG.q rfl rfl (qb rfl) (Qt.pM rfl .el rfl) ?_)
     refine NG.q rfl rfl (qb rfl) (Qt.cmp rfl rfl (congrArg some n1)) ?_;refine NG.q rfl rfl (qb rfl) (Qt.move rfl) ?_
     (refine NG.q rfl rfl (qb rfl) (Qt.move rfl) ?_)
     (refine NG.q rfl rfl (qb rfl) (Qt.move rfl) ?_)
     (refine NG.q rfl rfl (qb rfl) (Qt.dj rfl rfl (by omega) AX) ?_)
     (refine NG.q rfl rfl (qb rfl) (Qt.fieldAddr rfl rfl) ?_)
     (refine NG.q rfl rfl (qb rfl) (Qt.pM rfl .el rfl) ?_)
     (refine NG.q rfl rfl (qb rfl) (Qt.move rfl) ?_)
     (refine NG.q rfl rfl (qb rfl) (Qt.move rfl) ?_)
     (refine NG.q rfl rfl (qb rfl) (Qt.dj rfl rfl (by omega) AY) ?_)
     (refine NG.q rfl rfl (qb rfl) (Qt.fieldAddr rfl rfl) ?_)
     (refine NG.q rfl rfl (qb rfl) (Qt.pM rfl .el rfl) ?_)
     (refine NG.q rfl rfl (qb rfl) (Qt.cmp rfl rfl (congrArg some n2)) ?_)
     refine NG.q rfl rfl (qb rfl) (Qt.pick rfl rfl) ?_;refine NG.q rfl rfl (qb rfl) (Qt.move rfl) ?_
     (refine NG.q rfl rfl (qb rfl) (Qt.move rfl) ?_)
     (refine NG.q rfl rfl (qb rfl) (Qt.move rfl) ?_)
     (refine NG.q rfl rfl (qb rfl) (Qt.dj rfl rfl (by omega) AX) ?_)
     (refine NG.q rfl rfl (qb rfl) (Qt.fieldAddr rfl rfl) ?_)
     (refine NG.q rfl rfl (qb rfl) (Qt.pM rfl .el rfl) ?_)
     (refine NG.q rfl rfl (qb rfl) (Qt.move rfl) ?_)
     (refine NG.q rfl rfl (qb rfl) (Qt.move rfl) ?_)
     (refine NG.q rfl rfl (qb rfl) (Qt.dj rfl rfl (by omega) AY) ?_)
     (refine NG.q rfl rfl (qb rfl) (Qt.fieldAddr rfl rfl) ?_)
     (refine NG.q rfl rfl (qb rfl) (Qt.pM rfl .el rfl) ?_)
     (refine NG.q rfl rfl (qb rfl) (Qt.cmp rfl rfl (congrArg some n3)) ?_)
     refine NG.q rfl rfl (qb rfl) (Qt.pick rfl rfl) ?_;refine NG.q rfl rfl (qb rfl) (Qt.move rfl) ?_
     (refine NG.q rfl rfl (qb rfl) (Qt.move rfl) ?_)
     (refine NG.q rfl rfl (qb rfl) (Qt.move rfl) ?_)
     (refine NG.q rfl rfl (qb rfl) (Qt.dj rfl rfl (by omega) AX) ?_)
     (refine NG.q rfl rfl (qb rfl) (Qt.fieldAddr rfl rfl) ?_)
     (refine NG.q rfl rfl (qb rfl) (Qt.pM rfl .el rfl) ?_)
     (refine NG.q rfl rfl (qb rfl) (Qt.move rfl) ?_)
     (refine NG.q rfl rfl (qb rfl) (Qt.move rfl) ?_)
     (refine NG.q rfl rfl (qb rfl) (Qt.dj rfl rfl (by omega) AY) ?_)
     (refine NG.q rfl rfl (qb rfl) (Qt.fieldAddr rfl rfl) ?_)
     (refine NG.q rfl rfl (qb rfl) (Qt.pM rfl .el rfl) ?_)
     (refine NG.q rfl rfl (qb rfl) (Qt.cmp rfl rfl (congrArg some n4)) ?_)
     refine NG.q rfl rfl (qb rfl) (Qt.pick rfl rfl) ?_;refine NG.q rfl rfl (qb rfl) (Qt.move rfl) ?_
     (refine NG.q rfl rfl (qb rfl) (Qt.move rfl) ?_)
     (refine NG.q rfl rfl (qb rfl) (Qt.move rfl) ?_)
     (refine NG.q rfl rfl (qb rfl) (Qt.dj rfl rfl (by omega) AX) ?_)
     (refine NG.q rfl rfl (qb rfl) (Qt.fieldAddr rfl rfl) ?_)
     (refine NG.q rfl rfl (qb rfl) (Qt.pM rfl .el rfl) ?_)
     (refine NG.q rfl rfl (qb rfl) (Qt.move rfl) ?_)
     (refine NG.q rfl rfl (qb rfl) (Qt.move rfl) ?_)
     (refine NG.q rfl rfl (qb rfl) (Qt.dj rfl rfl (by omega) AY) ?_)
     (refine NG.q rfl rfl (qb rfl) (Qt.fieldAddr rfl rfl) ?_)
     (refine NG.q rfl rfl (qb rfl) (Qt.pM rfl .el rfl) ?_)
     (refine NG.q rfl rfl (qb rfl) (Qt.cmp rfl rfl (congrArg some n5)) ?_)
     refine NG.q rfl rfl (qb rfl) (Qt.pick rfl rfl) ?_;refine NG.q rfl rfl (qb rfl) (Qt.move rfl) ?_
     (refine NG.q rfl rfl (qb rfl) (Qt.move rfl) ?_)
     (refine NG.q rfl rfl (qb rfl) (Qt.move rfl) ?_)
     (refine NG.q rfl rfl (qb rfl) (Qt.dj rfl rfl (by omega) AX) ?_)
     (refine NG.q rfl rfl (qb rfl) (Qt.fieldAddr rfl rfl) ?_)
     (refine NG.q rfl rfl (qb rfl) (Qt.pM rfl .el rfl) ?_)
     (refine NG.q rfl rfl (qb rfl) (Qt.cmp rfl rfl (congrArg some c6)) ?_)
     (refine NG.q rfl rfl (qb rfl) (Qt.move rfl) ?_)
     (refine NG.no rfl rfl (qb rfl) ?_)
     (refine NG.no rfl rfl (qb rfl) ?_)
     (refine NG.no rfl rfl (qb rfl) ?_)
     (refine NG.no rfl rfl (qb rfl) ?_)
     (refine NG.no rfl rfl (qb rfl) ?_)
     (refine NG.no rfl rfl (qb rfl) ?_)
     (refine NG.no rfl rfl (qb rfl) ?_)
     (refine NG.no rfl rfl (qb rfl) ?_)
     (refine NG.no rfl rfl (qb rfl) ?_)
     (refine NG.q rfl rfl (qb rfl) (Qt.pick rfl rfl) ?_)
     refine NG.q rfl rfl (qb rfl) (Qt.pick rfl rfl) ?_;refine NG.q rfl rfl (qb rfl) (Qt.move rfl) ?_
     (refine NG.q rfl rfl (qb rfl) (Qt.move rfl) ?_)
     (refine NG.q rfl rfl (qb rfl) (Qt.move rfl) ?_)
     (refine NG.q rfl rfl (qb rfl) (Qt.dj rfl rfl (by omega) AY) ?_)
     (refine NG.q rfl rfl (qb rfl) (Qt.fieldAddr rfl rfl) ?_)
     (refine NG.q rfl rfl (qb rfl) (Qt.pM rfl .el rfl) ?_)
     (refine NG.q rfl rfl (qb rfl) (Qt.cmp rfl rfl (congrArg some c7)) ?_)
     (refine NG.q rfl rfl (qb rfl) (Qt.move rfl) ?_)
     (refine NG.no rfl rfl (qb rfl) ?_)
     (refine NG.no rfl rfl (qb rfl) ?_)
     (refine NG.no rfl rfl (qb rfl) ?_)
     (refine NG.no rfl rfl (qb rfl) ?_)
     (refine NG.no rfl rfl (qb rfl) ?_)
     (refine NG.no rfl rfl (qb rfl) ?_)
     (refine NG.no rfl rfl (qb rfl) ?_)
     (refine NG.no rfl rfl (qb rfl) ?_)
     (refine NG.no rfl rfl (qb rfl) ?_)
     (refine NG.no rfl rfl (qb rfl) ?_)
     (refine NG.no rfl rfl (qb rfl) ?_)
     (refine NG.q rfl rfl (qb rfl) (Qt.pick rfl rfl) ?_)
     refine NG.q rfl rfl (qb rfl) (Qt.pick rfl rfl) ?_;refine NG.nil ?_
     repeat (first | (refine K.binOp ?_;refine jq rfl rfl rfl (Qt.aD rfl rfl rfl (aV (by omega) (by omega))) ?_) | refine gn ?_)
     exact next.aF ⟨rfl,rfl,rfl,rfl,rfl,trivial⟩
    ·have n7:(x.bS != y.bS)=false:=by have:=f7 (by simpa using c7);simp [this]
     repeat (first | refine aM t1 ?_ | refine gn ?_)
     refine J.look 59 (by kernel_rfl) (by kernel_rfl) ?_;refine NG.q rfl rfl (qb rfl) (Qt.move rfl) ?_;refine NG.q rfl rfl (qb rfl) (Qt.move rfl) ?_;refine NG.q rfl rfl (qb rfl) (Qt.dj rfl rfl (by omega) AX) ?_;refine NG.q rfl rfl (qb rfl) (Qt.fieldAddr rfl rfl) ?_
     (refine NG.q rfl rfl (qb rfl) (Qt.pM rfl .el rfl) ?_)
     refine NG.q rfl rfl (qb rfl) (Qt.move rfl) ?_;refine NG.q rfl rfl (qb rfl) (Qt.move rfl) ?_;refine NG.q rfl rfl (qb rfl) (Qt.dj rfl rfl (by omega) AY) ?_;refine NG.q rfl rfl (qb rfl) (Qt.fieldAddr rfl rfl) ?_
     (refine NG.q rfl rfl (qb rfl) (Qt.pM rfl .el rfl) ?_)
     refine NG.q rfl rfl (qb rfl) (Qt.cmp rfl rfl (congrArg some n1)) ?_;refine NG.q rfl rfl (qb rfl) (Qt.move rfl) ?_
     (refine NG.q rfl rfl (qb rfl) (Qt.move rfl) ?_)
     (refine NG.q rfl rfl (qb rfl) (Qt.move rfl) ?_)
     (refine NG.q rfl rfl (qb rfl) (Qt.dj rfl rfl (by omega) AX) ?_)
     (refine NG.q rfl rfl (qb rfl) (Qt.fieldAddr rfl rfl) ?_)
     (refine NG.q rfl rfl (qb rfl) (Qt.pM rfl .el rfl) ?_)
     (refine NG.q rfl rfl (qb rfl) (Qt.move rfl) ?_)
     (refine NG.q rfl rfl (qb rfl) (Qt.move rfl) ?_)
     (refine NG.q rfl rfl (qb rfl) (Qt.dj rfl rfl (by omega) AY) ?_)
     (refine NG.q rfl rfl (qb rfl) (Qt.fieldAddr rfl rfl) ?_)
     (refine NG.q rfl rfl (qb rfl) (Qt.pM rfl .el rfl) ?_)
     (refine NG.q rfl rfl (qb rfl) (Qt.cmp rfl rfl (congrArg some n2)) ?_)
     refine NG.q rfl rfl (qb rfl) (Qt.pick rfl rfl) ?_;refine NG.q rfl rfl (qb rfl) (Qt.move rfl) ?_
     (refine NG.q rfl rfl (qb rfl) (Qt.move rfl) ?_)
     (refine NG.q rfl rfl (qb rfl) (Qt.move rfl) ?_)
     (refine NG.q rfl rfl (qb rfl) (Qt.dj rfl rfl (by omega) AX) ?_)
     (refine NG.q rfl rfl (qb rfl) (Qt.fieldAddr rfl rfl) ?_)
     (refine NG.q rfl rfl (qb rfl) (Qt.pM rfl .el rfl) ?_)
     (refine NG.q rfl rfl (qb rfl) (Qt.move rfl) ?_)
     (refine NG.q rfl rfl (qb rfl) (Qt.move rfl) ?_)
     (refine NG.q rfl rfl (qb rfl) (Qt.dj rfl rfl (by omega) AY) ?_)
     (refine NG.q rfl rfl (qb rfl) (Qt.fieldAddr rfl rfl) ?_)
     (refine NG.q rfl rfl (qb rfl) (Qt.pM rfl .el rfl) ?_)
     (refine NG.q rfl rfl (qb rfl) (Qt.cmp rfl rfl (congrArg some n3)) ?_)
     refine NG.q rfl rfl (qb rfl) (Qt.pick rfl rfl) ?_;refine NG.q rfl rfl (qb rfl) (Qt.move rfl) ?_
     (refine NG.q rfl rfl (qb rfl) (Qt.move rfl) ?_)
     (refine NG.q rfl rfl (qb rfl) (Qt.move rfl) ?_)
     (refine NG.q rfl rfl (qb rfl) (Qt.dj rfl rfl (by omega) AX) ?_)
     (refine NG.q rfl rfl (qb rfl) (Qt.fieldAddr rfl rfl) ?_)
     (refine NG.q rfl rfl (qb rfl) (Qt.pM rfl .el rfl) ?_)
     (refine NG.q rfl rfl (qb rfl) (Qt.move rfl) ?_)
     (refine NG.q rfl rfl (qb rfl) (Qt.move rfl) ?_)
     (refine NG.q rfl rfl (qb rfl) (Qt.dj rfl rfl (by omega) AY) ?_)
     (refine NG.q rfl rfl (qb rfl) (Qt.fieldAddr rfl rfl) ?_)
     (refine NG.q rfl rfl (qb rfl) (Qt.pM rfl .el rfl) ?_)
     (refine NG.q rfl rfl (qb rfl) (Qt.cmp rfl rfl (congrArg some n4)) ?_)
     refine NG.q rfl rfl (qb rfl) (Qt.pick rfl rfl) ?_;refine NG.q rfl rfl (qb rfl) (Qt.move rfl) ?_
     (refine NG.q rfl rfl (qb rfl) (Qt.move rfl) ?_)
     (refine NG.q rfl rfl (qb rfl) (Qt.move rfl) ?_)
     (refine NG.q rfl rfl (qb rfl) (Qt.dj rfl rfl (by omega) AX) ?_)
     (refine NG.q rfl rfl (qb rfl) (Qt.fieldAddr rfl rfl) ?_)
     (refine NG.q rfl rfl (qb rfl) (Qt.pM rfl .el rfl) ?_)
     (refine NG.q rfl rfl (qb rfl) (Qt.move rfl) ?_)
     (refine NG.q rfl rfl (qb rfl) (Qt.move rfl) ?_)
     (refine NG.q rfl rfl (qb rfl) (Qt.dj rfl rfl (by omega) AY) ?_)
     (refine NG.q rfl rfl (qb rfl) (Qt.fieldAddr rfl rfl) ?_)
     (refine NG.q rfl rfl (qb rfl) (Qt.pM rfl .el rfl) ?_)
     (refine NG.q rfl rfl (qb rfl) (Qt.cmp rfl rfl (congrArg some n5)) ?_)
     refine NG.q rfl rfl (qb rfl) (Qt.pick rfl rfl) ?_;refine NG.q rfl rfl (qb rfl) (Qt.move rfl) ?_
     (refine NG.q rfl rfl (qb rfl) (Qt.move rfl) ?_)
     (refine NG.q rfl rfl (qb rfl) (Qt.move rfl) ?_)
     (refine NG.q rfl rfl (qb rfl) (Qt.dj rfl rfl (by omega) AX) ?_)
     (refine NG.q rfl rfl (qb rfl) (Qt.fieldAddr rfl rfl) ?_)
     (refine NG.q rfl rfl (qb rfl) (Qt.pM rfl .el rfl) ?_)
     (refine NG.q rfl rfl (qb rfl) (Qt.cmp rfl rfl (congrArg some c6)) ?_)
     (refine NG.q rfl rfl (qb rfl) (Qt.move rfl) ?_)
     (refine NG.no rfl rfl (qb rfl) ?_)
     (refine NG.no rfl rfl (qb rfl) ?_)
     (refine NG.no rfl rfl (qb rfl) ?_)
     (refine NG.no rfl rfl (qb rfl) ?_)
     (refine NG.no rfl rfl (qb rfl) ?_)
     (refine NG.no rfl rfl (qb rfl) ?_)
     (refine NG.no rfl rfl (qb rfl) ?_)
     (refine NG.no rfl rfl (qb rfl) ?_)
     (refine NG.no rfl rfl (qb rfl) ?_)
     (refine NG.q rfl rfl (qb rfl) (Qt.pick rfl rfl) ?_)
     refine NG.q rfl rfl (qb rfl) (Qt.pick rfl rfl) ?_;refine NG.q rfl rfl (qb rfl) (Qt.move rfl) ?_
     (refine NG.q rfl rfl (qb rfl) (Qt.move rfl) ?_)
     (refine NG.q rfl rfl (qb rfl) (Qt.move rfl) ?_)
     (refine NG.q rfl rfl (qb rfl) (Qt.dj rfl rfl (by omega) AY) ?_)
     (refine NG.q rfl rfl (qb rfl) (Qt.fieldAddr rfl rfl) ?_)
     (refine NG.q rfl rfl (qb rfl) (Qt.pM rfl .el rfl) ?_)
     (refine NG.q rfl rfl (qb rfl) (Qt.cmp rfl rfl (congrArg some c7)) ?_)
     (refine NG.q rfl rfl (qb rfl) (Qt.move rfl) ?_)
     (refine NG.q rfl rfl (qb rfl) (Qt.move rfl) ?_)
     (refine NG.q rfl rfl (qb rfl) (Qt.move rfl) ?_)
     (refine NG.q rfl rfl (qb rfl) (Qt.dj rfl rfl (by omega) AX) ?_)
     (refine NG.q rfl rfl (qb rfl) (Qt.fieldAddr rfl rfl) ?_)
     (refine NG.q rfl rfl (qb rfl) (Qt.pM rfl .el rfl) ?_)
     (refine NG.q rfl rfl (qb rfl) (Qt.move rfl) ?_)
     (refine NG.q rfl rfl (qb rfl) (Qt.move rfl) ?_)
     (refine NG.q rfl rfl (qb rfl) (Qt.dj rfl rfl (by omega) AY) ?_)
     (refine NG.q rfl rfl (qb rfl) (Qt.fieldAddr rfl rfl) ?_)
     (refine NG.q rfl rfl (qb rfl) (Qt.pM rfl .el rfl) ?_)
     (refine NG.q rfl rfl (qb rfl) (Qt.cmp rfl rfl (congrArg some n7)) ?_)
     (refine NG.q rfl rfl (qb rfl) (Qt.pick rfl rfl) ?_)
     refine NG.q rfl rfl (qb rfl) (Qt.pick rfl rfl) ?_;refine NG.nil ?_
     repeat (first | (refine K.binOp ?_;refine jq rfl rfl rfl (Qt.aD rfl rfl rfl (aV (by omega) (by omega))) ?_) | refine gn ?_)
     exact next.aF ⟨rfl,rfl,rfl,rfl,rfl,trivial⟩
    ·obtain rfl:x=y:=f6 (by simpa using c6)
     repeat (first | refine aM t1 ?_ | refine gn ?_)
     refine J.look 59 (by kernel_rfl) (by kernel_rfl) ?_;refine NG.q rfl rfl (qb rfl) (Qt.move rfl) ?_;refine NG.q rfl rfl (qb rfl) (Qt.move rfl) ?_;refine NG.q rfl rfl (qb rfl) (Qt.dj rfl rfl (by omega) AX) ?_;refine NG.q rfl rfl (qb rfl) (Qt.fieldAddr rfl rfl) ?_
     (refine NG.q rfl rfl (qb rfl) (Qt.pM rfl .el rfl) ?_)
     refine NG.q rfl rfl (qb rfl) (Qt.move rfl) ?_;refine NG.q rfl rfl (qb rfl) (Qt.move rfl) ?_;refine NG.q rfl rfl (qb rfl) (Qt.dj rfl rfl (by omega) AY) ?_;refine NG.q rfl rfl (qb rfl) (Qt.fieldAddr rfl rfl) ?_
     (refine NG.q rfl rfl (qb rfl) (Qt.pM rfl .el rfl) ?_)
     refine NG.q rfl rfl (qb rfl) (Qt.cmp rfl rfl (congrArg some n1)) ?_;refine NG.q rfl rfl (qb rfl) (Qt.move rfl) ?_
     (refine NG.q rfl rfl (qb rfl) (Qt.move rfl) ?_)
     (refine NG.q rfl rfl (qb rfl) (Qt.move rfl) ?_)
     (refine NG.q rfl rfl (qb rfl) (Qt.dj rfl rfl (by omega) AX) ?_)
     (refine NG.q rfl rfl (qb rfl) (Qt.fieldAddr rfl rfl) ?_)
     (refine NG.q rfl rfl (qb rfl) (Qt.pM rfl .el rfl) ?_)
     (refine NG.q rfl rfl (qb rfl) (Qt.move rfl) ?_)
     (refine NG.q rfl rfl (qb rfl) (Qt.move rfl) ?_)
     (refine NG.q rfl rfl (qb rfl) (Qt.dj rfl rfl (by omega) AY) ?_)
     (refine NG.q rfl rfl (qb rfl) (Qt.fieldAddr rfl rfl) ?_)
     (refine NG.q rfl rfl (qb rfl) (Qt.pM rfl .el rfl) ?_)
     (refine NG.q rfl rfl (qb rfl) (Qt.cmp rfl rfl (congrArg some n2)) ?_)
     refine NG.q rfl rfl (qb rfl) (Qt.pick rfl rfl) ?_;refine NG.q rfl rfl (qb rfl) (Qt.move rfl) ?_
     (refine NG.q rfl rfl (qb rfl) (Qt.move rfl) ?_)
     (refine NG.q rfl rfl (qb rfl) (Qt.move rfl) ?_)
     (refine NG.q rfl rfl (qb rfl) (Qt.dj rfl rfl (by omega) AX) ?_)
     (refine NG.q rfl rfl (qb rfl) (Qt.fieldAddr rfl rfl) ?_)
     (refine NG.q rfl rfl (qb rfl) (Qt.pM rfl .el rfl) ?_)
     (refine NG.q rfl rfl (qb rfl) (Qt.move rfl) ?_)
     (refine NG.q rfl rfl (qb rfl) (Qt.move rfl) ?_)
     (refine NG.q rfl rfl (qb rfl) (Qt.dj rfl rfl (by omega) AY) ?_)
     (refine NG.q rfl rfl (qb rfl) (Qt.fieldAddr rfl rfl) ?_)
     (refine NG.q rfl rfl (qb rfl) (Qt.pM rfl .el rfl) ?_)
     (refine NG.q rfl rfl (qb rfl) (Qt.cmp rfl rfl (congrArg some n3)) ?_)
     refine NG.q rfl rfl (qb rfl) (Qt.pick rfl rfl) ?_;refine NG.q rfl rfl (qb rfl) (Qt.move rfl) ?_
     (refine NG.q rfl rfl (qb rfl) (Qt.move rfl) ?_)
     (refine NG.q rfl rfl (qb rfl) (Qt.move rfl) ?_)
     (refine NG.q rfl rfl (qb rfl) (Qt.dj rfl rfl (by omega) AX) ?_)
     (refine NG.q rfl rfl (qb rfl) (Qt.fieldAddr rfl rfl) ?_)
     (refine NG.q rfl rfl (qb rfl) (Qt.pM rfl .el rfl) ?_)
     (refine NG.q rfl rfl (qb rfl) (Qt.move rfl) ?_)
     (refine NG.q rfl rfl (qb rfl) (Qt.move rfl) ?_)
     (refine NG.q rfl rfl (qb rfl) (Qt.dj rfl rfl (by omega) AY) ?_)
     (refine NG.q rfl rfl (qb rfl) (Qt.fieldAddr rfl rfl) ?_)
     (refine NG.q rfl rfl (qb rfl) (Qt.pM rfl .el rfl) ?_)
     (refine NG.q rfl rfl (qb rfl) (Qt.cmp rfl rfl (congrArg some n4)) ?_)
     refine NG.q rfl rfl (qb rfl) (Qt.pick rfl rfl) ?_;refine NG.q rfl rfl (qb rfl) (Qt.move rfl) ?_
     (refine NG.q rfl rfl (qb rfl) (Qt.move rfl) ?_)
     (refine NG.q rfl rfl (qb rfl) (Qt.move rfl) ?_)
     (refine NG.q rfl rfl (qb rfl) (Qt.dj rfl rfl (by omega) AX) ?_)
     (refine NG.q rfl rfl (qb rfl) (Qt.fieldAddr rfl rfl) ?_)
     (refine NG.q rfl rfl (qb rfl) (Qt.pM rfl .el rfl) ?_)
     (refine NG.q rfl rfl (qb rfl) (Qt.move rfl) ?_)
     (refine NG.q rfl rfl (qb rfl) (Qt.move rfl) ?_)
     (refine NG.q rfl rfl (qb rfl) (Qt.dj rfl rfl (by omega) AY) ?_)
     (refine NG.q rfl rfl (qb rfl) (Qt.fieldAddr rfl rfl) ?_)
     (refine NG.q rfl rfl (qb rfl) (Qt.pM rfl .el rfl) ?_)
     (refine NG.q rfl rfl (qb rfl) (Qt.cmp rfl rfl (congrArg some n5)) ?_)
     refine NG.q rfl rfl (qb rfl) (Qt.pick rfl rfl) ?_;refine NG.q rfl rfl (qb rfl) (Qt.move rfl) ?_
     (refine NG.q rfl rfl (qb rfl) (Qt.move rfl) ?_)
     (refine NG.q rfl rfl (qb rfl) (Qt.move rfl) ?_)
     (refine NG.q rfl rfl (qb rfl) (Qt.dj rfl rfl (by omega) AX) ?_)
     (refine NG.q rfl rfl (qb rfl) (Qt.fieldAddr rfl rfl) ?_)
     (refine NG.q rfl rfl (qb rfl) (Qt.pM rfl .el rfl) ?_)
     (refine NG.q rfl rfl (qb rfl) (Qt.cmp rfl rfl (congrArg some c6)) ?_)
     (refine NG.q rfl rfl (qb rfl) (Qt.move rfl) ?_)
     (refine NG.q rfl rfl (qb rfl) (Qt.move rfl) ?_)
     (refine NG.q rfl rfl (qb rfl) (Qt.move rfl) ?_)
     (refine NG.q rfl rfl (qb rfl) (Qt.dj rfl rfl (by omega) AX) ?_)
     (refine NG.q rfl rfl (qb rfl) (Qt.pO rfl .el rfl) ?_)
     (refine NG.q rfl rfl (qb rfl) (Qt.move rfl) ?_)
     (refine NG.q rfl rfl (qb rfl) (Qt.move rfl) ?_)
     (refine NG.q rfl rfl (qb rfl) (Qt.dj rfl rfl (by omega) AY) ?_)
     (refine NG.q rfl rfl (qb rfl) (Qt.pO rfl .el rfl) ?_)
     (refine NG.q rfl rfl (qb rfl) (Qt.Hg (vM x) rfl rfl (fun w=>Hs w _ _ _ _ _ _ _ _ _ _ _ _ _) Hp) ?_)
     (refine NG.q rfl rfl (qb rfl) (Qt.pick rfl rfl) ?_)
     refine NG.q rfl rfl (qb rfl) (Qt.pick rfl rfl) ?_;refine NG.q rfl rfl (qb rfl) (Qt.move rfl) ?_
     (refine NG.q rfl rfl (qb rfl) (Qt.move rfl) ?_)
     (refine NG.q rfl rfl (qb rfl) (Qt.move rfl) ?_)
     (refine NG.q rfl rfl (qb rfl) (Qt.dj rfl rfl (by omega) AY) ?_)
     (refine NG.q rfl rfl (qb rfl) (Qt.fieldAddr rfl rfl) ?_)
     (refine NG.q rfl rfl (qb rfl) (Qt.pM rfl .el rfl) ?_)
     (refine NG.q rfl rfl (qb rfl) (Qt.cmp rfl rfl (congrArg some c7)) ?_)
     (refine NG.q rfl rfl (qb rfl) (Qt.move rfl) ?_)
     (refine NG.no rfl rfl (qb rfl) ?_)
     (refine NG.no rfl rfl (qb rfl) ?_)
     (refine NG.no rfl rfl (qb rfl) ?_)
     (refine NG.no rfl rfl (qb rfl) ?_)
     (refine NG.no rfl rfl (qb rfl) ?_)
     (refine NG.no rfl rfl (qb rfl) ?_)
     (refine NG.no rfl rfl (qb rfl) ?_)
     (refine NG.no rfl rfl (qb rfl) ?_)
     (refine NG.no rfl rfl (qb rfl) ?_)
     (refine NG.no rfl rfl (qb rfl) ?_)
     (refine NG.no rfl rfl (qb rfl) ?_)
     (refine NG.q rfl rfl (qb rfl) (Qt.pick rfl rfl) ?_)
     refine NG.q rfl rfl (qb rfl) (Qt.pick rfl rfl) ?_;refine NG.nil ?_
     repeat (first | (refine K.binOp ?_;refine jq rfl rfl rfl (Qt.aD rfl rfl rfl (aV (by omega) (by omega))) ?_) | refine gn ?_)
     exact next.aF ⟨rfl,rfl,rfl,rfl,rfl,trivial⟩
    ·obtain rfl:x=y:=f6 (by simpa using c6);have n7:(x.bS != x.bS)=false:=by simp
     repeat (first | refine aM t1 ?_ | refine gn ?_)
     refine J.look 59 (by kernel_rfl) (by kernel_rfl) ?_;refine NG.q rfl rfl (qb rfl) (Qt.move rfl) ?_;refine NG.q rfl rfl (qb rfl) (Qt.move rfl) ?_;refine NG.q rfl rfl (qb rfl) (Qt.dj rfl rfl (by omega) AX) ?_;refine NG.q rfl rfl (qb rfl) (Qt.fieldAddr rfl rfl) ?_
     (refine NG.q rfl rfl (qb rfl) (Qt.pM rfl .el rfl) ?_)
     refine NG.q rfl rfl (qb rfl) (Qt.move rfl) ?_;refine NG.q rfl rfl (qb rfl) (Qt.move rfl) ?_;refine NG.q rfl rfl (qb rfl) (Qt.dj rfl rfl (by omega) AY) ?_;refine NG.q rfl rfl (qb rfl) (Qt.fieldAddr rfl rfl) ?_
     (refine NG.q rfl rfl (qb rfl) (Qt.pM rfl .el rfl) ?_)
     refine NG.q rfl rfl (qb rfl) (Qt.cmp rfl rfl (congrArg some n1)) ?_;refine NG.q rfl rfl (qb rfl) (Qt.move rfl) ?_
     (refine NG.q rfl rfl (qb rfl) (Qt.move rfl) ?_)
     (refine NG.q rfl rfl (qb rfl) (Qt.move rfl) ?_)
     (refine NG.q rfl rfl (qb rfl) (Qt.dj rfl rfl (by omega) AX) ?_)
     (refine NG.q rfl rfl (qb rfl) (Qt.fieldAddr rfl rfl) ?_)
     (refine NG.q rfl rfl (qb rfl) (Qt.pM rfl .el rfl) ?_)
     (refine NG.q rfl rfl (qb rfl) (Qt.move rfl) ?_)
     (refine NG.q rfl rfl (qb rfl) (Qt.move rfl) ?_)
     (refine NG.q rfl rfl (qb rfl) (Qt.dj rfl rfl (by omega) AY) ?_)
     (refine NG.q rfl rfl (qb rfl) (Qt.fieldAddr rfl rfl) ?_)
     (refine NG.q rfl rfl (qb rfl) (Qt.pM rfl .el rfl) ?_)
     (refine NG.q rfl rfl (qb rfl) (Qt.cmp rfl rfl (congrArg some n2)) ?_)
     refine NG.q rfl rfl (qb rfl) (Qt.pick rfl rfl) ?_;refine NG.q rfl rfl (qb rfl) (Qt.move rfl) ?_
     (refine NG.q rfl rfl (qb rfl) (Qt.move rfl) ?_)
     (refine NG.q rfl rfl (qb rfl) (Qt.move rfl) ?_)
     (refine NG.q rfl rfl (qb rfl) (Qt.dj rfl rfl (by omega) AX) ?_)
     (refine NG.q rfl rfl (qb rfl) (Qt.fieldAddr rfl rfl) ?_)
     (refine NG.q rfl rfl (qb rfl) (Qt.pM rfl .el rfl) ?_)
     (refine NG.q rfl rfl (qb rfl) (Qt.move rfl) ?_)
     (refine NG.q rfl rfl (qb rfl) (Qt.move rfl) ?_)
     (refine NG.q rfl rfl (qb rfl) (Qt.dj rfl rfl (by omega) AY) ?_)
     (refine NG.q rfl rfl (qb rfl) (Qt.fieldAddr rfl rfl) ?_)
     (refine NG.q rfl rfl (qb rfl) (Qt.pM rfl .el rfl) ?_)
     (refine NG.q rfl rfl (qb rfl) (Qt.cmp rfl rfl (congrArg some n3)) ?_)
     refine NG.q rfl rfl (qb rfl) (Qt.pick rfl rfl) ?_;refine NG.q rfl rfl (qb rfl) (Qt.move rfl) ?_
     (refine NG.q rfl rfl (qb rfl) (Qt.move rfl) ?_)
     (refine NG.q rfl rfl (qb rfl) (Qt.move rfl) ?_)
     (refine NG.q rfl rfl (qb rfl) (Qt.dj rfl rfl (by omega) AX) ?_)
     (refine NG.q rfl rfl (qb rfl) (Qt.fieldAddr rfl rfl) ?_)
     (refine NG.q rfl rfl (qb rfl) (Qt.pM rfl .el rfl) ?_)
     (refine NG.q rfl rfl (qb rfl) (Qt.move rfl) ?_)
     (refine NG.q rfl rfl (qb rfl) (Qt.move rfl) ?_)
     (refine NG.q rfl rfl (qb rfl) (Qt.dj rfl rfl (by omega) AY) ?_)
     (refine NG.q rfl rfl (qb rfl) (Qt.fieldAddr rfl rfl) ?_)
     (refine NG.q rfl rfl (qb rfl) (Qt.pM rfl .el rfl) ?_)
     (refine NG.q rfl rfl (qb rfl) (Qt.cmp rfl rfl (congrArg some n4)) ?_)
     refine NG.q rfl rfl (qb rfl) (Qt.pick rfl rfl) ?_;refine NG.q rfl rfl (qb rfl) (Qt.move rfl) ?_
     (refine NG.q rfl rfl (qb rfl) (Qt.move rfl) ?_)
     (refine NG.q rfl rfl (qb rfl) (Qt.move rfl) ?_)
     (refine NG.q rfl rfl (qb rfl) (Qt.dj rfl rfl (by omega) AX) ?_)
     (refine NG.q rfl rfl (qb rfl) (Qt.fieldAddr rfl rfl) ?_)
     (refine NG.q rfl rfl (qb rfl) (Qt.pM rfl .el rfl) ?_)
     (refine NG.q rfl rfl (qb rfl) (Qt.move rfl) ?_)
     (refine NG.q rfl rfl (qb rfl) (Qt.move rfl) ?_)
     (refine NG.q rfl rfl (qb rfl) (Qt.dj rfl rfl (by omega) AY) ?_)
     (refine NG.q rfl rfl (qb rfl) (Qt.fieldAddr rfl rfl) ?_)
     (refine NG.q rfl rfl (qb rfl) (Qt.pM rfl .el rfl) ?_)
     (refine NG.q rfl rfl (qb rfl) (Qt.cmp rfl rfl (congrArg some n5)) ?_)
     refine NG.q rfl rfl (qb rfl) (Qt.pick rfl rfl) ?_;refine NG.q rfl rfl (qb rfl) (Qt.move rfl) ?_
     (refine NG.q rfl rfl (qb rfl) (Qt.move rfl) ?_)
     (refine NG.q rfl rfl (qb rfl) (Qt.move rfl) ?_)
     (refine NG.q rfl rfl (qb rfl) (Qt.dj rfl rfl (by omega) AX) ?_)
     (refine NG.q rfl rfl (qb rfl) (Qt.fieldAddr rfl rfl) ?_)
     (refine NG.q rfl rfl (qb rfl) (Qt.pM rfl .el rfl) ?_)
     (refine NG.q rfl rfl (qb rfl) (Qt.cmp rfl rfl (congrArg some c6)) ?_)
     (refine NG.q rfl rfl (qb rfl) (Qt.move rfl) ?_)
     (refine NG.q rfl rfl (qb rfl) (Qt.move rfl) ?_)
     (refine NG.q rfl rfl (qb rfl) (Qt.move rfl) ?_)
     (refine NG.q rfl rfl (qb rfl) (Qt.dj rfl rfl (by omega) AX) ?_)
     (refine NG.q rfl rfl (qb rfl) (Qt.pO rfl .el rfl) ?_)
     (refine NG.q rfl rfl (qb rfl) (Qt.move rfl) ?_)
     (refine NG.q rfl rfl (qb rfl) (Qt.move rfl) ?_)
     (refine NG.q rfl rfl (qb rfl) (Qt.dj rfl rfl (by omega) AY) ?_)
     (refine NG.q rfl rfl (qb rfl) (Qt.pO rfl .el rfl) ?_)
     (refine NG.q rfl rfl (qb rfl) (Qt.Hg (vM x) rfl rfl (fun w=>Hs w _ _ _ _ _ _ _ _ _ _ _ _ _) Hp) ?_)
     (refine NG.q rfl rfl (qb rfl) (Qt.pick rfl rfl) ?_)
     refine NG.q rfl rfl (qb rfl) (Qt.pick rfl rfl) ?_;refine NG.q rfl rfl (qb rfl) (Qt.move rfl) ?_
     (refine NG.q rfl rfl (qb rfl) (Qt.move rfl) ?_)
     (refine NG.q rfl rfl (qb rfl) (Qt.move rfl) ?_)
     (refine NG.q rfl rfl (qb rfl) (Qt.dj rfl rfl (by omega) AY) ?_)
     (refine NG.q rfl rfl (qb rfl) (Qt.fieldAddr rfl rfl) ?_)
     (refine NG.q rfl rfl (qb rfl) (Qt.pM rfl .el rfl) ?_)
     (refine NG.q rfl rfl (qb rfl) (Qt.cmp rfl rfl (congrArg some c7)) ?_)
     (refine NG.q rfl rfl (qb rfl) (Qt.move rfl) ?_)
     (refine NG.q rfl rfl (qb rfl) (Qt.move rfl) ?_)
     (refine NG.q rfl rfl (qb rfl) (Qt.move rfl) ?_)
     (refine NG.q rfl rfl (qb rfl) (Qt.dj rfl rfl (by omega) AX) ?_)
     (refine NG.q rfl rfl (qb rfl) (Qt.fieldAddr rfl rfl) ?_)
     (refine NG.q rfl rfl (qb rfl) (Qt.pM rfl .el rfl) ?_)
     (refine NG.q rfl rfl (qb rfl) (Qt.move rfl) ?_)
     (refine NG.q rfl rfl (qb rfl) (Qt.move rfl) ?_)
     (refine NG.q rfl rfl (qb rfl) (Qt.dj rfl rfl (by omega) AY) ?_)
     (refine NG.q rfl rfl (qb rfl) (Qt.fieldAddr rfl rfl) ?_)
     (refine NG.q rfl rfl (qb rfl) (Qt.pM rfl .el rfl) ?_)
     (refine NG.q rfl rfl (qb rfl) (Qt.cmp rfl rfl (congrArg some n7)) ?_)
     (refine NG.q rfl rfl (qb rfl) (Qt.pick rfl rfl) ?_)
     refine NG.q rfl rfl (qb rfl) (Qt.pick rfl rfl) ?_;refine NG.nil ?_
     repeat (first | (refine K.binOp ?_;refine jq rfl rfl rfl (Qt.aD rfl rfl rfl (aV (by omega) (by omega))) ?_) | refine gn ?_)
     exact next.aF ⟨rfl,rfl,rfl,rfl,rfl,trivial⟩
   obtain rfl:k=La.length:=by omega
   have t1:decide ((La.length:Int) < (La.length:Int))=false:=decide_eq_false (by omega);clear ih
   repeat (first | refine aM t1 ?_ | refine gn ?_)
   refine J.draw (by kernel_rfl) rfl ?_;refine JW.base none ?_;refine tk 0 ?_;refine tk 3 ?_;refine tk 4 ?_;refine tk 5 ?_;refine jl 1 rfl rfl rfl rfl (Ld.pure (CU) (qb rfl) rfl (by repeat (first | exact bR.nil | refine bR.cons (dm.agg (by repeat (first | exact .nil | refine .cons .refl ?_))) ?_))) .none (fun _=>?_);refine jk 2 rfl rfl rfl rfl (Qt.pR rfl) ?_;refine jk 6 rfl rfl rfl rfl (Qt.cmp rfl rfl (congrArg some t4)) ?_;refine jk 7 rfl rfl rfl rfl (Qt.assign rfl) ?_;refine aX ?_;exact az func4
  refine J.draw (by kernel_rfl) rfl ?_;refine JW.base none ?_;refine tk 0 ?_;refine tk 2 ?_;refine tk 3 ?_;refine tk 5 ?_;refine jl 1 rfl rfl rfl rfl (Ld.pure (C1) (qb rfl) rfl (by repeat (first | exact bR.nil | refine bR.cons (dm.agg (by repeat (first | exact .nil | refine .cons .refl ?_))) ?_))) .none (fun _=>?_);refine cz 4 (C5) ?_;refine jl 6 rfl rfl rfl rfl (Ld.pure (C2) (qb rfl) rfl (by repeat (first | exact bR.nil | refine bR.cons (dm.agg (by repeat (first | exact .nil | refine .cons .refl ?_))) ?_))) .none (fun _=>?_);refine jk 7 rfl rfl rfl rfl (Qt.assign rfl) ?_;refine jk 8 rfl rfl rfl rfl (Qt.assign rfl) ?_;refine aX ?_
  all_goals exact (AM ()).aF ⟨rfl,rfl,rfl,trivial⟩
 refine J.draw (by kernel_rfl) rfl ?_;refine JW.base (some 9) ?_;refine tk 0 ?_;refine tk 1 ?_;refine tk 2 ?_;refine JD.take 3 rfl rfl (by kernel_rfl) rfl (qb rfl) ((Qt.j7 rfl rfl rfl (by omega) (by omega) (by omega)).eq (congrArg (fun z=>D.c (A.r 1 z)) h1)) rfl ?_;refine JD.cF (i:=4) (j:=8) (by kernel_rfl) ?_ ?_;refine JS.cC rfl rfl rfl (qb rfl) (Ld.pure (Om) (qb rfl) rfl lq) .none (fun _=>?_);refine JD.kN ?_;refine tk 5 ?_;refine tk 6 ?_;refine JD.cF (i:=7) (j:=8) (by kernel_rfl) ?_ ?_;refine JS.q rfl rfl rfl (qb rfl) (Qt.extract rfl rfl) ?_;refine jl 8 rfl rfl rfl rfl (Ld.alloc (qb rfl)) .none (fun _=>?_);refine jt 9 rfl rfl (Ld.bu rfl rfl rfl (by exact rfl) (by exact rfl)) (fun _=>?_);refine JW.base none ?_;refine jk 10 rfl rfl rfl rfl (Qt.assign rfl) ?_;refine aX ?_
 rotate_left
 refine JS.cC rfl rfl rfl (qb rfl) (Ld.alloc (qb rfl)) .none (fun _=>?_);refine JD.cF (i:=7) (j:=9) (by kernel_rfl) ?_ ?_;refine JS.q rfl rfl rfl (qb rfl) (Qt.extract rfl rfl) ?_;refine jt 9 rfl rfl (Ld.bu rfl rfl rfl (by exact rfl) (by exact rfl)) (fun _=>?_);refine JW.base none ?_;refine jk 10 rfl rfl rfl rfl (Qt.assign rfl) ?_;refine aX ?_
 rotate_left
 (refine JS.last rfl rfl (Ld.bu rfl rfl rfl (by exact rfl) (by exact rfl)) (fun _=>?_))
 refine JW.base none ?_;refine jk 7 rfl rfl rfl rfl (Qt.extract rfl rfl) ?_;refine jk 10 rfl rfl rfl rfl (Qt.assign rfl) ?_;refine aX ?_
 rotate_left
 refine JS.cC rfl rfl rfl (qb rfl) (Ld.alloc (qb rfl)) .none (fun _=>?_);refine cz 4 (Om) ?_;refine jk 5 rfl rfl rfl rfl (Qt.move rfl) ?_;refine JD.kN ?_;refine tk 6 ?_;refine JD.cF (i:=7) (j:=9) (by kernel_rfl) ?_ ?_;refine JS.q rfl rfl rfl (qb rfl) (Qt.extract rfl rfl) ?_;refine jt 9 rfl rfl (Ld.bu rfl rfl rfl (by exact rfl) (by exact rfl)) (fun _=>?_);refine JW.base none ?_;refine jk 10 rfl rfl rfl rfl (Qt.assign rfl) ?_;refine aX ?_
 rotate_left
 (refine JS.last rfl rfl (Ld.bu rfl rfl rfl (by exact rfl) (by exact rfl)) (fun _=>?_))
 refine JW.base none ?_;refine jk 7 rfl rfl rfl rfl (Qt.extract rfl rfl) ?_;refine jk 10 rfl rfl rfl rfl (Qt.assign rfl) ?_;refine aX ?_
 rotate_left
 all_goals exact (rest1 _).aF ⟨rfl,rfl,trivial⟩
theorem O9 (w:World) (cs:Array Value) (a:tU) (U:List Nat) (sz:cs.size=4) (he:qU w cs.toList a U) (oc:∀ y∈cs.toList,y.oneCell'=true) (v:Value) (l:List Int) (S:List Nat) (hl:GV (jH .i64) 1 w v l S) (n:Int) (wn:(Lit.int .i64 n).wf=true) :
  Calls prog 4 #[.agg cs,v,.int .i64 n] w fun e w'=>e=.returned (.bool true)∧aP [] w w' :=
 O3 (O6 a.p a.sn a.cn a.d l n (LU he)) he hl
end Fl
end Go.Proofs.YtgjpdogjekmemaaGreat
