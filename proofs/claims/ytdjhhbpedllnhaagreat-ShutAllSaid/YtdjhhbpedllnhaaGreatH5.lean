/-
  What the laws need, part H5.
  Conditions: none.
-/
import Derived.Test.YtdjhhbpedllnhaaGreatH1
import Derived.Test.YtdjhhbpedllnhaaGreatA35
set_option linter.unusedVariables false
set_option linter.unusedSimpArgs false
set_option linter.unnecessarySimpa false
set_option maxHeartbeats 2000000
namespace Go.Proofs.YtdjhhbpedllnhaaGreat
namespace Sx
structure Dn (t:ah) (g h:Nat) (c jC:Int):Prop where
 ne:h≠g
 p0:0≤(aa t h).param
 p1:(aa t h).param < t.aB.length
 dn:(su t (aa t h).param).done=false
 ch:(su t (aa t h).param).ch=c
 pt:(aa t h).bE=jC
 wk:(h:Int)∈(aa t g).ak
structure ur (s t:ah) (g:Nat) (c:Int):Prop where
 gl:t.gs.length=s.gs.length
 cl:t.au.length=s.au.length
 sl:t.aB.length=s.aB.length
 st:t.step=s.step
 sg:∀ h,(aa t h).status=(aa s h).status
 ops:(aa t g).ops=(aa s g).ops
 at_:(aa t g).at_=(aa s g).at_
 res:(aa t g).res=(aa s g).res
 pl:(aa t g).place=22∨(aa t g).place=23
 qZ:(cn t c).closed=(cn s c).closed
 ri:(cn t c).buf=(cn s c).buf
 sw:∀ i,(su t i).g=(su s i).g∧(su t i).ch=(su s i).ch∧((su s i).done=false→(su t i).done=false)
 wk:∀ p∈(aa s g).ak,p∈(aa t g).ak
 h:∀ h,h≠g→(aa t h).param=(aa s h).param∧(aa t h).bE=(aa s h).bE∧(aa t h).aU=(aa s h).aU∨Dn t g h c s.step
 q:∀ i,i∈(cn s c).recv∨i∈(cn s c).send→(i∈(cn t c).recv∨i∈(cn t c).send)∨(su s i).g.toNat≠g∧(aa s (su s i).g.toNat).aU=true∨Dn t g (su s i).g.toNat c s.step
 m:2 * ((cn t c).recv.length + (cn t c).send.length) + (if (aa t g).place=22 then 1 else 0) < 2 * ((cn s c).recv.length + (cn s c).send.length) + (if (aa s g).place=22 then 1 else 0)
theorem ZC {s:ah} {i j:Int} {d:Su}:su (aN s i d) j=if i.toNat=j.toNat∧j.toNat < s.aB.length then d else su s j:=by
 unfold su aN;rw [List.getD_eq_getElem?_getD,List.getD_eq_getElem?_getD,List.getElem?_set]
 by_cases e:i.toNat=j.toNat
 ·by_cases l:j.toNat < s.aB.length
  ·rw [if_pos e,if_pos (by omega),if_pos ⟨e,l⟩];rfl
  ·rw [if_pos e,az,if_neg (fun q=>l q.2),List.getElem?_eq_none (by omega)]
 ·rw [if_neg e,if_neg (fun q=>e q.1)]
theorem Du {s:ah} {c:Int} {x:Cn} (c0:1≤c) (c1:c≤s.au.length):cn (aA s c x) c=x:=by
 rw [m8 c0 c1 rfl c c0];unfold up;rw [if_pos rfl]
theorem OD {k:Cn} {i:Int} (h:i∈k.recv∨i∈k.send):(bN k i).recv.length + (bN k i).send.length < k.recv.length + k.send.length:=by
 have a:(eZ k.recv i).length≤k.recv.length:=iG.length_le;have b:(eZ k.send i).length≤k.send.length:=iG.length_le
 show (eZ k.recv i).length + (eZ k.send i).length < _;rcases h with h | h
 ·have:(eZ k.recv i).length≠k.recv.length:=fun e=>ng (i:=i) (iG.eq_of_length e ▸ h)
  omega
 ·have:(eZ k.send i).length≠k.send.length:=fun e=>ng (i:=i) (iG.eq_of_length e ▸ h)
  omega
theorem OE {k:Cn} {i j:Int} (h:j∈k.recv∨j∈k.send) (n:j≠i):j∈(bN k i).recv∨j∈(bN k i).send:=by
 have w:∀ l:List Int,j∈l→j∈eZ l i:=fun l m=>by unfold eZ;rw [List.mem_filter];exact ⟨m,by simpa using n⟩
 exact h.imp (w _) (w _)
section
variable {s t u:ah} {g:Nat} {c:Int}
theorem ZD (hg:g < s.gs.length) (e:(aa s g).place=22) (i:Int):ur s (ai s g { aa s g with hold:=i,place:=23 }) g c:=by
 have gg:∀ h,aa (ai s g { aa s g with hold:=i,place:=23 }) h=if h=g then { aa s g with hold:=i,place:=23 } else aa s h:=fun h=>fj hg
 have g1:=gg g;rw [if_pos rfl] at g1;refine ⟨eV,rfl,rfl,rfl,fun h=>?_,by rw [g1],by rw [g1],by rw [g1],.inr (by rw [g1]),rfl,rfl,fun _=>⟨rfl,rfl,id⟩,fun p hp=>by rw [g1];exact hp,fun h n=>.inl (by rw [gg,if_neg n];exact ⟨rfl,rfl,rfl⟩),fun i hi=>.inl hi,?_⟩
 ·rw [gg];split
  ·rename_i z;rw [z]
  ·rfl
 ·rw [g1,e];simp [Zq]
theorem OF (hg:g < s.gs.length) {o:Nat} (ho:o < s.gs.length) (ne:o≠g) (c0:1≤c) (c1:c≤s.au.length) {i:Int} (i0:0≤i) (i1:i < s.aB.length) (hi:i∈(cn s c).recv∨i∈(cn s c).send) (so:(su s i).g=o) (sc:(su s i).ch=c) {x y:Gr}
  (x1:x.ops=(aa s g).ops) (x2:x.at_=(aa s g).at_) (x3:x.res=(aa s g).res) (x4:x.status=(aa s g).status) (x5:x.ak=(aa s g).ak ++ [(o:Int)]) (x6:x.place=22) (y1:y.param=i) (y2:y.bE=s.step) (y3:y.status=(aa s o).status) :
  ur s (ai (aN (ai (aA s c (bN (cn s c) i)) o y) i { su s i with done:=false }) g x) g c:=by
 have lo:(aA s c (bN (cn s c) i)).gs.length=s.gs.length:=rfl;have gg:∀ h,aa (ai (aN (ai (aA s c (bN (cn s c) i)) o y) i { su s i with done:=false }) g x) h=if h=g then x else if h=o then y else aa s h:=fun h=>by
  rw [fj (by show g < (ai (aA s c (bN (cn s c) i)) o y).gs.length;rw [eV];exact hg),LU,fj (by exact ho)];rfl
 have g1:=gg g;have g2:=gg o;rw [if_pos rfl] at g1;rw [if_neg ne,if_pos rfl] at g2;have cc:cn (ai (aN (ai (aA s c (bN (cn s c) i)) o y) i { su s i with done:=false }) g x) c=bN (cn s c) i:=Du c0 c1;have ss:∀ j,su (ai (aN (ai (aA s c (bN (cn s c) i)) o y) i { su s i with done:=false }) g x) j=if i.toNat=j.toNat∧j.toNat < s.aB.length then { su s i with done:=false } else su s j:=fun j=>ZC (s:=ai (aA s c (bN (cn s c) i)) o y)
 have si:=ss i;rw [if_pos ⟨rfl,by omega⟩] at si;have D:Dn (ai (aN (ai (aA s c (bN (cn s c) i)) o y) i { su s i with done:=false }) g x) g o c s.step:=by
  refine ⟨ne,?_,?_,?_,?_,?_,?_⟩
  ·rw [g2,y1];exact i0
  ·rw [g2,y1];show i < ((s.aB.set _ _).length:Int);rw [List.length_set];exact i1
  ·rw [g2,y1,si]
  ·rw [g2,y1,si];exact sc
  ·rw [g2];exact y2
  ·rw [g1,x5];simp
 refine ⟨by rw [eV];show (ai _ _ _).gs.length=_;rw [eV];rfl,by show (List.set _ _ _).length=_;rw [List.length_set],by show (List.set _ _ _).length=_;rw [List.length_set];rfl,rfl,fun h=>?_,by rw [g1,x1],by rw [g1,x2],by rw [g1,x3],.inl (by rw [g1,x6]),by rw [cc];rfl,by rw [cc];rfl,fun j=>?_,fun p hp=>by rw [g1,x5];exact List.mem_append.2 (.inl hp),fun h n=>?_,fun j hj=>?_,?_⟩
 ·rw [gg];split
  ·rename_i z;rw [z,x4]
  ·split
   ·rename_i z;rw [z,y3]
   ·rfl
 ·rw [ss];split
  ·rename_i z;have:su s j=su s i:=by unfold su;rw [z.1]
   rw [this];exact ⟨rfl,rfl,fun _=>rfl⟩
  ·exact ⟨rfl,rfl,id⟩
 ·by_cases z:h=o
  ·rw [z];exact .inr D
  ·refine .inl ?_;rw [gg,if_neg n,if_neg z];exact ⟨rfl,rfl,rfl⟩
 ·by_cases z:j=i
  ·subst z;refine .inr (.inr ?_);rw [so];exact D
  ·rw [cc];exact .inl (OE hj z)
 ·rw [cc,g1,x6,if_pos rfl];have:=OD hi
  split <;> omega
theorem ZE (hg:g < s.gs.length) {o:Nat} (ne:o≠g) (c0:1≤c) (c1:c≤s.au.length) {i:Int} (hi:i∈(cn s c).recv∨i∈(cn s c).send) (so:(su s i).g=o) (pk:(aa s o).aU=true) {x:Gr}
  (x1:x.ops=(aa s g).ops) (x2:x.at_=(aa s g).at_) (x3:x.res=(aa s g).res) (x4:x.status=(aa s g).status) (x5:x.ak=(aa s g).ak) (x6:x.place=22) :
  ur s (ai (aA s c (bN (cn s c) i)) g x) g c:=by
 have gg:∀ h,aa (ai (aA s c (bN (cn s c) i)) g x) h=if h=g then x else aa s h:=fun h=>by
  rw [fj (by exact hg)];rfl
 have g1:=gg g;rw [if_pos rfl] at g1;have cc:cn (ai (aA s c (bN (cn s c) i)) g x) c=bN (cn s c) i:=Du c0 c1;refine ⟨by rw [eV];rfl,by show (List.set _ _ _).length=_;rw [List.length_set],rfl,rfl,fun h=>?_,by rw [g1,x1],by rw [g1,x2],by rw [g1,x3],.inl (by rw [g1,x6]),by rw [cc];rfl,by rw [cc];rfl,fun j=>⟨rfl,rfl,id⟩,fun p hp=>by rw [g1,x5];exact hp,fun h n=>.inl (by rw [gg,if_neg n];exact ⟨rfl,rfl,rfl⟩),fun j hj=>?_,?_⟩
 ·rw [gg];split
  ·rename_i z;rw [z,x4]
  ·rfl
 ·by_cases z:j=i
  ·subst z;refine .inr (.inl ?_);rw [so];exact ⟨ne,pk⟩
  ·rw [cc];exact .inl (OE hj z)
 ·rw [cc,g1,x6,if_pos rfl];have:=OD hi
  split <;> omega
end
section
variable {s t u:ah} {g:Nat} {c:Int}
theorem OG (h:MInv s) (hg:g < s.gs.length) (k:(ag s g).kind=6):∀ i j,¬ dI (aa s g) i j:=fun i j q=>by
 have hk:(aH (aa s g)).kind=(ag s g).kind:=rfl;unfold dI SR SE at q;rcases q with ⟨a,_⟩ | ⟨a,_⟩ <;> omega
theorem OH (h:MInv s) (hg:g < s.gs.length) (k:(ag s g).kind=6) (e:(aa s g).place=22) {i:Int} (hq:i∈(cn s (ag s g).ch).recv∨i∈(cn s (ag s g).ch).send):ur s (ff s g i) g (ag s g).ch:=by
 obtain ⟨c0,c1⟩:=h.kn hg (by omega) (by omega);obtain ⟨o,q⟩:=h.vw (g:=g) c0 c1 hq;have bG:=q.ne h (OG h hg k);unfold ff;simp only;have es:su (ai s g { aa s g with hold:=i }) i=su s i:=rfl;rw [es]
 by_cases hn:0≤(su s i).cs
 ·rw [if_pos hn,mz _ _ _ _ hg];exact ZD hg e i
 ·rw [if_neg hn];have l1:(ai s g { aa s g with hold:=i }).gs.length=s.gs.length:=eV;have gg:aa (ai s g { aa s g with hold:=i }) g={ aa s g with hold:=i }:=by rw [fj hg,if_pos rfl]
  have go:aa (ai s g { aa s g with hold:=i }) o=aa s o:=by rw [fj hg,if_neg bG]
  rw [Ce (s:=ai s g { aa s g with hold:=i }) (i:=i) (by rw [l1];exact hg) (by rw [l1];exact q.o1) (by rw [gg]) q.g_ q.ch c0 c1 bG,gg,go,es];have ef:∀ y d x,ai (aN (ai (aA (ai s g { aa s g with hold:=i }) (ag s g).ch (bN (cn (ai s g { aa s g with hold:=i }) (ag s g).ch) i)) o y) i d) g x=ai (aN (ai (aA s (ag s g).ch (bN (cn s (ag s g).ch) i)) o y) i d) g x:=by
   intro y d x;unfold ai aN aA;simp only;rw [zO bG];rfl
  rw [ef];exact OF hg q.o1 bG c0 c1 q.i0 q.i1 hq q.g_ q.ch rfl rfl rfl rfl rfl e rfl rfl rfl
theorem ZF (h:MInv s) (hg:g < s.gs.length) (k:(ag s g).kind=6) (e:(aa s g).place=23):ur s (ic s g) g (ag s g).ch:=by
 have hk:(aH (aa s g)).kind=(ag s g).kind:=rfl;obtain ⟨o,q,c0,c1,hh,hq,jm⟩:=h.Cd hg (.inr (.inl e));have bG:o≠g:=q.ne h (OG h hg k);have hc:(su s (aa s g).hold).ch=(ag s g).ch:=by
  rcases hh with w | w
  ·exact w.2.2.1
  ·have:=w.1;unfold SE at this;omega
 have sc:(su s (aa s g).hold).ch=(su s (aa s g).hold).ch:=rfl;unfold Sx.ic;simp only [q.g_,Int.toNat_natCast]
 cases hp:(aa s o).aU with
 | true =>
  rw [if_pos rfl,drop_eq rfl c0 c1,hc];rw [hc] at c0 c1 hq;exact ZE hg bG c0 c1 hq q.g_ hp rfl rfl rfl rfl rfl rfl
 | false =>
  rw [if_neg (by simp)];have l1:(ai s o { aa s o with aU:=true }).gs.length=s.gs.length:=eV;have gg:aa (ai s o { aa s o with aU:=true }) g=aa s g:=by rw [fj q.o1,if_neg (by omega)]
  have go:aa (ai s o { aa s o with aU:=true }) o={ aa s o with aU:=true }:=by rw [fj q.o1,if_pos rfl]
  have es:su (ai s o { aa s o with aU:=true }) (aa s g).hold=su s (aa s g).hold:=rfl;rw [Ce (s:=ai s o { aa s o with aU:=true }) (i:=(aa s g).hold) (by rw [l1];exact hg) (by rw [l1];exact q.o1) (by rw [gg]) q.g_ q.ch c0 c1 bG,gg,go,es];rw [mz _ _ _ _ (by simp only [aN,ai,aA,List.length_set];exact hg)];have ef:∀ y d x c,ai (aN (ai (aA (ai s o { aa s o with aU:=true }) c (bN (cn (ai s o { aa s o with aU:=true }) c) (aa s g).hold)) o y) (aa s g).hold d) g x=ai (aN (ai (aA s c (bN (cn s c) (aa s g).hold)) o y) (aa s g).hold d) g x:=by
   intro y d x c;unfold ai aN aA;simp only [List.set_set];rfl
  rw [ef,hc];rw [hc] at c0 c1 hq;exact OF hg q.o1 bG c0 c1 q.i0 q.i1 hq q.g_ hc rfl rfl rfl rfl rfl rfl rfl rfl rfl
theorem OI (h:MInv s) (hg:g < s.gs.length) (k:(ag s g).kind=6) (e:(aa s g).place=22∧0 < (cn s (ag s g).ch).recv.length + (cn s (ag s g).ch).send.length∨(aa s g).place=23):(cj s g).2=true∧ur s (cj s g).1 g (ag s g).ch:=by
 have hm:=Sx.m9.2 (h.kn hg (by omega) (by omega));have hc:Sx.common s g=(s,false):=by
  unfold Sx.common;dsimp only;rw [az,az,az,az,az,az]
 unfold Sx.cj;simp only;rw [az,hc,if_neg (by simp),if_neg (by rw [hm];simp),az];rcases e with ⟨e,n⟩ | e
 ·rw [if_pos e]
  by_cases q1:0 < (cn s (ag s g).ch).recv.length
  ·rw [if_pos q1];exact ⟨rfl,OH h hg k e (.inl (tZ (by omega)))⟩
  ·rw [if_neg q1,if_pos (by omega)];exact ⟨rfl,OH h hg k e (.inr (tZ (by omega)))⟩
 ·rw [az,if_pos e];exact ⟨rfl,ZF h hg k e⟩
structure Jn (s t:ah) (g:Nat) (c:Int):Prop where
 gl:t.gs.length=s.gs.length
 cl:t.au.length=s.au.length
 sl:t.aB.length=s.aB.length
 st:t.step=s.step
 sg:∀ h,(aa t h).status=(aa s h).status
 ops:(aa t g).ops=(aa s g).ops
 at_:(aa t g).at_=(aa s g).at_
 res:(aa t g).res=(aa s g).res
 pl:(aa t g).place=22∨(aa t g).place=23
 qZ:(cn t c).closed=(cn s c).closed
 ri:(cn t c).buf=(cn s c).buf
 sw:∀ i,(su t i).g=(su s i).g
 h:∀ h,h≠g→(aa t h).aU=(aa s h).aU∨Dn t g h c s.step
 q:∀ i,i∈(cn s c).recv∨i∈(cn s c).send→(i∈(cn t c).recv∨i∈(cn t c).send)∨(aa s (su s i).g.toNat).aU=true∨Dn t g (su s i).g.toNat c s.step
theorem Jn.vQ (e:(aa s g).place=22∨(aa s g).place=23):Jn s s g c:=⟨rfl,rfl,rfl,rfl,fun _=>rfl,rfl,rfl,rfl,e,rfl,rfl,fun _=>rfl,fun _ _=>.inl rfl,fun _ h=>.inl h⟩
theorem Dn.AL {h:Nat} {jC:Int} (d:Dn t g h c jC) (a:ur t u g c) (e:t.step=jC):Dn u g h c jC:=by
 rcases a.h h d.ne with ⟨e1,e2,_⟩ | D
 ·have w:=a.sw (aa t h).param;exact ⟨d.ne,by rw [e1];exact d.p0,by rw [e1,a.sl];exact d.p1,by rw [e1];exact w.2.2 d.dn,by rw [e1,w.2.1];exact d.ch,by rw [e2];exact d.pt,a.wk _ d.wk⟩
 ·rw [← e];exact D
theorem Jn.AL (j:Jn s t g c) (a:ur t u g c):Jn s u g c:=by
 refine ⟨a.gl.trans j.gl,a.cl.trans j.cl,a.sl.trans j.sl,a.st.trans j.st,fun h=>(a.sg h).trans (j.sg h),a.ops.trans j.ops,a.at_.trans j.at_,a.res.trans j.res,a.pl,a.qZ.trans j.qZ,a.ri.trans j.ri,fun i=>(a.sw i).1.trans (j.sw i),fun h n=>?_,fun i hi=>?_⟩
 ·rcases j.h h n with e | d
  ·rcases a.h h n with ⟨_,_,e2⟩ | D
   ·exact .inl (e2.trans e)
   ·rw [j.st] at D;exact .inr D
  ·exact .inr (d.AL a j.st)
 ·rcases j.q i hi with w | w | w
  ·rcases a.q i w with z | z | z
   ·exact .inl z
   ·rw [j.sw] at z;rcases j.h _ z.1 with e | d
    ·rw [e] at z;exact .inr (.inl z.2)
    ·exact .inr (.inr (d.AL a j.st))
   ·rw [j.sw,j.st] at z;exact .inr (.inr z)
  ·exact .inr (.inl w)
  ·exact .inr (.inr (w.AL a j.st))
end
section
variable {s t u:ah} {g:Nat} {c:Int}
structure Dw (s t:ah) (g h:Nat) (c:Int):Prop where
 ne:h≠g
 p0:0≤(aa t h).param
 p1:(aa t h).param < t.aB.length
 dn:(su t (aa t h).param).done=false
 ch:(su t (aa t h).param).ch=c
 pt:(aa t h).bE=s.step
 fin:(h:Int)∈(aa t g).ak∧(aa t h).status=(aa s h).status∨(aa t h).status=0∧((aa s h).status=0→(aa t h).token=true)
structure Kd (s t:ah) (g:Nat) (c:Int):Prop where
 gl:t.gs.length=s.gs.length
 cl:t.au.length=s.au.length
 sl:t.aB.length=s.aB.length
 ops:(aa t g).ops=(aa s g).ops
 at_:(aa t g).at_=(aa s g).at_
 res:(aa t g).res=(aa s g).res
 qZ:(cn t c).closed=(cn s c).closed
 ri:(cn t c).buf=(cn s c).buf
 rq:(cn t c).recv=[]
 sq:(cn t c).send=[]
 lk:(aa t g).place=16∨(cn t c).lock=-1
 w:∀ i,i∈(cn s c).recv∨i∈(cn s c).send→(aa s (su s i).g.toNat).aU=true∨Dw s t g (su s i).g.toNat c
theorem Jn.kd (j:Jn s t g c) (hg:g < t.gs.length) (rq:(cn t c).recv=[]) (sq:(cn t c).send=[]):Kd s (aG t g 16) g c:=by
 have gg:∀ h,aa (aG t g 16) h=if h=g then { aa t g with place:=16 } else aa t h:=fun h=>fj hg
 have g1:=gg g;rw [if_pos rfl] at g1;refine ⟨eV.trans j.gl,j.cl,j.sl,by rw [g1];exact j.ops,by rw [g1];exact j.at_,by rw [g1];exact j.res,j.qZ,j.ri,rq,sq,.inl (by rw [g1]),fun i hi=>?_⟩;rcases j.q i hi with w | w | w
 ·rw [rq,sq] at w;rcases w with w | w <;> cases w
 ·exact .inl w
 ·refine .inr ⟨w.ne,?_,?_,?_,?_,?_,?_⟩
  ·rw [gg,if_neg w.ne];exact w.p0
  ·rw [gg,if_neg w.ne];exact w.p1
  ·rw [gg,if_neg w.ne];exact w.dn
  ·rw [gg,if_neg w.ne];exact w.ch
  ·rw [gg,if_neg w.ne];exact w.pt
  ·exact .inl ⟨by rw [g1];exact w.wk,by rw [gg,if_neg w.ne];exact j.sg _⟩
theorem Kd.free (k:Kd s t g c) (hg:g < t.gs.length) (c0:1≤c) (c1:c≤t.au.length):Kd s (ak (Sx.free t c) g) g c∧(aa (ak (Sx.free t c) g) g).ak=(aa t g).ak∧(aa (ak (Sx.free t c) g) g).status=(aa t g).status∧((aa (ak (Sx.free t c) g) g).place=17∨(aa (ak (Sx.free t c) g) g).place=18):=by
 have hw:∃ p,(p=17∨p=18)∧ak (Sx.free t c) g=aG (Sx.free t c) g p:=by
  unfold Sx.ak;split
  ·exact ⟨_,.inl rfl,rfl⟩
  ·exact ⟨_,.inr rfl,rfl⟩
 obtain ⟨p,p7,hw⟩:=hw;rw [hw];have gg:∀ h,aa (aG (Sx.free t c) g p) h=if h=g then { aa t g with place:=p } else aa t h:=fun h=>fj (s:=Sx.free t c) hg
 have g1:=gg g;rw [if_pos rfl] at g1;have cc:cn (aG (Sx.free t c) g p) c={ cn t c with lock:=-1 }:=Du c0 c1;refine ⟨⟨eV.trans k.gl,by show (List.set _ _ _).length=_;rw [List.length_set];exact k.cl,k.sl,by rw [g1];exact k.ops,by rw [g1];exact k.at_,by rw [g1];exact k.res,by rw [cc];exact k.qZ,by rw [cc];exact k.ri,by rw [cc];exact k.rq,by rw [cc];exact k.sq,.inr (by rw [cc]),fun i hi=>?_⟩,by rw [g1],by rw [g1],by rw [g1];exact p7⟩;rcases k.w i hi with w | w
 ·exact .inl w
 ·refine .inr ⟨w.ne,?_,?_,?_,?_,?_,?_⟩
  ·rw [gg,if_neg w.ne];exact w.p0
  ·rw [gg,if_neg w.ne];exact w.p1
  ·rw [gg,if_neg w.ne];exact w.dn
  ·rw [gg,if_neg w.ne];exact w.ch
  ·rw [gg,if_neg w.ne];exact w.pt
  ·rw [g1,gg,if_neg w.ne];exact w.fin
theorem ZG {p:Nat} (hp:p < t.gs.length) (st:(aa t p).status=0∨(aa t p).status=1):∃ y:Gr,ready t p=ai t p y∧y.param=(aa t p).param∧y.bE=(aa t p).bE∧y.status=0∧((aa t p).status=0→y.token=true):=by
 unfold ready;rcases st with st | st
 ·refine ⟨_,rfl,?_⟩;rw [az,if_pos st];exact ⟨rfl,rfl,st,fun _=>rfl⟩
 ·refine ⟨_,rfl,?_⟩;rw [if_pos st];exact ⟨rfl,rfl,rfl,fun e=>by omega⟩
theorem Kd.mq (k:Kd s t g c) (h:MInv t) (hg:g < t.gs.length) (e:(aa t g).place=17):(aa t g).ak.length≠0∧Kd s (ak (ai (ready t ((aa t g).ak.headD 0).toNat) g { aa t g with ak:=(aa t g).ak.tail }) g) g c∧(aa (ak (ai (ready t ((aa t g).ak.headD 0).toNat) g { aa t g with ak:=(aa t g).ak.tail }) g) g).ak=(aa t g).ak.tail∧(aa (ak (ai (ready t ((aa t g).ak.headD 0).toNat) g { aa t g with ak:=(aa t g).ak.tail }) g) g).status=(aa t g).status∧((aa (ak (ai (ready t ((aa t g).ak.headD 0).toNat) g { aa t g with ak:=(aa t g).ak.tail }) g) g).place=17∨(aa (ak (ai (ready t ((aa t g).ak.headD 0).toNat) g { aa t g with ak:=(aa t g).ak.tail }) g) g).place=18):=by
 have L:=h.loc hg
 cases hl:(aa t g).ak with
 | nil=>exact absurd hl (L.w2 e)
 | cons a l =>
 have r:=L.w3 a (by rw [hl];simp);have wk:=Inv.wk h.v g (by omega) (by omega) a (by rw [fz,hl];simp);obtain ⟨p,hp⟩:∃ p:Nat,a=p:=⟨a.toNat,by omega⟩
 subst hp;rw [fz] at wk;have pn:p≠g:=by have:=wk.1;omega
 have pl:p < t.gs.length:=by omega
 have st:(aa t p).status=0∨(aa t p).status=1:=by
  have Lp:=h.loc pl;have:=Lp.jC;have:=Lp.FX;have w:=wk.2.1;unfold Wt at w;omega
 obtain ⟨y,ey,y1,y2,y3,y4⟩:=ZG pl st;rw [List.headD_cons,List.tail_cons,Int.toNat_natCast,ey];have hw:∃ q,(q=17∨q=18)∧ak (ai (ai t p y) g { aa t g with ak:=l }) g=aG (ai (ai t p y) g { aa t g with ak:=l }) g q:=by
  unfold Sx.ak;split
  ·exact ⟨_,.inl rfl,rfl⟩
  ·exact ⟨_,.inr rfl,rfl⟩
 obtain ⟨q,q7,hw⟩:=hw;have fY:g < (ai t p y).gs.length:=by rw [eV];exact hg
 rw [hw,mz _ _ _ _ fY];have gg:∀ h,aa (ai (ai t p y) g { aa t g with ak:=l,place:=q }) h=if h=g then { aa t g with ak:=l,place:=q } else if h=p then y else aa t h:=fun h=>by
  rw [fj fY,fj pl]
 have g1:=gg g;rw [if_pos rfl] at g1;refine ⟨by simp,⟨by rw [eV,eV];exact k.gl,k.cl,k.sl,by rw [g1];exact k.ops,by rw [g1];exact k.at_,by rw [g1];exact k.res,k.qZ,k.ri,k.rq,k.sq,.inr (k.lk.resolve_left (by omega)),fun i hi=>?_⟩,by rw [g1],by rw [g1],by rw [g1];exact q7⟩;rcases k.w i hi with w | w
 ·exact .inl w
 ·generalize (su s i).g.toNat=o at w ⊢;have wf:=w.fin;rw [hl] at wf
  by_cases z:o=p
  ·subst z;refine .inr ⟨w.ne,?_,?_,?_,?_,?_,?_⟩
   ·rw [gg,if_neg w.ne,if_pos rfl,y1];exact w.p0
   ·rw [gg,if_neg w.ne,if_pos rfl,y1];exact w.p1
   ·rw [gg,if_neg w.ne,if_pos rfl,y1];exact w.dn
   ·rw [gg,if_neg w.ne,if_pos rfl,y1];exact w.ch
   ·rw [gg,if_neg w.ne,if_pos rfl,y2];exact w.pt
   ·have go:=gg o;rw [if_neg w.ne,if_pos rfl] at go;rw [go];refine .inr ⟨y3,fun e0=>?_⟩;rcases wf with f | f
    ·exact y4 (f.2.trans e0)
    ·exact y4 f.1
  ·refine .inr ⟨w.ne,?_,?_,?_,?_,?_,?_⟩
   ·rw [gg,if_neg w.ne,if_neg z];exact w.p0
   ·rw [gg,if_neg w.ne,if_neg z];exact w.p1
   ·rw [gg,if_neg w.ne,if_neg z];exact w.dn
   ·rw [gg,if_neg w.ne,if_neg z];exact w.ch
   ·rw [gg,if_neg w.ne,if_neg z];exact w.pt
   ·have go:=gg o;rw [if_neg w.ne,if_neg z] at go;rw [go,g1];rcases wf with f | f
    ·refine .inl ⟨?_,f.2⟩;rcases List.mem_cons.1 f.1 with m | m
     ·omega
     ·exact m
    ·exact .inr f
end
section
variable {s t u:ah} {g:Nat} {c:Int}
structure Ok (t:ah) (g:Nat):Prop where
 fX:Good t
 hg:g < t.gs.length
 st:(aa t g).status=0
def lT (g:Nat) (Q:ah→Prop):Nat→ah→Prop
 | 0,t=>(aa t g).place=18∧Q t
 | n + 1,t=>(aa t g).place=18∧Q t∨(aa t g).place≠18∧Ok t g∧(cj t g).2=true∧lT g Q n (cj t g).1
theorem lT.mono {Q R:ah→Prop} (f:∀ t,Q t→R t):∀ {n m:Nat} {t:ah},n≤m→lT g Q n t→lT g R m t
 | 0,0,t,_,h=>⟨h.1,f _ h.2⟩
 | 0,m + 1,t,_,h=>.inl ⟨h.1,f _ h.2⟩
 | n + 1,0,t,l,h=>by omega
 | n + 1,m + 1,t,l,h=>by
  rcases h with h | ⟨a,b,c,d⟩
  ·exact .inl ⟨h.1,f _ h.2⟩
  ·exact .inr ⟨a,b,c,lT.mono f (by omega) d⟩
theorem lT.cases {Q:ah→Prop}:∀ {n:Nat} {t:ah},lT g Q n t→(aa t g).place=18∧Q t∨∃ m,n=m + 1∧(aa t g).place≠18∧Ok t g∧(cj t g).2=true∧lT g Q m (cj t g).1
 | 0,_,h=>.inl h
 | n + 1,_,h=>h.imp id (fun w=>⟨n,rfl,w⟩)
theorem Ok.to (o:Ok t g) (gl:(cj t g).1.gs.length=t.gs.length) (st:(aa (cj t g).1 g).status=(aa t g).status):Ok (cj t g).1 g :=
 ⟨⟨o.fX.toMInv.cj o.hg o.st,o.fX.z.cj⟩,by rw [gl];exact o.hg,st.trans o.st⟩
theorem OJ (k:(ag t g).kind=6) (h:(common t g).2=true):cj t g=((common t g).1,true):=by
 unfold Sx.cj;dsimp only;rw [az,if_pos h]
theorem Kd.op (k:Kd s t g c):Sx.ag t g=Sx.ag s g:=by unfold Sx.ag;rw [k.ops,k.at_]
theorem Jn.op (k:Jn s t g c):Sx.ag t g=Sx.ag s g:=by unfold Sx.ag;rw [k.ops,k.at_]
theorem ZH (k6:(Sx.ag s g).kind=6):∀ (n:Nat) (t:ah),Ok t g→Kd s t g c→(aa t g).place=17∨(aa t g).place=18→(aa t g).ak.length≤n→lT g (fun t=>Kd s t g c∧(aa t g).ak=[]∧Ok t g) n t:=by
 intro n
 induction n with
 | zero =>
  intro t o k e l;have w:(aa t g).ak=[]:=List.length_eq_zero_iff.1 (by omega);rcases e with e | e
  ·exact absurd w ((o.fX.toMInv.loc o.hg).w2 e)
  ·exact ⟨e,k,w,o⟩
 | succ n ih =>
  intro t o k e l;rcases e with e | e
  ·have W:=k.mq o.fX.toMInv o.hg e;have hc:common t g=(ak (ai (ready t ((aa t g).ak.headD 0).toNat) g { aa t g with ak:=(aa t g).ak.tail }) g,true):=by
    unfold Sx.common;dsimp only;rw [az,az,az,az,az,if_pos e]
   have hs:=OJ (t:=t) (g:=g) (by rw [k.op];exact k6) (by rw [hc]);rw [hc] at hs;dsimp only at hs;have T:=o.to;refine .inr ⟨by omega,o,by rw [hs],?_⟩;rw [hs] at T ⊢;obtain ⟨w1,w2,w3,w4,w5⟩:=W;exact ih _ (T (w2.gl.trans k.gl.symm) w4) w2 w5 (by rw [w3,List.length_tail];omega)
  ·have w:(aa t g).ak=[]:=by
    have L:=o.fX.toMInv.loc o.hg
    cases hw:(aa t g).ak with
    | nil=>rfl
    | cons a l=>have:=L.w1 (by rw [hw];simp);omega
   exact .inl ⟨e,k,w,o⟩
theorem ZI (k6:(Sx.ag s g).kind=6) (ec:(Sx.ag s g).ch=c) (t:ah) (o:Ok t g) (k:Kd s t g c) (e:(aa t g).place=16):lT g (fun t=>Kd s t g c∧(aa t g).ak=[]∧Ok t g) 9 t:=by
 have h':=o.fX.toMInv;have L:=h'.loc o.hg;have m:=h'.kn o.hg (by omega) (by rw [k.op];omega);rw [k.op,ec] at m;have W:=k.free o.hg m.1 m.2;have hc:common t g=(ak (Sx.free t c) g,true):=by
  unfold Sx.common;dsimp only;rw [az,az,az,az,if_pos e,k.op,ec]
 have hs:=OJ (t:=t) (g:=g) (by rw [k.op];exact k6) (by rw [hc]);rw [hc] at hs;dsimp only at hs;have T:=o.to;refine .inr ⟨by omega,o,by rw [hs],?_⟩;rw [hs] at T ⊢;obtain ⟨w2,w3,w4,w5⟩:=W;have:=Fl.uo (n:=t.gs.length) L.w4 (fun a ha=>L.w3 a ha);have:=h'.n8;exact ZH k6 8 _ (T (w2.gl.trans k.gl.symm) w4) w2 w5 (by rw [w3];omega)
def ms (t:ah) (g:Nat) (c:Int):Nat:=2 * ((cn t c).recv.length + (cn t c).send.length) + (if (aa t g).place=22 then 1 else 0)
theorem ZJ (k6:(Sx.ag s g).kind=6) (ec:(Sx.ag s g).ch=c):∀ (n:Nat) (t:ah),Ok t g→Jn s t g c→ms t g c≤n→lT g (fun t=>Kd s t g c∧(aa t g).ak=[]∧Ok t g) (n + 10) t:=by
 intro n
 induction n with
 | zero =>
  intro t o j l;have A:=OI o.fX.toMInv o.hg (by rw [j.op];exact k6);rw [j.op,ec] at A;have p:=j.pl;unfold ms at l
  by_cases e:(aa t g).place=22
  ·rw [if_pos e] at l;omega
  ·have:=(A (.inr (p.resolve_left e))).2.m;omega
 | succ n ih =>
  intro t o j l;have h':=o.fX.toMInv;have kt:(Sx.ag t g).kind=6:=by rw [j.op];exact k6
  by_cases z:(aa t g).place=22∧(cn t c).recv.length + (cn t c).send.length=0
  ·obtain ⟨e,z⟩:=z;have hm:=Sx.m9.2 (h'.kn o.hg (by omega) (by omega));have hc:Sx.common t g=(t,false):=by
    unfold Sx.common;dsimp only;rw [az,az,az,az,az,az]
   have hs:cj t g=(aG t g 16,true):=by
    unfold Sx.cj;simp only;rw [az,hc,if_neg (by simp),if_neg (by rw [hm];simp),az,if_pos e,j.op,ec,az,az]
   have gg:aa (aG t g 16) g={ aa t g with place:=16 }:=by unfold aG;rw [fj o.hg,if_pos rfl]
   have T:=o.to;refine .inr ⟨by omega,o,by rw [hs],?_⟩;rw [hs] at T ⊢;have K:=j.kd o.hg (List.length_eq_zero_iff.1 (by omega)) (List.length_eq_zero_iff.1 (by omega));exact lT.mono (fun _ h=>h) (by omega) (ZI k6 ec _ (T eV (by rw [gg])) K (by rw [gg]))
  ·have A:=OI h' o.hg kt;rw [j.op,ec] at A;have A:=A (j.pl.imp (fun e=>⟨e,by omega⟩) id);have T:=o.to A.2.gl (A.2.sg g);have m:=A.2.m;refine .inr ⟨by have:=j.pl;omega,o,A.1,?_⟩;unfold ms at l;exact ih _ T (j.AL A.2) (by unfold ms;omega)
structure Shut (s t:ah) (g:Nat) (c:Int):Prop where
 gl:t.gs.length=s.gs.length
 cl:t.au.length=s.au.length
 sl:t.aB.length=s.aB.length
 res:(aa t g).res=gj
 qZ:(cn t c).closed=true
 ri:(cn t c).buf=(cn s c).buf
 rq:(cn t c).recv=[]
 sq:(cn t c).send=[]
 lk:(cn t c).lock=-1
 pl:(aa t g).place=18
 w:∀ i,i∈(cn s c).recv∨i∈(cn s c).send→(aa s (su s i).g.toNat).aU=true ∨
  0≤(aa t (su s i).g.toNat).param∧(aa t (su s i).g.toNat).param < t.aB.length∧(su t (aa t (su s i).g.toNat).param).done=false∧(su t (aa t (su s i).g.toNat).param).ch=c∧(aa t (su s i).g.toNat).bE=s.step∧(aa t (su s i).g.toNat).status=0∧((aa s (su s i).g.toNat).status=0→(aa t (su s i).g.toNat).token=true)
theorem ZK (o:Ok s g) (k6:(Sx.ag s g).kind=6) (ec:(Sx.ag s g).ch=c) (e:(aa s g).place=21) (cl:(cn s c).closed=false):lT g (fun t=>Ok t g∧((aa t g).place=18→Shut s t g c)) 299 s:=by
 have h':=o.fX.toMInv;have m:=h'.kn o.hg (by omega) (by omega);have hm:=Sx.m9.2 m;rw [ec] at m;have hc:Sx.common s g=(s,false):=by
  unfold Sx.common;dsimp only;rw [az,az,az,az,az,az]
 have hs:cj s g=(br (aA s c { cn s c with closed:=true }) g gj 22,true):=by
  unfold Sx.cj;simp only;rw [az,hc,if_neg (by simp),if_neg (by rw [hm];simp),if_pos e,ec,if_neg (by rw [cl];simp)]
 have gg:∀ h,aa (br (aA s c { cn s c with closed:=true }) g gj 22) h=if h=g then { aa s g with bE:=s.step,res:=gj,place:=22 } else aa s h:=fun h=>fj (s:=aA s c { cn s c with closed:=true }) o.hg
 have g1:=gg g;rw [if_pos rfl] at g1;have gp:∀ h,(aa (br (aA s c { cn s c with closed:=true }) g gj 22) h).aU=(aa s h).aU∧(aa (br (aA s c { cn s c with closed:=true }) g gj 22) h).status=(aa s h).status:=fun h=>by
  rw [gg];split
  ·rename_i z;rw [z];exact ⟨rfl,rfl⟩
  ·exact ⟨rfl,rfl⟩
 have cc:cn (br (aA s c { cn s c with closed:=true }) g gj 22) c={ cn s c with closed:=true }:=Du m.1 m.2;have ll:(br (aA s c { cn s c with closed:=true }) g gj 22).gs.length=s.gs.length:=eV;have lc:(br (aA s c { cn s c with closed:=true }) g gj 22).au.length=s.au.length:=by show (List.set _ _ _).length=_;rw [List.length_set]
 have es:∀ i,su (br (aA s c { cn s c with closed:=true }) g gj 22) i=su s i:=fun _=>rfl
 have eo:Sx.ag (br (aA s c { cn s c with closed:=true }) g gj 22) g=Sx.ag s g:=by unfold Sx.ag;rw [g1]
 have el:(br (aA s c { cn s c with closed:=true }) g gj 22).aB.length=s.aB.length:=rfl;have et:(br (aA s c { cn s c with closed:=true }) g gj 22).step=s.step:=rfl;have nd:=Inv.nd h'.v c m.1 m.2;have q:=fun i (hi:i∈(cn s c).recv∨i∈(cn s c).send)=>Inv.q h'.v c m.1 m.2 i hi
 have r1:=Fl.uo (n:=s.aB.length) nd.1 (fun a ha=>⟨(q a (.inl ha)).1,(q a (.inl ha)).2.1⟩);have r2:=Fl.uo (n:=s.aB.length) nd.2 (fun a ha=>⟨(q a (.inr ha)).1,(q a (.inr ha)).2.1⟩);have mw:=h'.mw;have T:=o.to;refine .inr ⟨by omega,o,by rw [hs],?_⟩;rw [hs] at T ⊢;have T:=T ll (gp g).2;dsimp only at T ⊢;generalize br (aA s c { cn s c with closed:=true }) g gj 22=s1 at *;have A:=ZJ (s:=s1) (g:=g) (c:=c) (by rw [eo];exact k6) (by rw [eo];exact ec) 257 s1 T (Jn.vQ (.inl (by rw [g1]))) (by unfold ms;rw [cc];dsimp only;split <;> omega);refine A.mono (fun t ht=>?_) (by omega);obtain ⟨k,w,ok⟩:=ht;refine ⟨ok,fun AM=>?_⟩;refine ⟨k.gl.trans ll,k.cl.trans lc,k.sl.trans el,by rw [k.res,g1],by rw [k.qZ,cc],by rw [k.ri,cc],k.rq,k.sq,k.lk.resolve_left (by omega),AM,fun i hi=>?_⟩;have kw:=k.w i (by rw [cc];exact hi);rw [es] at kw;rcases kw with kw | kw
 ·rw [(gp _).1] at kw;exact .inl kw
 ·have f:=kw.fin;rw [w,(gp _).2] at f;refine .inr ⟨kw.p0,kw.p1,kw.dn,kw.ch,kw.pt.trans et,?_⟩;exact f.resolve_left (fun z=>by cases z.1)
end
end Sx
end Go.Proofs.YtdjhhbpedllnhaaGreat
