/-
  What the laws need, part A21.
  Conditions: none.
-/
import Derived.Test.YtofnbflkhgammaaGreatA20
import Derived.Laws.StructEq
set_option linter.unusedVariables false
set_option linter.unusedSimpArgs false
set_option linter.unnecessarySimpa false
set_option maxHeartbeats 2000000
namespace Go.Proofs.YtofnbflkhgammaaGreat
open Go.RowKit
namespace Fl
open Sx
section
variable {α:Type} {E:World→List Value→α→List Nat→Prop} {enc:α→List A}
def Is (enc:α→List A) (E:World→List Value→α→List Nat→Prop):Prop :=
 ∀ (ok:Nat→Prop) (w:World) (cs:List Value) (a:α),RC ok w (enc a) cs→∃ U,E w cs a U∧∀ x∈U,ok x∧x < w.heap.size
theorem Is.parts (h:Is enc E) {ok:Nat→Prop} {w:World} {sz:Nat}:∀ {l:List α} {xs:List Value},RX ok w sz (l.map enc) xs→∃ S,qu E sz w xs l S∧∀ x∈S,ok x∧x < w.heap.size
 | [],xs,r=>⟨[],fun k a hk=>by simp at hk,by simp⟩
 | a :: l,xs,r=>by
  obtain ⟨vs,ys,rfl,h2,h3,h4⟩:=r;obtain ⟨U,u1,u2⟩:=h ok w vs a h3;obtain ⟨S,s1,s2⟩:=Is.parts h h4;refine ⟨U ++ S,fun k b hk=>?_,fun x hx=>(List.mem_append.1 hx).elim (u2 x) (s2 x)⟩
  cases k with
  | zero =>
   simp at hk;subst hk;refine ⟨U,?_,fun x hx=>List.mem_append_left _ hx⟩;have:chunk (vs ++ ys) sz 0=vs:=by unfold chunk;simp [← h2]
   rw [this];exact u1
  | succ k =>
   simp at hk;obtain ⟨V,v1,v2⟩:=s1 k b hk;refine ⟨V,?_,fun x hx=>List.mem_append_right _ (v2 x hx)⟩;have:chunk (vs ++ ys) sz (k + 1)=chunk ys sz k:=by
    unfold chunk;rw [show (k + 1) * sz=vs.length + k * sz by rw [h2,Nat.add_mul];omega,List.drop_length_add_append]
   rw [this];exact v1
theorem RA.jD {ok:Nat→Prop} {w:World} {sz:Nat} {l:List (List A)} {x:Value} (h:RA ok w (.r sz l) x):∃ ys S,View w x sz l.length ys S∧RX ok w sz l ys∧∀ g∈S,ok g∧g < w.heap.size:=by
 obtain ⟨ys,S,v1,v2,v3⟩:=h.view;exact ⟨ys,S,v1,v2,fun g hg=>⟨v3 g hg,v1.lt g hg⟩⟩
theorem Is.gv (h:Is enc E) {ok:Nat→Prop} {w:World} {sz:Nat} {l:List α} {v:Value} (r:RA ok w (.r sz (l.map enc)) v):∃ S,GV E sz w v l S∧∀ x∈S,ok x∧x < w.heap.size:=by
 obtain ⟨ys,T,v1,v2,v3⟩:=r.jD;rw [List.length_map] at v1;obtain ⟨S,s1,s2⟩:=h.parts v2;exact ⟨T ++ S,⟨ys,T,v1,s1.mono fun x hx=>List.mem_append_right _ hx,fun x hx=>List.mem_append_left _ hx,fun x hx=>(List.mem_append.1 hx).elim (fun h=>(v3 x h).2) (fun h=>(s2 x h).2),v2.one⟩,fun x hx=>(List.mem_append.1 hx).elim (v3 x) (s2 x)⟩
theorem Is.row (h:Is enc E) {sz:Nat}:Is (fun l:List α=>[A.r sz (l.map enc)]) (pF E sz):=fun ok w cs l r=>by
 unfold RC at r;obtain ⟨x,xs,rfl,r1,r2⟩:=r;unfold RC at r2;subst r2;obtain ⟨S,s1,s2⟩:=h.gv r1;exact ⟨S,⟨x,rfl,s1⟩,s2⟩
end
theorem RC.c1 {ok:Nat→Prop} {w:World} {v:Value} {eP:List A} {cs:List Value} (h:RC ok w (.v v :: eP) cs):∃ ys,cs=v :: ys∧RC ok w eP ys:=by
 unfold RC at h;obtain ⟨x,xs,rfl,h1,h2⟩:=h;unfold RA at h1;exact ⟨xs,by rw [h1.1],h2⟩
theorem RC.n0 {ok:Nat→Prop} {w:World} {cs:List Value} (h:RC ok w [] cs):cs=[]:=by unfold RC at h;exact h
theorem Vz:Is sA lE:=fun ok w cs c r=>by
 obtain ⟨y1,e1,r1⟩:=RC.c1 (eP:=[nI c.ch,nI c.v]) r;obtain ⟨y2,e2,r2⟩:=r1.c1;obtain ⟨y3,e3,r3⟩:=r2.c1;have e4:=r3.n0;subst e4 e3 e2;exact ⟨[],⟨e1,rfl⟩,by simp⟩
theorem VA:Is dO wm:=fun ok w cs o r=>by
 obtain ⟨y1,e1,r1⟩:=RC.c1 (eP:=[nI o.ch,nI o.n,nI o.v,.r 3 (o.cases.map sA),bI o.de]) r;obtain ⟨y2,e2,r2⟩:=r1.c1;obtain ⟨y3,e3,r3⟩:=r2.c1;obtain ⟨y4,e4,r4⟩:=r3.c1;unfold RC at r4;obtain ⟨x,y5,e5,r5,r6⟩:=r4;obtain ⟨y6,e6,r7⟩:=r6.c1;have e7:=r7.n0;obtain ⟨S,s1,s2⟩:=Vz.gv r5;subst e7 e6 e5 e4 e3 e2;exact ⟨S,⟨x,e1,s1⟩,s2⟩
theorem VB:Is (fun l:List Pn.Op=>[A.r 6 (l.map dO)]) rL:=VA.row
theorem LY {ok:Nat→Prop} {w:World} {p:List (List Pn.Op)} {v:Value} (r:RA ok w (mM p) v):∃ S,GV rL 1 w v p S∧∀ x∈S,ok x∧x < w.heap.size:=VB.gv r
theorem bL.c {ok:Nat→Prop} {w:World} {a:A} {ds:List D} {xs:List Value} (h:bL ok w (.c a :: ds) xs):∃ x ys,xs=x :: ys∧RA ok w a x∧bL ok w ds ys:=by
 unfold bL at h;obtain ⟨x,ys,rfl,h1,h2⟩:=h;unfold RD at h1;exact ⟨x,ys,rfl,h1,h2⟩
theorem VC (p:List (List Pn.Op)):Pure Tryz.prog 119 [.c (mM p)] (.c (bI (Pn.right p))) :=
 aq.plain fun ok e xs hd=>by
  obtain ⟨v,ys,rfl,r,h⟩:=hd.c;rw [h.Et];obtain ⟨S,s1,s2⟩:=LY r;refine (Vx e v p S s1).mono ?_
  rintro en w' ⟨rfl,k⟩
  exact ⟨_,rfl,k,RD.v rfl⟩
theorem VD (p:List (List Pn.Op)):Pure Tryz.prog 122 [.c (mM p)] (.c (bI (Pn.right p))) :=
 aq.plain fun ok e xs hd=>by
  obtain ⟨v,ys,rfl,r,h⟩:=hd.c;rw [h.Et];obtain ⟨S,s1,s2⟩:=LY r;refine (Vy e v p S s1).mono ?_
  rintro en w' ⟨rfl,k⟩
  exact ⟨_,rfl,k,RD.v rfl⟩
end Fl
open Go.RowKit
namespace Fl
open Sx
set_option maxRecDepth 100000
section
variable {P:Program} {c:Cx} {k:List Item} {f:Fm} {L L2:List ai} {T:TypeId} {ps:String} {af:Array Edge} {gd:Option (Nat × Bool)} {t:Nat}
theorem Ld.kr {F:FuncId} {args:List Operand} {tys:Array TypeId} {cZ ds:List D} {ι:Type} {dd:ι→D} {r:ι→ai} [i:aG P F] (hC:aq P F ds [] (fun x=>(dd x,[r x]))) (ht:t < c.N) (h:iq f args=some cZ) (hle:aL cZ ds) :
  Ld P c ⟨some t,.call ⟨.value (.func F),args.toArray,tys⟩,T,ps,af,gd⟩ f L [] (fun x=>(t,dd x) :: f) (fun x=>r x :: L) :=
 Ld.call (P:=P) (c:=c) (T:=T) (ps:=ps) (af:=af) (gd:=gd) (L:=L) (f:=f) (tys:=tys) hC ht h hle (Ll:=[]) (Lr:=L) rfl
theorem bt {r:ai} {T' L L':List ai} (i:Nat) (h:L[i]?=some r) (e:L.eraseIdx i=L') (k:T'.Perm L'):(r :: T').Perm L:=by
 subst e;exact (k.cons r).trans (rV L i h)
theorem J.LZ {Φ:World→List Nat→Prop} (ye:oK Φ) (h0:∀ w,Φ w []) (h:J P c k f (aI Φ [] :: L)):J P c k f L:=⟨fun a w s=>by
 have hf:aO (aI Φ [] :: L)=aO L:=by simp [aO,aI,ai.bM]
 have ho:bh c (aI Φ [] :: L)=bh c L:=by funext x;unfold bh;rw [hf]
 refine h.go a w ⟨s.kp,s.size,s.jT,fun q hq=>?_,fun x hx=>s.fN x (hf ▸ hx),List.pairwise_cons.2 ⟨fun q _ x hx=>by simp [aI,ai.bM] at hx,s.ap⟩,fun t d ht=>by rw [ho];exact s.fr t d ht⟩;rw [ho];rcases List.mem_cons.1 hq with rfl | hq
 ·exact (aI.holds ye).2 (h0 w)
 ·exact s.res q hq⟩
theorem J.L3 (e sz:Nat):∀ (m:Nat) {A:List ai},J P c k f (A ++ List.replicate m (.row (.slice none 0 0) e sz []))→J P c k f A
 | 0,A,h=>by simpa using h
 | m + 1,A,h=>J.L3 e sz m (J.jJ e sz (J.perm (by rw [List.replicate_succ];exact List.perm_middle) h))
end
theorem tR.none (w:World):tR [] w []:=⟨[],rfl,rfl,List.Pairwise.nil,fun i x Si h=>by simp at h⟩
theorem VE (b:Nat) (u:U) (s:Sx.St) (g:Nat) (B:List (Int × Bool)) (R:List ai) (hg:g < s.gs.length) (n1:u.sg g=.slice none 0 0) (n2:u.wk g=.slice none 0 0) :
  aq Tryz.prog 24 [.c (.v (pt b)),.c (nI g)] (wl b u s (dc u s) B R) (fun _:Unit=>(.aV [],wl b u (Sx.clear s g) (dc u (Sx.clear s g)) B R)):=by
 refine aq.intro Tryz.func24 rfl rfl rfl (fun ok e=>?_);have OW:∀ x:Int,x=g→0≤x∧x < (dc u s).length:=fun x hx=>by rw [oL];omega
 have A:=sJ (u:=u) hg;have HQ:((g:Int)).toNat < (dc u s).length:=by rw [oL];omega
 repeat (first | (refine K.indexAddr ?_;refine jq rfl rfl rfl (Qt.bF rfl rfl (OW _ rfl).1 (OW _ rfl).2) ?_) | refine gn ?_)
 refine J.draw (by kernel_rfl) rfl ?_;refine JW.base (some 24) ?_;refine tk 0 ?_;refine tk 1 ?_;refine tk 2 ?_;refine tk 3 ?_;refine JD.take 4 rfl rfl (by kernel_rfl) rfl (qb rfl) (Qt.cJ rfl A rfl) rfl ?_;refine tk 5 ?_;refine tk 6 ?_;refine tk 7 ?_;refine JD.take 8 rfl rfl (by kernel_rfl) rfl (qb rfl) (Qt.cJ rfl A rfl) rfl ?_;refine tk 9 ?_;refine tk 10 ?_;refine tk 11 ?_;refine JD.take 12 rfl rfl (by kernel_rfl) rfl (qb rfl) (Qt.cJ rfl A rfl) rfl ?_;refine tk 13 ?_;refine tk 14 ?_;refine tk 15 ?_;refine JD.take 16 rfl rfl (by kernel_rfl) rfl (qb rfl) (Qt.cJ rfl A rfl) rfl ?_;refine tk 17 ?_;refine tk 18 ?_;refine tk 19 ?_;refine JD.take 20 rfl rfl (by kernel_rfl) rfl (qb rfl) (Qt.cJ rfl A rfl) rfl ?_;refine tk 21 ?_;refine JD.take 22 rfl rfl (by kernel_rfl) rfl (qb rfl) (Qt.le (.agg (gW (gu (Sx.gr s g)) (.slice none 0 0) (.slice none 0 0))) (Qt.build rfl (by kernel_rfl)) (.agg (by repeat (first | exact .nil | refine .cons .refl ?_ | refine .cons .nil ?_)))) rfl ?_;refine tk 23 ?_;refine jt 24 rfl rfl (Ld.fO rfl rfl rfl rfl HQ) (fun _=>?_);refine bJ ?_;have h1:dc u (Sx.clear s g)=(dc u s).set g (gW (gu (Sx.gr s g)) (.slice none 0 0) (.slice none 0 0)):=by
  have:=Ew (u:=u) (x:=gu (Sx.gr s g)) hg;rw [n1,n2] at this;exact this.symm
 refine J.dZ (show wl b u (Sx.clear s g) (dc u (Sx.clear s g)) B R=wl b u s ((dc u s).set g (gW (gu (Sx.gr s g)) (.slice none 0 0) (.slice none 0 0))) B R by rw [h1];rfl) ?_
 (exact J.jI Tryz.func24 rfl .nil () (by exact .refl) rfl)
def zG (ops:List Pn.Op):Gr:=⟨ops,0,0,0,false,0,false,0,0,0,0,0,0,0,0,⟨0,0,0,false,0⟩,[],[],[],[],0⟩
def nS (p:List (List Pn.Op)) (sn cn:Nat) (d:List Int) (k:Nat):Sx.St:={ Sx.start p sn cn d with gs:=(p.take k).map (clean · 0) }
theorem FF {p:List (List Pn.Op)} (h:Pn.right p=true):1≤p.length∧p.length≤8∧∀ ops∈p,ops.length≤16∧∀ o∈ops,o.cases.length≤6:=by
 unfold Pn.right at h;rw [decide_eq_true_iff] at h;refine ⟨h.1,h.2.1,fun ops ho=>?_⟩;have h2:=h.2.2 ops ho;unfold Pn.kD at h2;rw [decide_eq_true_iff] at h2;refine ⟨h2.1,fun o rj=>?_⟩;have h3:=h2.2 o rj;unfold Pn.c7 at h3;rw [decide_eq_true_iff] at h3;exact h3.2.2.2.2.2.2.2.2.1
theorem yZ (b:Nat) (u:U) (p:List (List Pn.Op)) (sn cn:Nat) (d:List Int) (B:List (Int × Bool)) (hH:u.H=List.replicate sn false):wl b u (nS p sn cn d 0) [] B [] =
  [.box b 81 [nI sn,nI cn,nI 0,.v u.vG,.v u.pB,.v u.vR,.v u.vC,.v u.pL,.v u.pQ,.v u.vS,.v u.pP,.v (pt u.bD),kE d,.v u.vM],
   .row u.vG 47 25 [],.row u.vR 110 1 [],.row u.vC 4 1 [],
   .row u.vS 52 7 (List.replicate sn (vs [.bool false,.int .i64 0,.int .i64 0,.int .i64 0,.bool false,.int .i64 0,.bool false])),.row u.vM 54 13 [],
   .box u.bD 145 [kE d,nI 0],aI (tB u.pB B) u.TB,aI (tL u.pL []) u.TL,aI (tQ u.pQ sn (List.replicate 16 [])) u.TQ,aI (tP u.pP sn cn (Po.new sn p.length)) u.TP,aI (tR []) u.TR]:=by
 have e1:(nS p sn cn d 0).aB.map eS=List.replicate sn (vs [.bool false,.int .i64 0,.int .i64 0,.int .i64 0,.bool false,.int .i64 0,.bool false]):=by
  simp [nS,Sx.start,List.map_replicate,eS,eI,nI,bI,vs]
 have e2:fD u (nS p sn cn d 0)=Po.new sn p.length:=by
  unfold fD Po.new;rw [hH];have:(nS p sn cn d 0).cache=List.replicate p.length []:=by simp [nS,Sx.start,List.map_const']
  rw [this];rfl
 have e3:(nS p sn cn d 0).aB.length=sn:=by simp [nS,Sx.start]
 unfold wl;rw [e1,e2,e3];rfl
@[reducible] def uN (u:U) (v:Value):U:={ u with vG:=v,sg:=fun _=>.slice none 0 0,wk:=fun _=>.slice none 0 0 }
theorem L4 (p:List (List Pn.Op)) (sn cn:Nat) (d:List Int) {k:Nat} (hk:k≤p.length):(nS p sn cn d k).gs.length=k:=by simp [nS];omega
def mS (p:List (List Pn.Op)) (sn cn:Nat) (d:List Int) (k:Nat) (ops:List Pn.Op):Sx.St:={ Sx.start p sn cn d with gs:=(p.take k).map (clean · 0) ++ [zG ops] }
theorem VF (u:U) (v:Value) (p:List (List Pn.Op)) (sn cn:Nat) (d:List Int) {k:Nat} (hk:k < p.length) (ops:List Pn.Op):dc (uN u v) (mS p sn cn d k ops)=dc (uN u v) (nS p sn cn d k) ++ [gW (zG ops) (.slice none 0 0) (.slice none 0 0)]:=by
 have hl:((p.take k).map (clean · 0)).length=k:=by simp;omega
 have h1:(mS p sn cn d k ops).gs.length=k + 1:=by simp [mS];omega
 unfold dc;rw [h1,L4 p sn cn d (by omega),List.range_succ,List.map_append,List.map_cons,List.map_nil]
 congr 1
 ·refine List.map_congr_left fun j hj=>?_
  have hj:j < k:=by simpa using hj
  have:Sx.gr (mS p sn cn d k ops) j=Sx.gr (nS p sn cn d k) j:=by
   unfold Sx.gr;rw [List.getD_eq_getElem?_getD,List.getD_eq_getElem?_getD]
   show (((p.take k).map (clean · 0) ++ [zG ops])[j]?).getD _=(((p.take k).map (clean · 0))[j]?).getD _;rw [List.getElem?_append_left (by omega)]
  rw [this]
 ·have:Sx.gr (mS p sn cn d k ops) k=zG ops:=by
   unfold Sx.gr;rw [List.getD_eq_getElem?_getD]
   show (((p.take k).map (clean · 0) ++ [zG ops])[k]?).getD _=_;rw [List.getElem?_append_right (by omega),hl];simp
  rw [this]
theorem VG (p:List (List Pn.Op)) (sn cn:Nat) (d:List Int) {k:Nat} (ops:List Pn.Op) (ho:p[k]?=some ops):Sx.clear (mS p sn cn d k ops) k=nS p sn cn d (k + 1):=by
 have hk:=(List.getElem?_eq_some_iff.1 ho).1;have hl:((p.take k).map (clean · 0)).length=k:=by simp;omega
 have:Sx.gr (mS p sn cn d k ops) k=zG ops:=by
  unfold Sx.gr;rw [List.getD_eq_getElem?_getD]
  show (((p.take k).map (clean · 0) ++ [zG ops])[k]?).getD _=_;rw [List.getElem?_append_right (by omega),hl];simp
 unfold Sx.clear;rw [this];unfold Sx.aa nS;have e:(mS p sn cn d k ops).gs.set k (gu (zG ops))=(p.take (k + 1)).map (clean · 0):=by
  show ((p.take k).map (clean · 0) ++ [zG ops]).set k _=_;rw [List.set_append_right _ _ (by omega),hl,List.take_add_one,ho,List.map_append];simp [gu,zG,clean]
 rw [e];rfl
theorem VH (u:U) (v:Value) (p:List (List Pn.Op)) (sn cn:Nat) (d:List Int):fE (uN u v) (Sx.start p sn cn d)=List.replicate (p.length + p.length) (.row (.slice none 0 0) 3 1 []):=by
 have hl:(Sx.start p sn cn d).gs.length=p.length:=by simp [Sx.start]
 have h:∀ j,j < p.length→(Sx.gr (Sx.start p sn cn d) j).ak=[]∧(Sx.gr (Sx.start p sn cn d) j).ah=[]:=fun j hj=>by
  have:Sx.gr (Sx.start p sn cn d) j=clean p[j] 0:=by
   unfold Sx.gr;rw [List.getD_eq_getElem?_getD]
   show ((p.map (clean · 0))[j]?).getD _=_;rw [List.getElem?_map,List.getElem?_eq_getElem hj];rfl
  rw [this];exact ⟨rfl,rfl⟩
 unfold fE;rw [hl,← List.replicate_append_replicate]
 congr 1
 ·refine List.eq_replicate_iff.2 ⟨by simp,fun x hx=>?_⟩;obtain ⟨j,hj,rfl⟩:=List.mem_map.1 hx;rw [(h j (by simpa using hj)).1];rfl
 ·refine List.eq_replicate_iff.2 ⟨by simp,fun x hx=>?_⟩;obtain ⟨j,hj,rfl⟩:=List.mem_map.1 hx;rw [(h j (by simpa using hj)).2];rfl
theorem VI (p:List (List Pn.Op)) (sn cn:Nat) (d:List Int) (h:p.length≤8):Bc.gR p.length=(Sx.start p sn cn d).gs.map fun x=>(x.status,x.token):=by
 unfold Bc.gR;rw [show (max 0 (min (p.length:Int) 4096)).toNat=p.length by omega];simp [Sx.start,List.map_map,Function.comp_def,clean,List.map_const']
theorem VJ (p:List (List Pn.Op)) (sn cn:Nat) (d:List Int):nS p sn cn d p.length=Sx.start p sn cn d:=by
 unfold nS;rw [List.take_of_length_le (Nat.le_refl _)];rfl
theorem VK (p:List (List Pn.Op)) (sn cn:Nat) (d:List Int) (hr:Pn.right p=true) (hs:sn≤64) (h1:1≤cn) (h2:cn≤16) (hd:d.length≤100000) :
    aq Tryz.prog 48 [.c (mM p),.agg [nI sn,nI cn],.c (kE d)] [] (fun x:Nat × U=>(.aV [.c (.v (pt x.1)),.c (nI 0)],wd x.1 x.2 (Sx.start p sn cn d))):=by
  obtain ⟨r1,r2,r3⟩:=FF hr;have CR:=VC p;rw [hr] at CR;have CP:=Sn sn p.length cn hs r2 h1 h2;have CQ:=Jx sn 16 hs (by omega);have CC:=Ez p (by omega) (fun ops ho=>⟨by have:=(r3 ops ho).1;omega,fun o rj=>by have:=(r3 ops ho).2 o rj;omega⟩);have CL:=Jt 0;rw [show Lt.gR 0=[] by decide] at CL;have CB:=Jr (p.length:Int);have CD:=JG d hd;refine aq.intro Tryz.func48 rfl rfl rfl (fun ok e=>?_)
  repeat (first
      | (refine K.fieldAddr ?_;refine JO.q rfl rfl (qb rfl) (Qt.fieldAddr rfl rfl) ?_)
      | (refine K.load ?_;(refine JO.q rfl rfl (qb rfl) (Qt.iC rfl (by exact rfl)) ?_))
      | (refine K.move ?_;refine JO.q rfl rfl (qb rfl) (Qt.move rfl) ?_)
      | (refine K.assign ?_;refine JO.q rfl rfl (qb rfl) (Qt.assign rfl) ?_)
      | (refine K.binOp ?_;(refine JO.q rfl rfl (qb rfl) (Qt.cmp rfl rfl rfl) ?_))
      | (refine K.call ?_;first | refine ei (CR) ?_ | (refine JO.ld (Ld.kr CP (qb rfl) rfl (.cons .refl (.cons .refl (.cons .refl .nil)))) rfl ?_;intro xP) | (refine JO.ld (Ld.kr CQ (qb rfl) rfl (.cons .refl (.cons .refl .nil))) rfl ?_;intro xQ))
      | (refine K.unOp ?_;refine JO.q rfl rfl (qb rfl) (Qt.not rfl) ?_)
      | (refine K.bi ?_;(refine JO.q rfl rfl (qb rfl) (Qt.jX rfl) ?_))
      | (refine K.extract ?_;refine JO.q rfl rfl (qb rfl) (Qt.extract rfl rfl) ?_)
      | (refine JO.box rfl (qb rfl) rfl rfl ?_;intro _)
      | refine JO.nil ?_
      | refine J.seq ?_
      | refine J.region ?_
      | refine J.skip ?_
      | refine J.ez rfl ?_)
  refine J.join (ι:=Nat × U) (fun x=>[(11,.c (.v (pt x.1))),(0,.c (mM p))]) (fun x=>wl x.1 (uN x.2 (.slice none 0 0)) (nS p sn cn d 0) [] (Bc.gR p.length) []) (fun x=>?rest) (fun rest=>?_)
  case rest =>
    obtain ⟨b,u⟩:=x
    repeat (first
        | (refine K.move ?_;refine JO.q rfl rfl (qb rfl) (Qt.move rfl) ?_)
        | refine ei (CC) ?_
        | (refine K.bi ?_;(refine JO.q rfl rfl (qb rfl) (Qt.jX rfl) ?_))
        | refine JO.nil ?_
        | refine J.seq ?_
        | refine J.region ?_
        | refine J.block ?_)
    refine J.loop (ι:={ q:Nat × Value // q.1≤p.length }) (fun q=>[(58,.c (nI q.1.1)),(57,.c (nI p.length)),(56,.c (mM p)),(11,.c (.v (pt b)))]) (fun q=>wl b (uN u q.1.2) (nS p sn cn d q.1.1) (dc (uN u q.1.2) (nS p sn cn d q.1.1)) (Bc.gR p.length) []) (fun q=>p.length - q.1.1) ⟨(0,.slice none 0 0),Nat.zero_le _⟩ (fun X h=>h.aU ⟨rfl,rfl,rfl,rfl,trivial⟩) (fun q ih=>?_);obtain ⟨⟨k,v⟩,hk⟩:=q;simp only at hk ih ⊢
    by_cases aR:k < p.length
    · have t1:(decide ((k:Int) < (p.length:Int)))=true:=by simpa using aR
      obtain ⟨ops,ho⟩:∃ ops,p[k]?=some ops:=⟨_,List.getElem?_eq_getElem aR⟩
      have J1:(p.map fun ops=>[A.r 6 (ops.map dO)])[((k:Int)).toNat]?=some [A.r 6 (ops.map dO)]:=by rw [Int.toNat_natCast,List.getElem?_map,ho];rfl
      have zY:(dc (uN u v) (nS p sn cn d k)).length=k:=by rw [oL,L4 p sn cn d hk]
      repeat (first
          | (refine K.fieldAddr ?_;refine JO.q rfl rfl (qb rfl) (Qt.fieldAddr rfl rfl) ?_)
          | (refine K.load ?_;first | refine JO.q rfl rfl (qb rfl) (Qt.lN rfl .el rfl) ?_ | refine JO.q rfl rfl (qb rfl) (Qt.iC rfl (by exact rfl)) ?_)
          | (refine K.move ?_;refine JO.q rfl rfl (qb rfl) (Qt.move rfl) ?_)
          | (refine K.store ?_;(refine JO.ld (Ld.cG rfl rfl (by exact rfl)) rfl (fun _=>?_)))
          | (refine K.assign ?_;refine JO.q rfl rfl (qb rfl) (Qt.assign rfl) ?_)
          | (refine K.indexAddr ?_;refine JO.q rfl rfl (qb rfl) (Qt.cq rfl rfl (by omega) (J1)) ?_)
          | (refine K.binOp ?_;(refine JO.q rfl rfl (qb rfl) (Qt.cmp rfl rfl (congrArg some t1)) ?_))
          | (refine K.build ?_;(refine JO.q rfl rfl (qb rfl) ((Qt.le (.agg (gW (zG ops) (.slice none 0 0) (.slice none 0 0))) (Qt.build rfl (by kernel_rfl)) (.agg (by repeat (first | exact .nil | refine .cons .refl ?_ | refine .cons .nil ?_))))) ?_))
          | (refine K.lit ?_;(refine JO.ff rfl (qb rfl) rfl rfl rfl rfl rfl ?_;intro _))
          | (refine K.nilCheck ?_;refine JO.q rfl rfl (qb rfl) (Qt.nilCheck rfl rfl) ?_)
          | (refine K.bi ?_;((refine JO.ld (Ld.bY (qb rfl) rfl rfl .cR (by (simp;omega))) rfl (fun _=>?_))))
          | refine JO.nil ?_
          | refine J.seq ?_
          | refine J.region ?_
          | refine J.block ?_
          | refine J.skip ?_
          | refine J.eN rfl ?_)
      rename_i bl v2 _;have CK:=VE b (uN u v2) (mS p sn cn d k ops) k (Bc.gR p.length) [.row (.slice (some ⟨bl,0,none⟩) 1 1) 47 25 [gW (zG ops) (.slice none 0 0) (.slice none 0 0)]] (by simp [mS];omega) rfl rfl;rw [VG p sn cn d ops ho,VF u v2 p sn cn d aR] at CK;refine JO.ld (Ld.perm ?_ (Ld.AO CK (qb rfl) rfl (.cons .refl (.cons .refl .nil)))) rfl ?_
      · repeat (first | exact List.Perm.refl _ | refine bt 0 rfl rfl ?_ | refine bt 1 rfl rfl ?_ | refine bt 2 rfl rfl ?_)
      intro _
      repeat (first
          | (refine K.move ?_;refine JO.q rfl rfl (qb rfl) (Qt.move rfl) ?_)
          | (refine K.binOp ?_;(refine JO.q rfl rfl (qb rfl) (Qt.cP rfl rfl rfl (fJ (by omega) (by omega))) ?_))
          | refine JO.nil ?_
          | refine J.region ?_
          | refine J.inBlock ?_)
      refine J.eF 12 ?_;exact (ih ⟨(k + 1,v2),by simp only;omega⟩ (by simp only;omega)).aU ⟨rfl,rfl,rfl,rfl,trivial⟩
    · have t1:(decide ((k:Int) < (p.length:Int)))=false:=by simpa using aR
      obtain rfl:k=p.length:=by omega
      repeat (first
          | (refine K.move ?_;refine JO.q rfl rfl (qb rfl) (Qt.move rfl) ?_)
          | (refine K.assign ?_;refine JO.q rfl rfl (qb rfl) (Qt.assign rfl) ?_)
          | (refine K.binOp ?_;(refine JO.q rfl rfl (qb rfl) (Qt.cmp rfl rfl (congrArg some t1)) ?_))
          | refine JO.nil ?_
          | refine J.seq ?_
          | refine J.region ?_
          | refine J.exit rfl ?_
          | refine J.ez rfl ?_)
      refine J.L3 3 1 (p.length + p.length) ?_;rw [VJ,VI p sn cn d r2,← VH u v p sn cn d]
      (exact J.kJ Tryz.func48 rfl (.cons (.tmp rfl) (.cons (.tmp rfl) .nil)) (b,uN u v) (by (exact .refl)) rfl)
  refine J.draw (by kernel_rfl) rfl ?_;refine JW.base none ?_
  (refine JD.take 0 rfl rfl (by kernel_rfl) rfl (qb rfl) (Qt.fB rfl (by exact rfl)) rfl ?_)
  refine JD.take 1 rfl rfl (by kernel_rfl) rfl (qb rfl) (Qt.move rfl) rfl ?_
  (refine JD.take 2 rfl rfl (by kernel_rfl) rfl (qb rfl) (Qt.jX rfl) rfl ?_)
  refine JD.take 5 rfl rfl (by kernel_rfl) rfl (qb rfl) (Qt.move rfl) rfl ?_;refine JD.take 6 rfl rfl (by kernel_rfl) rfl (qb rfl) (Qt.fieldAddr rfl rfl) rfl ?_
  (refine JD.take 7 rfl rfl (by kernel_rfl) rfl (qb rfl) (Qt.iC rfl (by exact rfl)) rfl ?_)
  refine JD.take 9 rfl rfl (by kernel_rfl) rfl (qb rfl) (Qt.move rfl) rfl ?_;refine JD.take 10 rfl rfl (by kernel_rfl) rfl (qb rfl) (Qt.move rfl) rfl ?_;refine JD.take 12 rfl rfl (by kernel_rfl) rfl (qb rfl) (Qt.move rfl) rfl ?_;refine JD.cB (i:=3) (j:=8) (by kernel_rfl) ?_ ?_;refine JS.bp rfl rfl rfl (qb rfl) (Ld.kr CB (qb rfl) rfl (.cons .refl .nil)) (by (exact .none)) (fun _=>?_);refine JD.cB (i:=4) (j:=8) (by kernel_rfl) ?_ ?_;refine JS.bp rfl rfl rfl (qb rfl) (Ld.kr CL (qb rfl) rfl (.cons .refl .nil)) (by (exact .none)) (fun _=>?_);refine JD.cB (i:=8) (j:=11) (by kernel_rfl) ?_ ?_;refine JS.bp rfl rfl rfl (qb rfl) (Ld.make sn (qb rfl) rfl rfl rfl (by omega)) (by (exact .none)) (fun _=>?_);refine JD.bk (i:=11) (by kernel_rfl) ?_;refine JS.bp rfl rfl rfl (qb rfl) (Ld.kr CD (qb rfl) rfl (.cons .refl .nil)) (by (exact .none)) (fun _=>?_);refine JD.bk (i:=13) (by kernel_rfl) ?_;refine JS.bp rfl rfl rfl (qb rfl) (Ld.gE (qb rfl) rfl rfl .read (by (simp;omega))) (by (exact .none)) (fun _=>?_);refine JD.bk (i:=14) (by kernel_rfl) ?_;refine JS.q rfl rfl rfl (qb rfl) (Qt.build rfl (by kernel_rfl)) ?_;refine JD.bk (i:=15) (by kernel_rfl) ?_;refine JS.bp rfl rfl rfl (qb rfl) (Ld.box (qb rfl) rfl rfl) (by (exact .none)) (fun _=>?_);refine JD.bk (i:=16) (by kernel_rfl) ?_;refine JS.q rfl rfl rfl (qb rfl) (Qt.assign rfl) ?_;refine JD.done (by kernel_rfl) ?_
  rotate_left
  refine JS.bp rfl rfl rfl (qb rfl) (Ld.kr CD (qb rfl) rfl (.cons .refl .nil)) (by (exact .none)) (fun _=>?_);refine JD.cB (i:=8) (j:=13) (by kernel_rfl) ?_ ?_;refine JS.bp rfl rfl rfl (qb rfl) (Ld.make sn (qb rfl) rfl rfl rfl (by omega)) (by (exact .none)) (fun _=>?_);refine JD.bk (i:=13) (by kernel_rfl) ?_;refine JS.bp rfl rfl rfl (qb rfl) (Ld.gE (qb rfl) rfl rfl .read (by (simp;omega))) (by (exact .none)) (fun _=>?_);refine JD.bk (i:=14) (by kernel_rfl) ?_;refine JS.q rfl rfl rfl (qb rfl) (Qt.build rfl (by kernel_rfl)) ?_;refine JD.bk (i:=15) (by kernel_rfl) ?_;refine JS.bp rfl rfl rfl (qb rfl) (Ld.box (qb rfl) rfl rfl) (by (exact .none)) (fun _=>?_);refine JD.bk (i:=16) (by kernel_rfl) ?_;refine JS.q rfl rfl rfl (qb rfl) (Qt.assign rfl) ?_;refine JD.done (by kernel_rfl) ?_
  rotate_left
  refine JS.bp rfl rfl rfl (qb rfl) (Ld.gE (qb rfl) rfl rfl .read (by (simp;omega))) (by (exact .none)) (fun _=>?_);refine JD.bk (i:=8) (by kernel_rfl) ?_;refine JS.bp rfl rfl rfl (qb rfl) (Ld.make sn (qb rfl) rfl rfl rfl (by omega)) (by (exact .none)) (fun _=>?_);refine JD.bk (i:=14) (by kernel_rfl) ?_;refine JS.q rfl rfl rfl (qb rfl) (Qt.build rfl (by kernel_rfl)) ?_;refine JD.bk (i:=15) (by kernel_rfl) ?_;refine JS.bp rfl rfl rfl (qb rfl) (Ld.box (qb rfl) rfl rfl) (by (exact .none)) (fun _=>?_);refine JD.bk (i:=16) (by kernel_rfl) ?_;refine JS.q rfl rfl rfl (qb rfl) (Qt.assign rfl) ?_;refine JD.done (by kernel_rfl) ?_
  rotate_left
  refine JS.bp rfl rfl rfl (qb rfl) (Ld.make sn (qb rfl) rfl rfl rfl (by omega)) (by (exact .none)) (fun _=>?_);refine JD.bk (i:=4) (by kernel_rfl) ?_;refine JS.bp rfl rfl rfl (qb rfl) (Ld.kr CL (qb rfl) rfl (.cons .refl .nil)) (by (exact .none)) (fun _=>?_);refine JD.bk (i:=11) (by kernel_rfl) ?_;refine JS.bp rfl rfl rfl (qb rfl) (Ld.kr CD (qb rfl) rfl (.cons .refl .nil)) (by (exact .none)) (fun _=>?_);refine JD.bk (i:=13) (by kernel_rfl) ?_;refine JS.bp rfl rfl rfl (qb rfl) (Ld.gE (qb rfl) rfl rfl .read (by (simp;omega))) (by (exact .none)) (fun _=>?_);refine JD.bk (i:=14) (by kernel_rfl) ?_;refine JS.q rfl rfl rfl (qb rfl) (Qt.build rfl (by kernel_rfl)) ?_;refine JD.bk (i:=15) (by kernel_rfl) ?_;refine JS.bp rfl rfl rfl (qb rfl) (Ld.box (qb rfl) rfl rfl) (by (exact .none)) (fun _=>?_);refine JD.bk (i:=16) (by kernel_rfl) ?_;refine JS.q rfl rfl rfl (qb rfl) (Qt.assign rfl) ?_;refine JD.done (by kernel_rfl) ?_
  rotate_left
  refine JS.bp rfl rfl rfl (qb rfl) (Ld.make sn (qb rfl) rfl rfl rfl (by omega)) (by (exact .none)) (fun _=>?_);refine JD.bk (i:=3) (by kernel_rfl) ?_;refine JS.bp rfl rfl rfl (qb rfl) (Ld.kr CB (qb rfl) rfl (.cons .refl .nil)) (by (exact .none)) (fun _=>?_);refine JD.bk (i:=4) (by kernel_rfl) ?_;refine JS.bp rfl rfl rfl (qb rfl) (Ld.kr CL (qb rfl) rfl (.cons .refl .nil)) (by (exact .none)) (fun _=>?_);refine JD.bk (i:=11) (by kernel_rfl) ?_;refine JS.bp rfl rfl rfl (qb rfl) (Ld.kr CD (qb rfl) rfl (.cons .refl .nil)) (by (exact .none)) (fun _=>?_);refine JD.bk (i:=13) (by kernel_rfl) ?_;refine JS.bp rfl rfl rfl (qb rfl) (Ld.gE (qb rfl) rfl rfl .read (by (simp;omega))) (by (exact .none)) (fun _=>?_);refine JD.bk (i:=14) (by kernel_rfl) ?_;refine JS.q rfl rfl rfl (qb rfl) (Qt.build rfl (by kernel_rfl)) ?_;refine JD.bk (i:=15) (by kernel_rfl) ?_;refine JS.bp rfl rfl rfl (qb rfl) (Ld.box (qb rfl) rfl rfl) (by (exact .none)) (fun _=>?_);refine JD.bk (i:=16) (by kernel_rfl) ?_;refine JS.q rfl rfl rfl (qb rfl) (Qt.assign rfl) ?_;refine JD.done (by kernel_rfl) ?_
  rotate_left
  all_goals
    refine J.eF 7 ?_;refine J.jJ 47 25 ?_;refine J.jJ 110 1 ?_;refine J.jJ 4 1 ?_;refine J.jJ 54 13 ?_;refine J.LZ (Φ:=tR []) tR.ok tR.none ?_
    first
      | rename_i bS xB xL bD _ bW
        refine J.perm ?_ (J.dZ (yZ bW ⟨.slice none 0 0,xB.1,.slice none 0 0,.slice none 0 0,xL.1,xQ.1,.slice (some ⟨bS,0,none⟩) sn sn,xP.1,bD,.slice none 0 0,xB.2,xL.2,xQ.2,xP.2,[],List.replicate sn false,fun _=>.slice none 0 0,fun _=>.slice none 0 0,fun _=>.slice none 0 0⟩ p sn cn d (Bc.gR p.length) rfl) ((rest (bW,⟨.slice none 0 0,xB.1,.slice none 0 0,.slice none 0 0,xL.1,xQ.1,.slice (some ⟨bS,0,none⟩) sn sn,xP.1,bD,.slice none 0 0,xB.2,xL.2,xQ.2,xP.2,[],List.replicate sn false,fun _=>.slice none 0 0,fun _=>.slice none 0 0,fun _=>.slice none 0 0⟩)).aU ⟨rfl,rfl,trivial⟩))
        repeat (first | exact List.Perm.refl _ | refine bt 0 rfl rfl ?_ | refine bt 1 rfl rfl ?_ | refine bt 2 rfl rfl ?_ | refine bt 3 rfl rfl ?_ | refine bt 4 rfl rfl ?_ | refine bt 5 rfl rfl ?_ | refine bt 6 rfl rfl ?_ | refine bt 7 rfl rfl ?_ | refine bt 8 rfl rfl ?_ | refine bt 9 rfl rfl ?_ | refine bt 10 rfl rfl ?_ | refine bt 11 rfl rfl ?_)
        done
      | rename_i xB bS xL bD _ bW
        refine J.perm ?_ (J.dZ (yZ bW ⟨.slice none 0 0,xB.1,.slice none 0 0,.slice none 0 0,xL.1,xQ.1,.slice (some ⟨bS,0,none⟩) sn sn,xP.1,bD,.slice none 0 0,xB.2,xL.2,xQ.2,xP.2,[],List.replicate sn false,fun _=>.slice none 0 0,fun _=>.slice none 0 0,fun _=>.slice none 0 0⟩ p sn cn d (Bc.gR p.length) rfl) ((rest (bW,⟨.slice none 0 0,xB.1,.slice none 0 0,.slice none 0 0,xL.1,xQ.1,.slice (some ⟨bS,0,none⟩) sn sn,xP.1,bD,.slice none 0 0,xB.2,xL.2,xQ.2,xP.2,[],List.replicate sn false,fun _=>.slice none 0 0,fun _=>.slice none 0 0,fun _=>.slice none 0 0⟩)).aU ⟨rfl,rfl,trivial⟩))
        repeat (first | exact List.Perm.refl _ | refine bt 0 rfl rfl ?_ | refine bt 1 rfl rfl ?_ | refine bt 2 rfl rfl ?_ | refine bt 3 rfl rfl ?_ | refine bt 4 rfl rfl ?_ | refine bt 5 rfl rfl ?_ | refine bt 6 rfl rfl ?_ | refine bt 7 rfl rfl ?_ | refine bt 8 rfl rfl ?_ | refine bt 9 rfl rfl ?_ | refine bt 10 rfl rfl ?_ | refine bt 11 rfl rfl ?_)
        done
      | rename_i xB xL bS bD _ bW
        refine J.perm ?_ (J.dZ (yZ bW ⟨.slice none 0 0,xB.1,.slice none 0 0,.slice none 0 0,xL.1,xQ.1,.slice (some ⟨bS,0,none⟩) sn sn,xP.1,bD,.slice none 0 0,xB.2,xL.2,xQ.2,xP.2,[],List.replicate sn false,fun _=>.slice none 0 0,fun _=>.slice none 0 0,fun _=>.slice none 0 0⟩ p sn cn d (Bc.gR p.length) rfl) ((rest (bW,⟨.slice none 0 0,xB.1,.slice none 0 0,.slice none 0 0,xL.1,xQ.1,.slice (some ⟨bS,0,none⟩) sn sn,xP.1,bD,.slice none 0 0,xB.2,xL.2,xQ.2,xP.2,[],List.replicate sn false,fun _=>.slice none 0 0,fun _=>.slice none 0 0,fun _=>.slice none 0 0⟩)).aU ⟨rfl,rfl,trivial⟩))
        repeat (first | exact List.Perm.refl _ | refine bt 0 rfl rfl ?_ | refine bt 1 rfl rfl ?_ | refine bt 2 rfl rfl ?_ | refine bt 3 rfl rfl ?_ | refine bt 4 rfl rfl ?_ | refine bt 5 rfl rfl ?_ | refine bt 6 rfl rfl ?_ | refine bt 7 rfl rfl ?_ | refine bt 8 rfl rfl ?_ | refine bt 9 rfl rfl ?_ | refine bt 10 rfl rfl ?_ | refine bt 11 rfl rfl ?_)
        done
      | rename_i xB xL bD bS _ bW
        refine J.perm ?_ (J.dZ (yZ bW ⟨.slice none 0 0,xB.1,.slice none 0 0,.slice none 0 0,xL.1,xQ.1,.slice (some ⟨bS,0,none⟩) sn sn,xP.1,bD,.slice none 0 0,xB.2,xL.2,xQ.2,xP.2,[],List.replicate sn false,fun _=>.slice none 0 0,fun _=>.slice none 0 0,fun _=>.slice none 0 0⟩ p sn cn d (Bc.gR p.length) rfl) ((rest (bW,⟨.slice none 0 0,xB.1,.slice none 0 0,.slice none 0 0,xL.1,xQ.1,.slice (some ⟨bS,0,none⟩) sn sn,xP.1,bD,.slice none 0 0,xB.2,xL.2,xQ.2,xP.2,[],List.replicate sn false,fun _=>.slice none 0 0,fun _=>.slice none 0 0,fun _=>.slice none 0 0⟩)).aU ⟨rfl,rfl,trivial⟩))
        repeat (first | exact List.Perm.refl _ | refine bt 0 rfl rfl ?_ | refine bt 1 rfl rfl ?_ | refine bt 2 rfl rfl ?_ | refine bt 3 rfl rfl ?_ | refine bt 4 rfl rfl ?_ | refine bt 5 rfl rfl ?_ | refine bt 6 rfl rfl ?_ | refine bt 7 rfl rfl ?_ | refine bt 8 rfl rfl ?_ | refine bt 9 rfl rfl ?_ | refine bt 10 rfl rfl ?_ | refine bt 11 rfl rfl ?_)
        done
      | rename_i xB xL bD _ bS bW
        refine J.perm ?_ (J.dZ (yZ bW ⟨.slice none 0 0,xB.1,.slice none 0 0,.slice none 0 0,xL.1,xQ.1,.slice (some ⟨bS,0,none⟩) sn sn,xP.1,bD,.slice none 0 0,xB.2,xL.2,xQ.2,xP.2,[],List.replicate sn false,fun _=>.slice none 0 0,fun _=>.slice none 0 0,fun _=>.slice none 0 0⟩ p sn cn d (Bc.gR p.length) rfl) ((rest (bW,⟨.slice none 0 0,xB.1,.slice none 0 0,.slice none 0 0,xL.1,xQ.1,.slice (some ⟨bS,0,none⟩) sn sn,xP.1,bD,.slice none 0 0,xB.2,xL.2,xQ.2,xP.2,[],List.replicate sn false,fun _=>.slice none 0 0,fun _=>.slice none 0 0,fun _=>.slice none 0 0⟩)).aU ⟨rfl,rfl,trivial⟩))
        repeat (first | exact List.Perm.refl _ | refine bt 0 rfl rfl ?_ | refine bt 1 rfl rfl ?_ | refine bt 2 rfl rfl ?_ | refine bt 3 rfl rfl ?_ | refine bt 4 rfl rfl ?_ | refine bt 5 rfl rfl ?_ | refine bt 6 rfl rfl ?_ | refine bt 7 rfl rfl ?_ | refine bt 8 rfl rfl ?_ | refine bt 9 rfl rfl ?_ | refine bt 10 rfl rfl ?_ | refine bt 11 rfl rfl ?_)
        done
end Fl
open Go.RowKit
namespace Fl
open Sx
set_option maxRecDepth 100000
section
variable {P:Program} {c:Cx} {f:Fm} {L:List ai} {T:TypeId} {ps:String} {af:Array Edge} {gd:Option (Nat × Bool)} {t:Nat}
theorem Qt.tj {x y:Operand} {X Y:Nat} {kd:IntKind} {m:Int} (h:aN f x=some (.c (.v (.int kd m)))) (hy:aN f y=some (.c (.v (.int kd m)))):Qt P c [] ⟨t,.binOp .neq X x y Y,T,ps,af,gd⟩ f L (.c (.v (.bool false))) :=
 Qt.cmp h hy (by simp [uY])
theorem Qt.VL {x y:Operand} {X Y:Nat} {kd:IntKind} {m:Int} (h:aN f x=some (.c (.v (.int kd m)))) (hy:aN f y=some (.c (.v (.int kd m)))):Qt P c [] ⟨t,.binOp .eql X x y Y,T,ps,af,gd⟩ f L (.c (.v (.bool true))) :=
 Qt.cmp h hy (by simp [uY])
theorem Qt.L5 {x y:Operand} {X Y:Nat} {m:Bool} [i:wX P X] (h:aN f x=some (.c (.v (.bool m)))) (hy:aN f y=some (.c (.v (.bool m)))):Qt P c [] ⟨t,.binOp .neq X x y Y,T,ps,af,gd⟩ f L (.c (.v (.bool false))) :=
 (Qt.tI h hy).eq (by simp)
theorem Qt.VM {x y:Operand} {X Y:Nat} {m:Bool} [i:wX P X] (h:aN f x=some (.c (.v (.bool m)))) (hy:aN f y=some (.c (.v (.bool m)))):Qt P c [] ⟨t,.binOp .eql X x y Y,T,ps,af,gd⟩ f L (.c (.v (.bool true))) :=
 (Qt.w8 h hy).eq (by simp)
theorem y7 {ok:Nat→Prop} {w:World}:∀ {zs:List Value} {xs:List Value},RC ok w (vs zs) xs→xs=zs
 | [],xs,h=>h.n0
 | z :: zs,xs,h=>by
  obtain ⟨ys,rfl,r⟩:=RC.c1 (eP:=vs zs) h;rw [y7 r]
theorem Qt.BN {x y:Operand} {X Y:Nat} (zs:List Value) (h:aN f x=some (.agg (vs zs))) (hy:aN f y=some (.agg (vs zs))) (hr:∀ w,(binOp .neq X (.agg zs.toArray) (.agg zs.toArray)).run P w=.ok (.bool false) w) (hg:P.eqGuardType P.depth X=false):Qt P c [] ⟨t,.binOp .neq X x y Y,T,ps,af,gd⟩ f L (.c (.v (.bool false))):=⟨fun a w s=>by
 have rx:=s.ev h;have ry:=s.ev hy;unfold RD at rx ry;obtain ⟨v1,e1,r1⟩:=rx;obtain ⟨v2,e2,r2⟩:=ry;rw [y7 r1] at e1;rw [y7 r2] at e2;refine ⟨.bool false,by unfold RD RA;exact ⟨rfl,rfl⟩,fun w' k=>?_⟩;simp [execOp,e1,e2,hr,Sem.run_bind,run_eqGuard_agg _ _ _ _ _ _ _ hg]⟩
theorem Qt.VN {x y:Operand} {X Y:Nat} (zs:List Value) (h:aN f x=some (.agg (vs zs))) (hy:aN f y=some (.agg (vs zs))) (hr:∀ w,(binOp .eql X (.agg zs.toArray) (.agg zs.toArray)).run P w=.ok (.bool true) w) (hg:P.eqGuardType P.depth X=false):Qt P c [] ⟨t,.binOp .eql X x y Y,T,ps,af,gd⟩ f L (.c (.v (.bool true))):=⟨fun a w s=>by
 have rx:=s.ev h;have ry:=s.ev hy;unfold RD at rx ry;obtain ⟨v1,e1,r1⟩:=rx;obtain ⟨v2,e2,r2⟩:=ry;rw [y7 r1] at e1;rw [y7 r2] at e2;refine ⟨.bool true,by unfold RD RA;exact ⟨rfl,rfl⟩,fun w' k=>?_⟩;simp [execOp,e1,e2,hr,Sem.run_bind,run_eqGuard_agg _ _ _ _ _ _ _ hg]⟩
end
theorem VO:Tryz.prog.underlying 24=some (.struct (Tryz.prog.fieldsOf 24)):=by kernel_rfl
theorem VP:Tryz.prog.stoodInHeld 24=false:=by kernel_rfl
theorem VQ:Tryz.prog.eqGuardType Tryz.prog.depth 24=false:=by kernel_rfl
theorem VR:∃ f0 f1:Field,(Tryz.prog.fieldsOf 24).toList=[f0,f1]∧(f0.name≠"_"∧f1.name≠"_")∧(f0.type=3∧f1.type=3)∧f0.offset=0∧f1.offset=1:=by
 unfold Program.fieldsOf;rw [Tryz.underlying24];exact ⟨_,_,rfl,⟨by decide,by decide⟩,⟨rfl,rfl⟩,rfl,rfl⟩
theorem VS (w:World) (x0:Int) (x1:Int):(binOp .neq 24 (.agg #[.int .i64 x0,.int .i64 x1]) (.agg #[.int .i64 x0,.int .i64 x1])).run Tryz.prog w=.ok (.bool false) w:=by
 obtain ⟨f0,f1,hf,⟨n0,n1⟩,⟨t0,t1⟩,o0,o1⟩:=VR;rw [run_neq_struct,run_equalIn_struct _ _ _ _ _ VO VP,hf];have hi:=Tryz.underlying3;have dA:=Tryz.underlying2;have hb:=Tryz.underlying4;simp [Op.eqFields,n0,t0,o0,n1,t1,o1,go_sem,hi,dA,hb]
theorem VT:Tryz.prog.underlying 52=some (.struct (Tryz.prog.fieldsOf 52)):=by kernel_rfl
theorem VU:Tryz.prog.stoodInHeld 52=false:=by kernel_rfl
theorem VV:Tryz.prog.eqGuardType Tryz.prog.depth 52=false:=by kernel_rfl
theorem VW:∃ f0 f1 f2 f3 f4 f5 f6:Field,(Tryz.prog.fieldsOf 52).toList=[f0,f1,f2,f3,f4,f5,f6]∧(f0.name≠"_"∧f1.name≠"_"∧f2.name≠"_"∧f3.name≠"_"∧f4.name≠"_"∧f5.name≠"_"∧f6.name≠"_")∧(f0.type=4∧f1.type=3∧f2.type=3∧f3.type=3∧f4.type=4∧f5.type=2∧f6.type=4)∧f0.offset=0∧f1.offset=1∧f2.offset=2∧f3.offset=3∧f4.offset=4∧f5.offset=5∧f6.offset=6:=by
 unfold Program.fieldsOf;rw [Tryz.underlying52];exact ⟨_,_,_,_,_,_,_,rfl,⟨by decide,by decide,by decide,by decide,by decide,by decide,by decide⟩,⟨rfl,rfl,rfl,rfl,rfl,rfl,rfl⟩,rfl,rfl,rfl,rfl,rfl,rfl,rfl⟩
theorem VX (w:World) (x0:Bool) (x1:Int) (x2:Int) (x3:Int) (x4:Bool) (x5:Int) (x6:Bool):(binOp .neq 52 (.agg #[.bool x0,.int .i64 x1,.int .i64 x2,.int .i64 x3,.bool x4,.int .i64 x5,.bool x6]) (.agg #[.bool x0,.int .i64 x1,.int .i64 x2,.int .i64 x3,.bool x4,.int .i64 x5,.bool x6])).run Tryz.prog w=.ok (.bool false) w:=by
 obtain ⟨f0,f1,f2,f3,f4,f5,f6,hf,⟨n0,n1,n2,n3,n4,n5,n6⟩,⟨t0,t1,t2,t3,t4,t5,t6⟩,o0,o1,o2,o3,o4,o5,o6⟩:=VW;rw [run_neq_struct,run_equalIn_struct _ _ _ _ _ VT VU,hf];have hi:=Tryz.underlying3;have dA:=Tryz.underlying2;have hb:=Tryz.underlying4;simp [Op.eqFields,n0,t0,o0,n1,t1,o1,n2,t2,o2,n3,t3,o3,n4,t4,o4,n5,t5,o5,n6,t6,o6,go_sem,hi,dA,hb]
theorem VY:Tryz.prog.underlying 83=some (.struct (Tryz.prog.fieldsOf 83)):=by kernel_rfl
theorem VZ:Tryz.prog.stoodInHeld 83=false:=by kernel_rfl
theorem V0:Tryz.prog.eqGuardType Tryz.prog.depth 83=false:=by kernel_rfl
theorem V1:∃ f0 f1 f2:Field,(Tryz.prog.fieldsOf 83).toList=[f0,f1,f2]∧(f0.name≠"_"∧f1.name≠"_"∧f2.name≠"_")∧(f0.type=4∧f1.type=3∧f2.type=2)∧f0.offset=0∧f1.offset=1∧f2.offset=2:=by
 unfold Program.fieldsOf;rw [Tryz.underlying83];exact ⟨_,_,_,rfl,⟨by decide,by decide,by decide⟩,⟨rfl,rfl,rfl⟩,rfl,rfl,rfl⟩
theorem V2 (w:World) (x0:Bool) (x1:Int) (x2:Int):(binOp .neq 83 (.agg #[.bool x0,.int .i64 x1,.int .i64 x2]) (.agg #[.bool x0,.int .i64 x1,.int .i64 x2])).run Tryz.prog w=.ok (.bool false) w:=by
 obtain ⟨f0,f1,f2,hf,⟨n0,n1,n2⟩,⟨t0,t1,t2⟩,o0,o1,o2⟩:=V1;rw [run_neq_struct,run_equalIn_struct _ _ _ _ _ VY VZ,hf];have hi:=Tryz.underlying3;have dA:=Tryz.underlying2;have hb:=Tryz.underlying4;simp [Op.eqFields,n0,t0,o0,n1,t1,o1,n2,t2,o2,go_sem,hi,dA,hb]
theorem L6:Tryz.prog.underlying 45=some (.struct (Tryz.prog.fieldsOf 45)):=by kernel_rfl
theorem L7:Tryz.prog.stoodInHeld 45=false:=by kernel_rfl
theorem V3:Tryz.prog.eqGuardType Tryz.prog.depth 45=false:=by kernel_rfl
theorem L8:∃ f0 f1 f2 f3 f4:Field,(Tryz.prog.fieldsOf 45).toList=[f0,f1,f2,f3,f4]∧(f0.name≠"_"∧f1.name≠"_"∧f2.name≠"_"∧f3.name≠"_"∧f4.name≠"_")∧(f0.type=3∧f1.type=3∧f2.type=2∧f3.type=4∧f4.type=3)∧f0.offset=0∧f1.offset=1∧f2.offset=2∧f3.offset=3∧f4.offset=4:=by
 unfold Program.fieldsOf;rw [Tryz.underlying45];exact ⟨_,_,_,_,_,rfl,⟨by decide,by decide,by decide,by decide,by decide⟩,⟨rfl,rfl,rfl,rfl,rfl⟩,rfl,rfl,rfl,rfl,rfl⟩
theorem V4 (w:World) (x0:Int) (x1:Int) (x2:Int) (x3:Bool) (x4:Int):(binOp .eql 45 (.agg #[.int .i64 x0,.int .i64 x1,.int .i64 x2,.bool x3,.int .i64 x4]) (.agg #[.int .i64 x0,.int .i64 x1,.int .i64 x2,.bool x3,.int .i64 x4])).run Tryz.prog w=.ok (.bool true) w:=by
 obtain ⟨f0,f1,f2,f3,f4,hf,⟨n0,n1,n2,n3,n4⟩,⟨t0,t1,t2,t3,t4⟩,o0,o1,o2,o3,o4⟩:=L8;rw [run_eql_struct,run_equalIn_struct _ _ _ _ _ L6 L7,hf];have hi:=Tryz.underlying3;have dA:=Tryz.underlying2;have hb:=Tryz.underlying4;simp [Op.eqFields,n0,t0,o0,n1,t1,o1,n2,t2,o2,n3,t3,o3,n4,t4,o4,go_sem,hi,dA,hb]
theorem V5:Tryz.prog.underlying 54=some (.struct (Tryz.prog.fieldsOf 54)):=by kernel_rfl
theorem V6:Tryz.prog.stoodInHeld 54=false:=by kernel_rfl
theorem V7:Tryz.prog.eqGuardType Tryz.prog.depth 54=false:=by kernel_rfl
theorem V8:∃ f0 f1 f2 f3 f4 f5 f6 f7 f8:Field,(Tryz.prog.fieldsOf 54).toList=[f0,f1,f2,f3,f4,f5,f6,f7,f8]∧(f0.name≠"_"∧f1.name≠"_"∧f2.name≠"_"∧f3.name≠"_"∧f4.name≠"_"∧f5.name≠"_"∧f6.name≠"_"∧f7.name≠"_"∧f8.name≠"_")∧(f0.type=3∧f1.type=3∧f2.type=3∧f3.type=3∧f4.type=3∧f5.type=3∧f6.type=3∧f7.type=3∧f8.type=45)∧f0.offset=0∧f1.offset=1∧f2.offset=2∧f3.offset=3∧f4.offset=4∧f5.offset=5∧f6.offset=6∧f7.offset=7∧f8.offset=8:=by
 unfold Program.fieldsOf;rw [Tryz.underlying54];exact ⟨_,_,_,_,_,_,_,_,_,rfl,⟨by decide,by decide,by decide,by decide,by decide,by decide,by decide,by decide,by decide⟩,⟨rfl,rfl,rfl,rfl,rfl,rfl,rfl,rfl,rfl⟩,rfl,rfl,rfl,rfl,rfl,rfl,rfl,rfl,rfl⟩
theorem V9 (w:World) (a0 a1 a2 a3 a4 a5 a6 a7 y0 y1 y2 y4:Int) (y3:Bool):(part 45 #[.int .i64 a0,.int .i64 a1,.int .i64 a2,.int .i64 a3,.int .i64 a4,.int .i64 a5,.int .i64 a6,.int .i64 a7,.int .i64 y0,.int .i64 y1,.int .i64 y2,.bool y3,.int .i64 y4] 8).run Tryz.prog w=.ok (.agg #[.int .i64 y0,.int .i64 y1,.int .i64 y2,.bool y3,.int .i64 y4]) w:=by
 have hu:=Tryz.underlying45;have h5:iO Tryz.prog 45=some 5:=by kernel_rfl
 simp [go_sem,part,hu]
theorem Wa (w:World) (x0 x1 x2 x3 x4 x5 x6 x7 y0 y1 y2 y4:Int) (y3:Bool):(binOp .neq 54 (.agg #[.int .i64 x0,.int .i64 x1,.int .i64 x2,.int .i64 x3,.int .i64 x4,.int .i64 x5,.int .i64 x6,.int .i64 x7,.int .i64 y0,.int .i64 y1,.int .i64 y2,.bool y3,.int .i64 y4]) (.agg #[.int .i64 x0,.int .i64 x1,.int .i64 x2,.int .i64 x3,.int .i64 x4,.int .i64 x5,.int .i64 x6,.int .i64 x7,.int .i64 y0,.int .i64 y1,.int .i64 y2,.bool y3,.int .i64 y4])).run Tryz.prog w=.ok (.bool false) w:=by
 obtain ⟨f0,f1,f2,f3,f4,f5,f6,f7,f8,hf,⟨n0,n1,n2,n3,n4,n5,n6,n7,n8⟩,⟨t0,t1,t2,t3,t4,t5,t6,t7,t8⟩,o0,o1,o2,o3,o4,o5,o6,o7,o8⟩:=V8;obtain ⟨g0,g1,g2,g3,g4,hg,⟨m0,m1,m2,m3,m4⟩,⟨s0,s1,s2,s3,s4⟩,q0,q1,q2,q3,q4⟩:=L8;rw [run_neq_struct,run_equalIn_struct _ _ _ _ _ V5 V6,hf];have hi:=Tryz.underlying3;have dA:=Tryz.underlying2;have hb:=Tryz.underlying4;simp [Op.eqFields,n0,t0,o0,n1,t1,o1,n2,t2,o2,n3,t3,o3,n4,t4,o4,n5,t5,o5,n6,t6,o6,n7,t7,o7,n8,t8,o8,V9,run_equalIn_struct _ _ _ _ _ L6 L7,hg,m0,m1,m2,m3,m4,s0,s1,s2,s3,s4,q0,q1,q2,q3,q4,go_sem,hi,dA,hb]
end Fl
open Go.RowKit
namespace Fl
open Sx
set_option maxRecDepth 100000
theorem jg {α:Type} {l:List α} {enc:α→List A} {k:Nat} {x:α} (h:l[k]?=some x):(l.map enc)[((k:Int)).toNat]?=some (enc x):=by rw [Int.toNat_natCast,List.getElem?_map,h];rfl
theorem tn (l:List Int) (hl:l.length≤100000):Pure Tryz.prog 72 [.c (ints l),.c (ints l)] (.c (bI true)):=by
 refine aq.intro Tryz.func72 rfl rfl rfl (fun ok e=>?_)
 repeat (first | (refine K.binOp ?_;refine jq rfl rfl rfl (Qt.tj rfl rfl) ?_) | refine gn ?_)
 refine J.loop (ι:={ k:Nat // k≤(l).length }) (fun p=>[(13,.c (nI p.1)),(12,.c (nI (l).length)),(0,.c (ints l)),(1,.c (ints l))]) (fun _=>[]) (fun p=>(l).length - p.1) ⟨0,Nat.zero_le _⟩ (fun X h=>h.aU ⟨rfl,rfl,rfl,rfl,trivial⟩) (fun p ih=>?_);obtain ⟨k,hk⟩:=p;simp only at hk ih ⊢
 by_cases aR:k < (l).length
 ·have t1:(decide ((k:Int) < ((l).length:Int)))=true:=by simpa using aR
  obtain ⟨x,hx⟩:∃ x,(l)[k]?=some x:=⟨_,List.getElem?_eq_getElem aR⟩
  have hm:=List.mem_of_getElem? hx
  repeat (refine gn ?_)
  refine J.draw (by kernel_rfl) rfl ?_;refine JW.base none ?_;refine tk 0 ?_;refine tk 1 ?_;refine JD.take 2 rfl rfl (by kernel_rfl) rfl (qb rfl) (Qt.cq rfl rfl (by omega) (jg hx)) rfl ?_;refine tk 3 ?_;refine tk 4 ?_;refine tk 5 ?_;refine JD.take 6 rfl rfl (by kernel_rfl) rfl (qb rfl) (Qt.cq rfl rfl (by omega) (jg hx)) rfl ?_;refine tk 7 ?_;refine JD.take 8 rfl rfl (by kernel_rfl) rfl (qb rfl) (Qt.tj rfl rfl) rfl ?_;refine bH ?_
  repeat (refine gn ?_)
  exact (ih ⟨k + 1,by omega⟩ (by simp only;omega)).aU ⟨rfl,rfl,rfl,rfl,trivial⟩
 ·have t1:(decide ((k:Int) < ((l).length:Int)))=false:=by simpa using aR
  obtain rfl:k=(l).length:=by omega
  repeat (refine gn ?_)
  exact az Tryz.func72
theorem L9 (o:Pn.Op) (hl:o.cases.length≤100000):Pure Tryz.prog 21 [.agg (dO o),.agg (dO o)] (.c (bI true)):=by
 refine aq.intro Tryz.func21 rfl rfl rfl (fun ok e=>?_)
 repeat (first | (refine K.binOp ?_;first | refine jq rfl rfl rfl (Qt.tj rfl rfl) ?_ | refine jq rfl rfl rfl (Qt.L5 rfl rfl) ?_) | refine au ?_ | intro _)
 rename_i b3 b2;refine J.loop (ι:={ k:Nat // k≤(o.cases).length }) (fun p=>[(51,.c (nI p.1)),(50,.c (nI (o.cases).length)),(2,.c (.v (.pointer (some ⟨b3,0,none⟩)))),(3,.c (.v (.pointer (some ⟨b2,0,none⟩))))]) (fun _=>[.box b2 50 (dO o),.box b3 50 (dO o)]) (fun p=>(o.cases).length - p.1) ⟨0,Nat.zero_le _⟩ (fun X h=>h.aU ⟨rfl,rfl,rfl,rfl,trivial⟩) (fun p ih=>?_);obtain ⟨k,hk⟩:=p;simp only at hk ih ⊢
 by_cases aR:k < (o.cases).length
 ·have t1:(decide ((k:Int) < ((o.cases).length:Int)))=true:=by simpa using aR
  obtain ⟨x,hx⟩:∃ x,(o.cases)[k]?=some x:=⟨_,List.getElem?_eq_getElem aR⟩
  have hm:=List.mem_of_getElem? hx
  repeat (refine gn ?_)
  refine J.draw (by kernel_rfl) rfl ?_;refine JW.base none ?_;refine tk 0 ?_;refine tk 1 ?_;refine tk 2 ?_;refine JD.take 3 rfl rfl (by kernel_rfl) rfl (qb rfl) (Qt.cq rfl rfl (by omega) (jg hx)) rfl ?_;refine tk 4 ?_;refine tk 5 ?_;refine tk 6 ?_;refine tk 7 ?_;refine JD.take 8 rfl rfl (by kernel_rfl) rfl (qb rfl) (Qt.cq rfl rfl (by omega) (jg hx)) rfl ?_;refine tk 9 ?_;refine JD.take 10 rfl rfl (by kernel_rfl) rfl (qb rfl) (Qt.BN [.bool x.send,.int .i64 x.ch,.int .i64 x.v] rfl rfl (fun w=>V2 w _ _ _) V0) rfl ?_;refine bH ?_
  repeat (refine gn ?_)
  exact (ih ⟨k + 1,by omega⟩ (by simp only;omega)).aU ⟨rfl,rfl,rfl,rfl,trivial⟩
 ·have t1:(decide ((k:Int) < ((o.cases).length:Int)))=false:=by simpa using aR
  obtain rfl:k=(o.cases).length:=by omega
  repeat (refine gn ?_)
  exact az Tryz.func21
theorem Wb (l:List Pn.Op) (hl:l.length≤100000) (hc:∀ o∈l,o.cases.length≤100000):Pure Tryz.prog 134 [.c (.r 6 (l.map dO)),.c (.r 6 (l.map dO))] (.c (bI true)):=by
 refine aq.intro Tryz.func134 rfl rfl rfl (fun ok e=>?_)
 repeat (first | (refine K.binOp ?_;refine jq rfl rfl rfl (Qt.tj rfl rfl) ?_) | refine gn ?_)
 refine J.loop (ι:={ k:Nat // k≤(l).length }) (fun p=>[(13,.c (nI p.1)),(12,.c (nI (l).length)),(0,.c (.r 6 (l.map dO))),(1,.c (.r 6 (l.map dO)))]) (fun _=>[]) (fun p=>(l).length - p.1) ⟨0,Nat.zero_le _⟩ (fun X h=>h.aU ⟨rfl,rfl,rfl,rfl,trivial⟩) (fun p ih=>?_);obtain ⟨k,hk⟩:=p;simp only at hk ih ⊢
 by_cases aR:k < (l).length
 ·have t1:(decide ((k:Int) < ((l).length:Int)))=true:=by simpa using aR
  obtain ⟨x,hx⟩:∃ x,(l)[k]?=some x:=⟨_,List.getElem?_eq_getElem aR⟩
  have hm:=List.mem_of_getElem? hx
  repeat (refine gn ?_)
  refine J.draw (by kernel_rfl) rfl ?_;refine JW.base none ?_;refine tk 0 ?_;refine tk 1 ?_;refine JD.take 2 rfl rfl (by kernel_rfl) rfl (qb rfl) (Qt.cq rfl rfl (by omega) (jg hx)) rfl ?_;refine tk 3 ?_;refine tk 4 ?_;refine tk 5 ?_;refine JD.take 6 rfl rfl (by kernel_rfl) rfl (qb rfl) (Qt.cq rfl rfl (by omega) (jg hx)) rfl ?_;refine tk 7 ?_;refine jl 8 rfl rfl rfl rfl (Ld.pure (L9 x (hc x hm)) (qb rfl) rfl (by repeat (first | exact aL.nil | refine aL.cons (cQ.agg (by repeat (first | exact .nil | refine .cons .refl ?_))) ?_))) .none (fun _=>?_);refine jk 9 rfl rfl rfl rfl (Qt.not rfl) ?_;refine bH ?_
  repeat (refine gn ?_)
  exact (ih ⟨k + 1,by omega⟩ (by simp only;omega)).aU ⟨rfl,rfl,rfl,rfl,trivial⟩
 ·have t1:(decide ((k:Int) < ((l).length:Int)))=false:=by simpa using aR
  obtain rfl:k=(l).length:=by omega
  repeat (refine gn ?_)
  exact az Tryz.func134
theorem Wc (g:Gr) (h1:g.ops.length≤100000) (h2:∀ o∈g.ops,o.cases.length≤100000) (h3:g.order.length≤100000) (h4:g.aC.length≤100000) (h5:g.ak.length≤100000) (h6:g.ah.length≤100000):Pure Tryz.prog 73 [.agg (eG g),.agg (eG g)] (.c (bI true)):=by
 have C1:=Wb g.ops h1 h2;have C3:=tn g.order h3;have C4:=tn g.aC h4;have C5:=tn g.ak h5;have C6:=tn g.ah h6;refine aq.intro Tryz.func73 rfl rfl rfl (fun ok e=>?_)
 repeat (first | (refine K.binOp ?_;first | refine jq rfl rfl rfl (Qt.VL rfl rfl) ?_ | refine jq rfl rfl rfl (Qt.VM rfl rfl) ?_ | refine jq rfl rfl rfl (Qt.VN [.int .i64 g.res.code,.int .i64 g.res.cs,.int .i64 g.res.v,.bool g.res.ok,.int .i64 g.res.n] rfl rfl (fun w=>V4 w _ _ _ _ _) V3) ?_) | refine aJ (C1) ?_ | refine aJ (C3) ?_ | refine aJ (C4) ?_ | refine aJ (C5) ?_ | refine aJ (C6) ?_ | refine au ?_ | intro _)
 exact az Tryz.func73
theorem Wd (c:Cn) (h1:c.buf.length≤100000) (h2:c.recv.length≤100000) (h3:c.send.length≤100000):Pure Tryz.prog 74 [.agg (eC c),.agg (eC c)] (.c (bI true)):=by
 have C2:=tn c.recv h2;have C3:=tn c.send h3;refine aq.intro Tryz.func74 rfl rfl rfl (fun ok e=>?_)
 repeat (first | (refine K.binOp ?_;first | refine jq rfl rfl rfl (Qt.tj rfl rfl) ?_ | refine jq rfl rfl rfl (Qt.L5 rfl rfl) ?_) | refine aJ (C2) ?_ | refine aJ (C3) ?_ | refine au ?_ | intro _)
 rename_i b3 b2;refine J.loop (ι:={ k:Nat // k≤(c.buf).length }) (fun p=>[(53,.c (nI p.1)),(52,.c (nI (c.buf).length)),(2,.c (.v (.pointer (some ⟨b3,0,none⟩)))),(3,.c (.v (.pointer (some ⟨b2,0,none⟩))))]) (fun _=>[.box b2 72 (eC c),.box b3 72 (eC c)]) (fun p=>(c.buf).length - p.1) ⟨0,Nat.zero_le _⟩ (fun X h=>h.aU ⟨rfl,rfl,rfl,rfl,trivial⟩) (fun p ih=>?_);obtain ⟨k,hk⟩:=p;simp only at hk ih ⊢
 by_cases aR:k < (c.buf).length
 ·have t1:(decide ((k:Int) < ((c.buf).length:Int)))=true:=by simpa using aR
  obtain ⟨x,hx⟩:∃ x,(c.buf)[k]?=some x:=⟨_,List.getElem?_eq_getElem aR⟩
  have hm:=List.mem_of_getElem? hx
  repeat (first | refine aM t1 ?_ | refine gn ?_)
  refine J.draw (by kernel_rfl) rfl ?_;refine JW.base none ?_;refine tk 0 ?_;refine tk 1 ?_;refine tk 2 ?_;refine JD.take 3 rfl rfl (by kernel_rfl) rfl (qb rfl) (Qt.cq rfl rfl (by omega) (jg hx)) rfl ?_;refine tk 4 ?_;refine tk 5 ?_;refine tk 6 ?_;refine tk 7 ?_;refine JD.take 8 rfl rfl (by kernel_rfl) rfl (qb rfl) (Qt.cq rfl rfl (by omega) (jg hx)) rfl ?_;refine tk 9 ?_;refine JD.take 10 rfl rfl (by kernel_rfl) rfl (qb rfl) (Qt.tj rfl rfl) rfl ?_;refine bH ?_
  repeat (first | (refine K.binOp ?_;refine jq rfl rfl rfl (Qt.cP rfl rfl rfl (fJ (by omega) (by omega))) ?_) | refine gn ?_)
  exact (ih ⟨k + 1,by omega⟩ (by simp only;omega)).aU ⟨rfl,rfl,rfl,rfl,trivial⟩
 ·have t1:(decide ((k:Int) < ((c.buf).length:Int)))=false:=by simpa using aR
  obtain rfl:k=(c.buf).length:=by omega
  repeat (first | refine aM t1 ?_ | refine gn ?_)
  exact az Tryz.func74
structure Fe (s:Sx.St):Prop where
 gs:s.gs.length≤100000
 ch:s.an.length≤100000
 su:s.aB.length≤100000
 dr:s.cL.length≤100000
 dn:s.done.length≤100000
 cl:s.cache.length=s.gs.length
 cb:∀ l∈s.cache,l.length≤100000
 mb:s.middle.length≤100000
 gb:∀ g∈s.gs,g.ops.length≤100000∧(∀ o∈g.ops,o.cases.length≤100000)∧g.order.length≤100000∧g.aC.length≤100000∧g.ak.length≤100000∧g.ah.length≤100000
 hb:∀ c∈s.an,c.buf.length≤100000∧c.recv.length≤100000∧c.send.length≤100000
theorem y8 (s:Sx.St) (h:Fe s):Pure Tryz.prog 18 [.agg (ay s),.agg (ay s)] (.c (bI true)):=by
 have EZ:=h.gs;have pG:=h.ch;have hsu:=h.su;have jG:=h.dr;have We:=h.dn;have CM:=tn s.middle h.mb;refine aq.intro Tryz.func18 rfl rfl rfl (fun ok e=>?_)
 repeat (first | (refine K.binOp ?_;first | refine jq rfl rfl rfl (Qt.tj rfl rfl) ?_ | refine jq rfl rfl rfl (Qt.BN [.int .i64 s.dB,.int .i64 s.bN] rfl rfl (fun w=>VS w _ _) VQ) ?_) | refine au ?_ | intro _)
 rename_i b3 b2;refine J.loop (ι:={ k:Nat // k≤(s.gs).length }) (fun p=>[(101,.c (nI p.1)),(100,.c (nI (s.gs).length)),(2,.c (.v (.pointer (some ⟨b3,0,none⟩)))),(3,.c (.v (.pointer (some ⟨b2,0,none⟩))))]) (fun _=>[.box b2 36 (ay s),.box b3 36 (ay s)]) (fun p=>(s.gs).length - p.1) ⟨0,Nat.zero_le _⟩ (fun X h=>h.aU ⟨rfl,rfl,rfl,rfl,trivial⟩) (fun p ih=>?_);obtain ⟨k,hk⟩:=p;simp only at hk ih ⊢
 by_cases aR:k < (s.gs).length
 ·have t1:(decide ((k:Int) < ((s.gs).length:Int)))=true:=by simpa using aR
  obtain ⟨x,hx⟩:∃ x,(s.gs)[k]?=some x:=⟨_,List.getElem?_eq_getElem aR⟩
  have hm:=List.mem_of_getElem? hx;obtain ⟨g1,g2,g3,g4,g5,g6⟩:=h.gb x hm;obtain ⟨y,hy⟩:∃ y,s.cache[k]?=some y:=⟨_,List.getElem?_eq_getElem (by rw [h.cl];exact aR)⟩
  repeat (refine gn ?_)
  refine J.draw (by kernel_rfl) rfl ?_;refine JW.base none ?_;refine tk 0 ?_;refine tk 1 ?_;refine tk 2 ?_;refine JD.take 3 rfl rfl (by kernel_rfl) rfl (qb rfl) (Qt.cq rfl rfl (by omega) (jg hx)) rfl ?_;refine tk 4 ?_;refine tk 5 ?_;refine tk 6 ?_;refine tk 7 ?_;refine JD.take 8 rfl rfl (by kernel_rfl) rfl (qb rfl) (Qt.cq rfl rfl (by omega) (jg hx)) rfl ?_;refine tk 9 ?_;refine jl 10 rfl rfl rfl rfl (Ld.pure (Wc x g1 g2 g3 g4 g5 g6) (qb rfl) rfl (by repeat (first | exact aL.nil | refine aL.cons (cQ.agg (by repeat (first | exact .nil | refine .cons .refl ?_))) ?_))) .none (fun _=>?_);refine jk 11 rfl rfl rfl rfl (Qt.not rfl) ?_;refine jk 12 rfl rfl rfl rfl (Qt.move rfl) ?_;refine JD.lP ?_;refine tk 13 ?_;refine tk 14 ?_;refine tk 15 ?_
  (refine JD.take 16 rfl rfl (by kernel_rfl) rfl (qb rfl) (Qt.cq rfl rfl (by omega) (jg hy)) rfl ?_)
  refine tk 17 ?_;refine tk 18 ?_;refine tk 19 ?_;refine tk 20 ?_
  (refine JD.take 21 rfl rfl (by kernel_rfl) rfl (qb rfl) (Qt.cq rfl rfl (by omega) (jg hy)) rfl ?_)
  refine tk 22 ?_;refine jl 23 rfl rfl rfl rfl (Ld.pure (tn y (h.cb y (List.mem_of_getElem? hy))) (qb rfl) rfl lq) .none (fun _=>?_);refine tk 24 ?_;refine jk 25 rfl rfl rfl rfl (Qt.pick rfl rfl) ?_;refine bH ?_
  repeat (refine gn ?_)
  exact (ih ⟨k + 1,by omega⟩ (by simp only;omega)).aU ⟨rfl,rfl,rfl,rfl,trivial⟩
 ·have t1:(decide ((k:Int) < ((s.gs).length:Int)))=false:=by simpa using aR
  obtain rfl:k=(s.gs).length:=by omega
  repeat (refine gn ?_)
  refine J.loop (ι:={ k:Nat // k≤(s.an).length }) (fun p=>[(134,.c (nI p.1)),(133,.c (nI (s.an).length)),(2,.c (.v (.pointer (some ⟨b3,0,none⟩)))),(3,.c (.v (.pointer (some ⟨b2,0,none⟩))))]) (fun _=>[.box b2 36 (ay s),.box b3 36 (ay s)]) (fun p=>(s.an).length - p.1) ⟨0,Nat.zero_le _⟩ (fun X h=>h.aU ⟨rfl,rfl,rfl,rfl,trivial⟩) (fun p ih=>?_);obtain ⟨k,hk⟩:=p;simp only at hk ih ⊢
  by_cases aR:k < (s.an).length
  ·have t1:(decide ((k:Int) < ((s.an).length:Int)))=true:=by simpa using aR
   obtain ⟨x,hx⟩:∃ x,(s.an)[k]?=some x:=⟨_,List.getElem?_eq_getElem aR⟩
   have hm:=List.mem_of_getElem? hx;obtain ⟨g1,g2,g3⟩:=h.hb x hm
   repeat (refine gn ?_)
   refine J.draw (by kernel_rfl) rfl ?_;refine JW.base none ?_;refine tk 0 ?_;refine tk 1 ?_;refine tk 2 ?_;refine JD.take 3 rfl rfl (by kernel_rfl) rfl (qb rfl) (Qt.cq rfl rfl (by omega) (jg hx)) rfl ?_;refine tk 4 ?_;refine tk 5 ?_;refine tk 6 ?_;refine tk 7 ?_;refine JD.take 8 rfl rfl (by kernel_rfl) rfl (qb rfl) (Qt.cq rfl rfl (by omega) (jg hx)) rfl ?_;refine tk 9 ?_;refine jl 10 rfl rfl rfl rfl (Ld.pure (Wd x g1 g2 g3) (qb rfl) rfl (by repeat (first | exact aL.nil | refine aL.cons (cQ.agg (by repeat (first | exact .nil | refine .cons .refl ?_))) ?_))) .none (fun _=>?_);refine jk 11 rfl rfl rfl rfl (Qt.not rfl) ?_;refine bH ?_
   repeat (refine gn ?_)
   exact (ih ⟨k + 1,by omega⟩ (by simp only;omega)).aU ⟨rfl,rfl,rfl,rfl,trivial⟩
  ·have t1:(decide ((k:Int) < ((s.an).length:Int)))=false:=by simpa using aR
   obtain rfl:k=(s.an).length:=by omega
   repeat (refine gn ?_)
   refine J.loop (ι:={ k:Nat // k≤(s.aB).length }) (fun p=>[(153,.c (nI p.1)),(152,.c (nI (s.aB).length)),(2,.c (.v (.pointer (some ⟨b3,0,none⟩)))),(3,.c (.v (.pointer (some ⟨b2,0,none⟩))))]) (fun _=>[.box b2 36 (ay s),.box b3 36 (ay s)]) (fun p=>(s.aB).length - p.1) ⟨0,Nat.zero_le _⟩ (fun X h=>h.aU ⟨rfl,rfl,rfl,rfl,trivial⟩) (fun p ih=>?_);obtain ⟨k,hk⟩:=p;simp only at hk ih ⊢
   by_cases aR:k < (s.aB).length
   ·have t1:(decide ((k:Int) < ((s.aB).length:Int)))=true:=by simpa using aR
    obtain ⟨x,hx⟩:∃ x,(s.aB)[k]?=some x:=⟨_,List.getElem?_eq_getElem aR⟩
    have hm:=List.mem_of_getElem? hx
    repeat (refine gn ?_)
    refine J.draw (by kernel_rfl) rfl ?_;refine JW.base none ?_;refine tk 0 ?_;refine tk 1 ?_;refine tk 2 ?_;refine JD.take 3 rfl rfl (by kernel_rfl) rfl (qb rfl) (Qt.cq rfl rfl (by omega) (jg hx)) rfl ?_;refine tk 4 ?_;refine tk 5 ?_;refine tk 6 ?_;refine tk 7 ?_;refine JD.take 8 rfl rfl (by kernel_rfl) rfl (qb rfl) (Qt.cq rfl rfl (by omega) (jg hx)) rfl ?_;refine tk 9 ?_;refine JD.take 10 rfl rfl (by kernel_rfl) rfl (qb rfl) (Qt.BN [.bool x.live,.int .i64 x.g,.int .i64 x.ch,.int .i64 x.cs,.bool x.send,.int .i64 x.v,.bool x.done] rfl rfl (fun w=>VX w _ _ _ _ _ _ _) VV) rfl ?_;refine bH ?_
    repeat (refine gn ?_)
    exact (ih ⟨k + 1,by omega⟩ (by simp only;omega)).aU ⟨rfl,rfl,rfl,rfl,trivial⟩
   ·have t1:(decide ((k:Int) < ((s.aB).length:Int)))=false:=by simpa using aR
    obtain rfl:k=(s.aB).length:=by omega
    repeat (refine gn ?_)
    refine J.loop (ι:={ k:Nat // k≤(s.cL).length }) (fun p=>[(171,.c (nI p.1)),(170,.c (nI (s.cL).length)),(2,.c (.v (.pointer (some ⟨b3,0,none⟩)))),(3,.c (.v (.pointer (some ⟨b2,0,none⟩))))]) (fun _=>[.box b2 36 (ay s),.box b3 36 (ay s)]) (fun p=>(s.cL).length - p.1) ⟨0,Nat.zero_le _⟩ (fun X h=>h.aU ⟨rfl,rfl,rfl,rfl,trivial⟩) (fun p ih=>?_);obtain ⟨k,hk⟩:=p;simp only at hk ih ⊢
    by_cases aR:k < (s.cL).length
    ·have t1:(decide ((k:Int) < ((s.cL).length:Int)))=true:=by simpa using aR
     obtain ⟨x,hx⟩:∃ x,(s.cL)[k]?=some x:=⟨_,List.getElem?_eq_getElem aR⟩
     have hm:=List.mem_of_getElem? hx
     repeat (refine gn ?_)
     refine J.draw (by kernel_rfl) rfl ?_;refine JW.base none ?_;refine tk 0 ?_;refine tk 1 ?_;refine tk 2 ?_;refine JD.take 3 rfl rfl (by kernel_rfl) rfl (qb rfl) (Qt.cq rfl rfl (by omega) (jg hx)) rfl ?_;refine tk 4 ?_;refine tk 5 ?_;refine tk 6 ?_;refine tk 7 ?_;refine JD.take 8 rfl rfl (by kernel_rfl) rfl (qb rfl) (Qt.cq rfl rfl (by omega) (jg hx)) rfl ?_;refine tk 9 ?_;refine JD.take 10 rfl rfl (by kernel_rfl) rfl (qb rfl) (Qt.tj rfl rfl) rfl ?_;refine bH ?_
     repeat (refine gn ?_)
     exact (ih ⟨k + 1,by omega⟩ (by simp only;omega)).aU ⟨rfl,rfl,rfl,rfl,trivial⟩
    ·have t1:(decide ((k:Int) < ((s.cL).length:Int)))=false:=by simpa using aR
     obtain rfl:k=(s.cL).length:=by omega
     repeat (refine gn ?_)
     refine J.loop (ι:={ k:Nat // k≤(s.done).length }) (fun p=>[(189,.c (nI p.1)),(188,.c (nI (s.done).length)),(2,.c (.v (.pointer (some ⟨b3,0,none⟩)))),(3,.c (.v (.pointer (some ⟨b2,0,none⟩))))]) (fun _=>[.box b2 36 (ay s),.box b3 36 (ay s)]) (fun p=>(s.done).length - p.1) ⟨0,Nat.zero_le _⟩ (fun X h=>h.aU ⟨rfl,rfl,rfl,rfl,trivial⟩) (fun p ih=>?_);obtain ⟨k,hk⟩:=p;simp only at hk ih ⊢
     by_cases aR:k < (s.done).length
     ·have t1:(decide ((k:Int) < ((s.done).length:Int)))=true:=by simpa using aR
      obtain ⟨x,hx⟩:∃ x,(s.done)[k]?=some x:=⟨_,List.getElem?_eq_getElem aR⟩
      have hm:=List.mem_of_getElem? hx
      repeat (refine gn ?_)
      refine J.draw (by kernel_rfl) rfl ?_;refine JW.base none ?_;refine tk 0 ?_;refine tk 1 ?_;refine tk 2 ?_;refine JD.take 3 rfl rfl (by kernel_rfl) rfl (qb rfl) (Qt.cq rfl rfl (by omega) (jg hx)) rfl ?_;refine tk 4 ?_;refine tk 5 ?_;refine tk 6 ?_;refine tk 7 ?_;refine JD.take 8 rfl rfl (by kernel_rfl) rfl (qb rfl) (Qt.cq rfl rfl (by omega) (jg hx)) rfl ?_;refine tk 9 ?_;refine JD.take 10 rfl rfl (by kernel_rfl) rfl (qb rfl) (Qt.BN [.int .i64 x.g,.int .i64 x.op,.int .i64 x.call,.int .i64 x.jn,.int .i64 x.bG,.int .i64 x.wi,.int .i64 x.dh,.int .i64 x.re,.int .i64 x.res.code,.int .i64 x.res.cs,.int .i64 x.res.v,.bool x.res.ok,.int .i64 x.res.n] rfl rfl (fun w=>Wa w _ _ _ _ _ _ _ _ _ _ _ _ _) V7) rfl ?_;refine bH ?_
      repeat (refine gn ?_)
      exact (ih ⟨k + 1,by omega⟩ (by simp only;omega)).aU ⟨rfl,rfl,rfl,rfl,trivial⟩
     ·have t1:(decide ((k:Int) < ((s.done).length:Int)))=false:=by simpa using aR
      obtain rfl:k=(s.done).length:=by omega
      repeat (refine gn ?_)
      exact az Tryz.func18
end Fl
end Go.Proofs.YtofnbflkhgammaaGreat
