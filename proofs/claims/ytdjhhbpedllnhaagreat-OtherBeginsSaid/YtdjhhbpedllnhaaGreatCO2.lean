/-
  What the laws need, part CO2.
  Conditions: none.
-/
import Derived.Test.YtdjhhbpedllnhaaGreatB7
import Derived.Test.YtdjhhbpedllnhaaGreatB27
import Derived.Test.YtdjhhbpedllnhaaGreatCO1
import Derived.Laws.StructEq
set_option linter.unusedVariables false
set_option linter.unusedSimpArgs false
set_option linter.unnecessarySimpa false
set_option maxHeartbeats 2000000
namespace Go.Proofs.YtdjhhbpedllnhaaGreat
open Go.RowKit
namespace Fl
open Sx Go.Proofs.Tryz
section
variable {α:Type} {E:World→List Value→α→List Nat→Prop} {enc:α→List A}
end
theorem Z5 (p:List (List Pn.Op)):Pure prog 100 [.c (rA p)] (.c (bI (Pn.right p))) :=
 an.plain fun ok e xs hd=>by
  obtain ⟨v,ys,rfl,r,h⟩:=hd.c;rw [h.Pa];obtain ⟨S,s1,s2⟩:=P0 r;refine (Z4 e v p S s1).mono ?_
  rintro en w' ⟨rfl,k⟩
  exact ⟨_,rfl,k,RD.v rfl⟩
end Fl
open Go.RowKit
namespace Fl
open Sx Go.Proofs.Tryz
set_option maxRecDepth 100000
section
variable {P:Program} {c:Cx} {k:List Item} {f:Fm} {L L2:List aj} {T:TypeId} {ps:String} {af:Array Edge} {gd:Option (Nat × Bool)} {t:Nat}
theorem J.Zy (e sz:Nat):∀ (m:Nat) {A:List aj},J P c k f (A ++ List.replicate m (.row (.slice none 0 0) e sz []))→J P c k f A
 | 0,A,h=>by simpa using h
 | m + 1,A,h=>J.Zy e sz m (J.mg e sz (J.perm (by rw [List.replicate_succ];exact List.perm_middle) h))
end
theorem Z6 (b:Nat) (u:U) (s:ah) (g:Nat) (B:List (Int × Bool)) (R:List aj) (hg:g < s.gs.length) (n1:u.sg g=.slice none 0 0) (n2:u.wk g=.slice none 0 0) :
  an prog 103 [.c (.v (pt b)),.c (nI g)] (wl b u s (dQ u s) B R) (fun _:Unit=>(.bp [],wl b u (Sx.clear s g) (dQ u (Sx.clear s g)) B R)):=by
 refine an.intro func103 rfl rfl rfl (fun ok e=>?_);have OW:∀ x:Int,x=g→0≤x∧x < (dQ u s).length:=fun x hx=>by rw [vQ];omega
 have A:=vV (u:=u) hg;have HQ:((g:Int)).toNat < (dQ u s).length:=by rw [vQ];omega
 repeat (first | (refine K.indexAddr ?_;refine jq rfl rfl rfl (Qt.aI rfl rfl (OW _ rfl).1 (OW _ rfl).2) ?_) | refine gn ?_)
 refine J.draw (by kernel_rfl) rfl ?_;refine JW.base (some 24) ?_;refine tk 0 ?_;refine tk 1 ?_;refine tk 2 ?_;refine tk 3 ?_;refine JD.take 4 rfl rfl (by kernel_rfl) rfl (qb rfl) (Qt.aL rfl A rfl) rfl ?_;refine tk 5 ?_;refine tk 6 ?_;refine tk 7 ?_;refine JD.take 8 rfl rfl (by kernel_rfl) rfl (qb rfl) (Qt.aL rfl A rfl) rfl ?_;refine tk 9 ?_;refine tk 10 ?_;refine tk 11 ?_;refine JD.take 12 rfl rfl (by kernel_rfl) rfl (qb rfl) (Qt.aL rfl A rfl) rfl ?_;refine tk 13 ?_;refine tk 14 ?_;refine tk 15 ?_;refine JD.take 16 rfl rfl (by kernel_rfl) rfl (qb rfl) (Qt.aL rfl A rfl) rfl ?_;refine tk 17 ?_;refine tk 18 ?_;refine tk 19 ?_;refine JD.take 20 rfl rfl (by kernel_rfl) rfl (qb rfl) (Qt.aL rfl A rfl) rfl ?_;refine tk 21 ?_;refine JD.take 22 rfl rfl (by kernel_rfl) rfl (qb rfl) (Qt.le (.agg (gW (oG (aa s g)) (.slice none 0 0) (.slice none 0 0))) (Qt.build rfl (by kernel_rfl)) (.agg (by repeat (first | exact .nil | refine .cons .refl ?_ | refine .cons .nil ?_)))) rfl ?_;refine tk 23 ?_;refine jt 24 rfl rfl (Ld.eK rfl rfl rfl rfl HQ) (fun _=>?_);refine bR ?_;have h1:dQ u (Sx.clear s g)=(dQ u s).set g (gW (oG (aa s g)) (.slice none 0 0) (.slice none 0 0)):=by
  have:=D8 (u:=u) (x:=oG (aa s g)) hg;rw [n1,n2] at this;exact this.symm
 refine J.dN (show wl b u (Sx.clear s g) (dQ u (Sx.clear s g)) B R=wl b u s ((dQ u s).set g (gW (oG (aa s g)) (.slice none 0 0) (.slice none 0 0))) B R by rw [h1];rfl) ?_
 (exact J.iV func103 rfl .nil () (by exact .refl) rfl)
def zGq (ops:List Pn.Op):Gr:=⟨ops,0,0,0,false,0,false,0,0,0,0,0,0,0,0,⟨0,0,0,false,0⟩,[],[],[],[],0⟩
def nS (p:List (List Pn.Op)) (sn cn:Nat) (d:List Int) (k:Nat):ah:={ Sx.start p sn cn d with gs:=(p.take k).map (clean · 0) }
theorem Y8 (b:Nat) (u:U) (p:List (List Pn.Op)) (sn cn:Nat) (d:List Int) (B:List (Int × Bool)) (hH:u.H=List.replicate sn false):wl b u (nS p sn cn d 0) [] B [] =
  [.box b 68 [nI sn,nI cn,nI 0,.v u.vG,.v u.pB,.v u.vR,.v u.vC,.v u.pL,.v u.pQ,.v u.vS,.v u.pP,.v (pt u.bD),mU d,.v u.vM],
   .row u.vG 47 25 [],.row u.vR 106 1 [],.row u.vC 4 1 [],
   .row u.vS 52 7 (List.replicate sn (vs [.bool false,.int .i64 0,.int .i64 0,.int .i64 0,.bool false,.int .i64 0,.bool false])),.row u.vM 54 13 [],
   .box u.bD 130 [mU d,nI 0],aM (tB u.pB B) u.TB,aM (tL u.pL []) u.TL,aM (tQ u.pQ sn (List.replicate 16 [])) u.TQ,aM (tP u.pP sn cn (Po.new sn p.length)) u.TP,aM (tR []) u.TR]:=by
 have e1:(nS p sn cn d 0).aA.map eS=List.replicate sn (vs [.bool false,.int .i64 0,.int .i64 0,.int .i64 0,.bool false,.int .i64 0,.bool false]):=by
  simp [nS,Sx.start,List.map_replicate,eS,fB,nI,bI,vs]
 have e2:dV u (nS p sn cn d 0)=Po.new sn p.length:=by
  unfold dV Po.new;rw [hH];have:(nS p sn cn d 0).cache=List.replicate p.length []:=by simp [nS,Sx.start,List.map_const']
  rw [this];rfl
 have e3:(nS p sn cn d 0).aA.length=sn:=by simp [nS,Sx.start]
 unfold wl;rw [e1,e2,e3];rfl
@[reducible] def uNq (u:U) (v:Value):U:={ u with vG:=v,sg:=fun _=>.slice none 0 0,wk:=fun _=>.slice none 0 0 }
theorem Zz (p:List (List Pn.Op)) (sn cn:Nat) (d:List Int) {k:Nat} (hk:k≤p.length):(nS p sn cn d k).gs.length=k:=by simp [nS];omega
def mS (p:List (List Pn.Op)) (sn cn:Nat) (d:List Int) (k:Nat) (ops:List Pn.Op):ah:={ Sx.start p sn cn d with gs:=(p.take k).map (clean · 0) ++ [zGq ops] }
theorem Z7 (u:U) (v:Value) (p:List (List Pn.Op)) (sn cn:Nat) (d:List Int) {k:Nat} (hk:k < p.length) (ops:List Pn.Op):dQ (uNq u v) (mS p sn cn d k ops)=dQ (uNq u v) (nS p sn cn d k) ++ [gW (zGq ops) (.slice none 0 0) (.slice none 0 0)]:=by
 have hl:((p.take k).map (clean · 0)).length=k:=by simp;omega
 have h1:(mS p sn cn d k ops).gs.length=k + 1:=by simp [mS];omega
 unfold dQ;rw [h1,Zz p sn cn d (by omega),List.range_succ,List.map_append,List.map_cons,List.map_nil]
 congr 1
 ·refine List.map_congr_left fun j hj=>?_
  have hj:j < k:=by simpa using hj
  have:aa (mS p sn cn d k ops) j=aa (nS p sn cn d k) j:=by
   unfold aa;rw [List.getD_eq_getElem?_getD,List.getD_eq_getElem?_getD]
   show (((p.take k).map (clean · 0) ++ [zGq ops])[j]?).getD _=(((p.take k).map (clean · 0))[j]?).getD _;rw [List.getElem?_append_left (by omega)]
  rw [this]
 ·have:aa (mS p sn cn d k ops) k=zGq ops:=by
   unfold aa;rw [List.getD_eq_getElem?_getD]
   show (((p.take k).map (clean · 0) ++ [zGq ops])[k]?).getD _=_;rw [List.getElem?_append_right (by omega),hl];simp
  rw [this]
theorem Z8 (p:List (List Pn.Op)) (sn cn:Nat) (d:List Int) {k:Nat} (ops:List Pn.Op) (ho:p[k]?=some ops):Sx.clear (mS p sn cn d k ops) k=nS p sn cn d (k + 1):=by
 have hk:=(List.getElem?_eq_some_iff.1 ho).1;have hl:((p.take k).map (clean · 0)).length=k:=by simp;omega
 have:aa (mS p sn cn d k ops) k=zGq ops:=by
  unfold aa;rw [List.getD_eq_getElem?_getD]
  show (((p.take k).map (clean · 0) ++ [zGq ops])[k]?).getD _=_;rw [List.getElem?_append_right (by omega),hl];simp
 unfold Sx.clear;rw [this];unfold ai nS;have e:(mS p sn cn d k ops).gs.set k (oG (zGq ops))=(p.take (k + 1)).map (clean · 0):=by
  show ((p.take k).map (clean · 0) ++ [zGq ops]).set k _=_;rw [List.set_append_right _ _ (by omega),hl,List.take_add_one,ho,List.map_append];simp [oG,zGq,clean]
 rw [e];rfl
theorem Z9 (u:U) (v:Value) (p:List (List Pn.Op)) (sn cn:Nat) (d:List Int):eE (uNq u v) (Sx.start p sn cn d)=List.replicate (p.length + p.length) (.row (.slice none 0 0) 3 1 []):=by
 have hl:(Sx.start p sn cn d).gs.length=p.length:=by simp [Sx.start]
 have h:∀ j,j < p.length→(aa (Sx.start p sn cn d) j).aq=[]∧(aa (Sx.start p sn cn d) j).au=[]:=fun j hj=>by
  have:aa (Sx.start p sn cn d) j=clean p[j] 0:=by
   unfold aa;rw [List.getD_eq_getElem?_getD]
   show ((p.map (clean · 0))[j]?).getD _=_;rw [List.getElem?_map,List.getElem?_eq_getElem hj];rfl
  rw [this];exact ⟨rfl,rfl⟩
 unfold eE;rw [hl,← List.replicate_append_replicate]
 congr 1
 ·refine List.eq_replicate_iff.2 ⟨by simp,fun x hx=>?_⟩;obtain ⟨j,hj,rfl⟩:=List.mem_map.1 hx;rw [(h j (by simpa using hj)).1];rfl
 ·refine List.eq_replicate_iff.2 ⟨by simp,fun x hx=>?_⟩;obtain ⟨j,hj,rfl⟩:=List.mem_map.1 hx;rw [(h j (by simpa using hj)).2];rfl
theorem aaa (p:List (List Pn.Op)) (sn cn:Nat) (d:List Int) (h:p.length≤8):Bc.oL p.length=(Sx.start p sn cn d).gs.map fun x=>(x.status,x.token):=by
 unfold Bc.oL;rw [show (max 0 (min (p.length:Int) 4096)).toNat=p.length by omega];simp [Sx.start,List.map_map,Function.comp_def,clean,List.map_const']
theorem aab (p:List (List Pn.Op)) (sn cn:Nat) (d:List Int):nS p sn cn d p.length=Sx.start p sn cn d:=by
 unfold nS;rw [List.take_of_length_le (Nat.le_refl _)];rfl
theorem aac (p:List (List Pn.Op)) (sn cn:Nat) (d:List Int) (hr:Pn.right p=true) (hs:sn≤64) (h1:1≤cn) (h2:cn≤16) (hd:d.length≤100000) :
  an prog 42 [.c (rA p),.agg [nI sn,nI cn],.c (mU d)] [] (fun x:Nat × U=>(.bp [.c (.v (pt x.1)),.c (nI 0)],wd x.1 x.2 (Sx.start p sn cn d))):=by
 obtain ⟨r1,r2,r3⟩:=Qb hr;have CR:=Z5 p;rw [hr] at CR;have CP:=ZQ sn p.length cn hs r2 h1 h2;have CQ:=Oq sn 16 hs (by omega);have CC:=It p (by omega) (fun ops ho=>⟨by have:=(r3 ops ho).1;omega,fun o yE=>by have:=(r3 ops ho).2 o yE;omega⟩);have CL:=NZ 0;rw [show Lt.oL 0=[] by decide] at CL;have CB:=OA (p.length:Int);have CD:=Pe d hd;refine an.intro func42 rfl rfl rfl (fun ok e=>?_)
 repeat (first | (refine K.call ?_;first | (refine JO.ld (Ld.vX CP (qb rfl) rfl (.cons .refl (.cons .refl (.cons .refl .nil)))) rfl ?_;intro xP) | (refine JO.ld (Ld.vX CQ (qb rfl) rfl (.cons .refl (.cons .refl .nil))) rfl ?_;intro xQ)) | refine ay ?_ | intro _)
 refine J.join (ι:=Nat × U) (fun x=>[(11,.c (.v (pt x.1))),(0,.c (rA p))]) (fun x=>wl x.1 (uNq x.2 (.slice none 0 0)) (nS p sn cn d 0) [] (Bc.oL p.length) []) (fun x=>?rest) (fun rest=>?_)
 case rest =>
  obtain ⟨b,u⟩:=x
  repeat (refine gn ?_)
  refine J.loop (ι:={ q:Nat × Value // q.1≤p.length }) (fun q=>[(58,.c (nI q.1.1)),(57,.c (nI p.length)),(56,.c (rA p)),(11,.c (.v (pt b)))]) (fun q=>wl b (uNq u q.1.2) (nS p sn cn d q.1.1) (dQ (uNq u q.1.2) (nS p sn cn d q.1.1)) (Bc.oL p.length) []) (fun q=>p.length - q.1.1) ⟨(0,.slice none 0 0),Nat.zero_le _⟩ (fun X h=>h.aW ⟨rfl,rfl,rfl,rfl,trivial⟩) (fun q ih=>?_);obtain ⟨⟨k,v⟩,hk⟩:=q;simp only at hk ih ⊢
  by_cases bF:k < p.length
  ·have t1:(decide ((k:Int) < (p.length:Int)))=true:=by simpa using bF
   obtain ⟨ops,ho⟩:∃ ops,p[k]?=some ops:=⟨_,List.getElem?_eq_getElem bF⟩
   have J1:(p.map fun ops=>[A.r 6 (ops.map dH)])[((k:Int)).toNat]?=some [A.r 6 (ops.map dH)]:=by rw [Int.toNat_natCast,List.getElem?_map,ho];rfl
   have CK:(dQ (uNq u v) (nS p sn cn d k)).length=k:=by rw [vQ,Zz p sn cn d hk]
   repeat (first | (refine K.store ?_;refine JO.ld (Ld.cY rfl rfl (by exact rfl)) rfl (fun _=>?_)) | (refine K.build ?_;refine jq rfl rfl rfl ((Qt.le (.agg (gW (zGq ops) (.slice none 0 0) (.slice none 0 0))) (Qt.build rfl (by kernel_rfl)) (.agg (by repeat (first | exact .nil | refine .cons .refl ?_ | refine .cons .nil ?_))))) ?_) | (refine K.bi ?_;refine JO.ld (Ld.cy (qb rfl) rfl rfl .dj (by (simp;omega))) rfl (fun _=>?_)) | refine ay ?_ | intro _)
   rename_i bl v2 _;have CK:=Z6 b (uNq u v2) (mS p sn cn d k ops) k (Bc.oL p.length) [.row (.slice (some ⟨bl,0,none⟩) 1 1) 47 25 [gW (zGq ops) (.slice none 0 0) (.slice none 0 0)]] (by simp [mS];omega) rfl rfl;rw [Z8 p sn cn d ops ho,Z7 u v2 p sn cn d bF] at CK;refine JO.ld (Ld.perm ?_ (Ld.fj CK (qb rfl) rfl (.cons .refl (.cons .refl .nil)))) rfl ?_
   ·repeat (first | exact List.Perm.refl _ | refine gY 0 rfl rfl ?_ | refine gY 1 rfl rfl ?_ | refine gY 2 rfl rfl ?_)
   intro _
   repeat (refine gn ?_)
   refine J.cS 12 ?_;exact (ih ⟨(k + 1,v2),by simp only;omega⟩ (by simp only;omega)).aW ⟨rfl,rfl,rfl,rfl,trivial⟩
  ·have t1:(decide ((k:Int) < (p.length:Int)))=false:=by simpa using bF
   obtain rfl:k=p.length:=by omega
   repeat (refine gn ?_)
   refine J.Zy 3 1 (p.length + p.length) ?_;rw [aab,aaa p sn cn d r2,← Z9 u v p sn cn d]
   (exact J.bN func42 rfl (.cons (.tmp rfl) (.cons (.tmp rfl) .nil)) (b,uNq u v) (by exact .refl) rfl)
 refine J.draw (by kernel_rfl) rfl ?_;refine JW.base none ?_;refine tk 0 ?_;refine tk 1 ?_;refine tk 2 ?_;refine tk 5 ?_;refine tk 6 ?_;refine tk 7 ?_;refine tk 9 ?_;refine tk 10 ?_;refine tk 12 ?_;refine JD.cU (i:=3) (j:=8) (by kernel_rfl) ?_ ?_;refine JS.bZ rfl rfl rfl (qb rfl) (Ld.vX CB (qb rfl) rfl (.cons .refl .nil)) .none (fun _=>?_);refine JD.cU (i:=4) (j:=8) (by kernel_rfl) ?_ ?_;refine JS.bZ rfl rfl rfl (qb rfl) (Ld.vX CL (qb rfl) rfl (.cons .refl .nil)) .none (fun _=>?_);refine JD.cU (i:=8) (j:=11) (by kernel_rfl) ?_ ?_;refine JS.bZ rfl rfl rfl (qb rfl) (Ld.make sn (qb rfl) rfl rfl rfl (by omega)) .none (fun _=>?_);refine jl 11 rfl rfl rfl rfl (Ld.vX CD (qb rfl) rfl (.cons .refl .nil)) .none (fun _=>?_);refine jl 13 rfl rfl rfl rfl (Ld.iI (qb rfl) rfl rfl .read (by (simp;omega))) .none (fun _=>?_);refine jk 14 rfl rfl rfl rfl (Qt.build rfl (by kernel_rfl)) ?_;refine jl 15 rfl rfl rfl rfl (Ld.box (qb rfl) rfl rfl) .none (fun _=>?_);refine jk 16 rfl rfl rfl rfl (Qt.assign rfl) ?_;refine bE ?_
 rotate_left
 refine JS.bZ rfl rfl rfl (qb rfl) (Ld.vX CD (qb rfl) rfl (.cons .refl .nil)) .none (fun _=>?_);refine JD.cU (i:=8) (j:=13) (by kernel_rfl) ?_ ?_;refine JS.bZ rfl rfl rfl (qb rfl) (Ld.make sn (qb rfl) rfl rfl rfl (by omega)) .none (fun _=>?_);refine jl 13 rfl rfl rfl rfl (Ld.iI (qb rfl) rfl rfl .read (by (simp;omega))) .none (fun _=>?_);refine jk 14 rfl rfl rfl rfl (Qt.build rfl (by kernel_rfl)) ?_;refine jl 15 rfl rfl rfl rfl (Ld.box (qb rfl) rfl rfl) .none (fun _=>?_);refine jk 16 rfl rfl rfl rfl (Qt.assign rfl) ?_;refine bE ?_
 rotate_left
 refine JS.bZ rfl rfl rfl (qb rfl) (Ld.iI (qb rfl) rfl rfl .read (by (simp;omega))) .none (fun _=>?_);refine jl 8 rfl rfl rfl rfl (Ld.make sn (qb rfl) rfl rfl rfl (by omega)) .none (fun _=>?_);refine jk 14 rfl rfl rfl rfl (Qt.build rfl (by kernel_rfl)) ?_;refine jl 15 rfl rfl rfl rfl (Ld.box (qb rfl) rfl rfl) .none (fun _=>?_);refine jk 16 rfl rfl rfl rfl (Qt.assign rfl) ?_;refine bE ?_
 rotate_left
 refine JS.bZ rfl rfl rfl (qb rfl) (Ld.make sn (qb rfl) rfl rfl rfl (by omega)) .none (fun _=>?_);refine jl 4 rfl rfl rfl rfl (Ld.vX CL (qb rfl) rfl (.cons .refl .nil)) .none (fun _=>?_);refine jl 11 rfl rfl rfl rfl (Ld.vX CD (qb rfl) rfl (.cons .refl .nil)) .none (fun _=>?_);refine jl 13 rfl rfl rfl rfl (Ld.iI (qb rfl) rfl rfl .read (by (simp;omega))) .none (fun _=>?_);refine jk 14 rfl rfl rfl rfl (Qt.build rfl (by kernel_rfl)) ?_;refine jl 15 rfl rfl rfl rfl (Ld.box (qb rfl) rfl rfl) .none (fun _=>?_);refine jk 16 rfl rfl rfl rfl (Qt.assign rfl) ?_;refine bE ?_
 rotate_left
 refine JS.bZ rfl rfl rfl (qb rfl) (Ld.make sn (qb rfl) rfl rfl rfl (by omega)) .none (fun _=>?_);refine jl 3 rfl rfl rfl rfl (Ld.vX CB (qb rfl) rfl (.cons .refl .nil)) .none (fun _=>?_);refine jl 4 rfl rfl rfl rfl (Ld.vX CL (qb rfl) rfl (.cons .refl .nil)) .none (fun _=>?_);refine jl 11 rfl rfl rfl rfl (Ld.vX CD (qb rfl) rfl (.cons .refl .nil)) .none (fun _=>?_);refine jl 13 rfl rfl rfl rfl (Ld.iI (qb rfl) rfl rfl .read (by (simp;omega))) .none (fun _=>?_);refine jk 14 rfl rfl rfl rfl (Qt.build rfl (by kernel_rfl)) ?_;refine jl 15 rfl rfl rfl rfl (Ld.box (qb rfl) rfl rfl) .none (fun _=>?_);refine jk 16 rfl rfl rfl rfl (Qt.assign rfl) ?_;refine bE ?_
 rotate_left
 all_goals
  refine J.cS 7 ?_;refine J.mg 47 25 ?_;refine J.mg 106 1 ?_;refine J.mg 4 1 ?_;refine J.mg 54 13 ?_;refine J.Qa (Φ:=tR []) tR.ok tR.none ?_
  first
   | (rename_i bS xB xL bD _ bW;refine J.perm ?_ (J.dN (Y8 bW ⟨.slice none 0 0,xB.1,.slice none 0 0,.slice none 0 0,xL.1,xQ.1,.slice (some ⟨bS,0,none⟩) sn sn,xP.1,bD,.slice none 0 0,xB.2,xL.2,xQ.2,xP.2,[],List.replicate sn false,fun _=>.slice none 0 0,fun _=>.slice none 0 0,fun _=>.slice none 0 0⟩ p sn cn d (Bc.oL p.length) rfl) ((rest (bW,⟨.slice none 0 0,xB.1,.slice none 0 0,.slice none 0 0,xL.1,xQ.1,.slice (some ⟨bS,0,none⟩) sn sn,xP.1,bD,.slice none 0 0,xB.2,xL.2,xQ.2,xP.2,[],List.replicate sn false,fun _=>.slice none 0 0,fun _=>.slice none 0 0,fun _=>.slice none 0 0⟩)).aW ⟨rfl,rfl,trivial⟩));(repeat (first | exact List.Perm.refl _ | refine gY 0 rfl rfl ?_ | refine gY 1 rfl rfl ?_ | refine gY 2 rfl rfl ?_ | refine gY 3 rfl rfl ?_ | refine gY 4 rfl rfl ?_ | refine gY 5 rfl rfl ?_ | refine gY 6 rfl rfl ?_ | refine gY 7 rfl rfl ?_ | refine gY 8 rfl rfl ?_ | refine gY 9 rfl rfl ?_ | refine gY 10 rfl rfl ?_ | refine gY 11 rfl rfl ?_));done)
   | (rename_i xB bS xL bD _ bW;refine J.perm ?_ (J.dN (Y8 bW ⟨.slice none 0 0,xB.1,.slice none 0 0,.slice none 0 0,xL.1,xQ.1,.slice (some ⟨bS,0,none⟩) sn sn,xP.1,bD,.slice none 0 0,xB.2,xL.2,xQ.2,xP.2,[],List.replicate sn false,fun _=>.slice none 0 0,fun _=>.slice none 0 0,fun _=>.slice none 0 0⟩ p sn cn d (Bc.oL p.length) rfl) ((rest (bW,⟨.slice none 0 0,xB.1,.slice none 0 0,.slice none 0 0,xL.1,xQ.1,.slice (some ⟨bS,0,none⟩) sn sn,xP.1,bD,.slice none 0 0,xB.2,xL.2,xQ.2,xP.2,[],List.replicate sn false,fun _=>.slice none 0 0,fun _=>.slice none 0 0,fun _=>.slice none 0 0⟩)).aW ⟨rfl,rfl,trivial⟩));(repeat (first | exact List.Perm.refl _ | refine gY 0 rfl rfl ?_ | refine gY 1 rfl rfl ?_ | refine gY 2 rfl rfl ?_ | refine gY 3 rfl rfl ?_ | refine gY 4 rfl rfl ?_ | refine gY 5 rfl rfl ?_ | refine gY 6 rfl rfl ?_ | refine gY 7 rfl rfl ?_ | refine gY 8 rfl rfl ?_ | refine gY 9 rfl rfl ?_ | refine gY 10 rfl rfl ?_ | refine gY 11 rfl rfl ?_));done)
   | (rename_i xB xL bS bD _ bW;refine J.perm ?_ (J.dN (Y8 bW ⟨.slice none 0 0,xB.1,.slice none 0 0,.slice none 0 0,xL.1,xQ.1,.slice (some ⟨bS,0,none⟩) sn sn,xP.1,bD,.slice none 0 0,xB.2,xL.2,xQ.2,xP.2,[],List.replicate sn false,fun _=>.slice none 0 0,fun _=>.slice none 0 0,fun _=>.slice none 0 0⟩ p sn cn d (Bc.oL p.length) rfl) ((rest (bW,⟨.slice none 0 0,xB.1,.slice none 0 0,.slice none 0 0,xL.1,xQ.1,.slice (some ⟨bS,0,none⟩) sn sn,xP.1,bD,.slice none 0 0,xB.2,xL.2,xQ.2,xP.2,[],List.replicate sn false,fun _=>.slice none 0 0,fun _=>.slice none 0 0,fun _=>.slice none 0 0⟩)).aW ⟨rfl,rfl,trivial⟩));(repeat (first | exact List.Perm.refl _ | refine gY 0 rfl rfl ?_ | refine gY 1 rfl rfl ?_ | refine gY 2 rfl rfl ?_ | refine gY 3 rfl rfl ?_ | refine gY 4 rfl rfl ?_ | refine gY 5 rfl rfl ?_ | refine gY 6 rfl rfl ?_ | refine gY 7 rfl rfl ?_ | refine gY 8 rfl rfl ?_ | refine gY 9 rfl rfl ?_ | refine gY 10 rfl rfl ?_ | refine gY 11 rfl rfl ?_));done)
   | (rename_i xB xL bD bS _ bW;refine J.perm ?_ (J.dN (Y8 bW ⟨.slice none 0 0,xB.1,.slice none 0 0,.slice none 0 0,xL.1,xQ.1,.slice (some ⟨bS,0,none⟩) sn sn,xP.1,bD,.slice none 0 0,xB.2,xL.2,xQ.2,xP.2,[],List.replicate sn false,fun _=>.slice none 0 0,fun _=>.slice none 0 0,fun _=>.slice none 0 0⟩ p sn cn d (Bc.oL p.length) rfl) ((rest (bW,⟨.slice none 0 0,xB.1,.slice none 0 0,.slice none 0 0,xL.1,xQ.1,.slice (some ⟨bS,0,none⟩) sn sn,xP.1,bD,.slice none 0 0,xB.2,xL.2,xQ.2,xP.2,[],List.replicate sn false,fun _=>.slice none 0 0,fun _=>.slice none 0 0,fun _=>.slice none 0 0⟩)).aW ⟨rfl,rfl,trivial⟩));(repeat (first | exact List.Perm.refl _ | refine gY 0 rfl rfl ?_ | refine gY 1 rfl rfl ?_ | refine gY 2 rfl rfl ?_ | refine gY 3 rfl rfl ?_ | refine gY 4 rfl rfl ?_ | refine gY 5 rfl rfl ?_ | refine gY 6 rfl rfl ?_ | refine gY 7 rfl rfl ?_ | refine gY 8 rfl rfl ?_ | refine gY 9 rfl rfl ?_ | refine gY 10 rfl rfl ?_ | refine gY 11 rfl rfl ?_));done)
   | (rename_i xB xL bD _ bS bW;refine J.perm ?_ (J.dN (Y8 bW ⟨.slice none 0 0,xB.1,.slice none 0 0,.slice none 0 0,xL.1,xQ.1,.slice (some ⟨bS,0,none⟩) sn sn,xP.1,bD,.slice none 0 0,xB.2,xL.2,xQ.2,xP.2,[],List.replicate sn false,fun _=>.slice none 0 0,fun _=>.slice none 0 0,fun _=>.slice none 0 0⟩ p sn cn d (Bc.oL p.length) rfl) ((rest (bW,⟨.slice none 0 0,xB.1,.slice none 0 0,.slice none 0 0,xL.1,xQ.1,.slice (some ⟨bS,0,none⟩) sn sn,xP.1,bD,.slice none 0 0,xB.2,xL.2,xQ.2,xP.2,[],List.replicate sn false,fun _=>.slice none 0 0,fun _=>.slice none 0 0,fun _=>.slice none 0 0⟩)).aW ⟨rfl,rfl,trivial⟩));(repeat (first | exact List.Perm.refl _ | refine gY 0 rfl rfl ?_ | refine gY 1 rfl rfl ?_ | refine gY 2 rfl rfl ?_ | refine gY 3 rfl rfl ?_ | refine gY 4 rfl rfl ?_ | refine gY 5 rfl rfl ?_ | refine gY 6 rfl rfl ?_ | refine gY 7 rfl rfl ?_ | refine gY 8 rfl rfl ?_ | refine gY 9 rfl rfl ?_ | refine gY 10 rfl rfl ?_ | refine gY 11 rfl rfl ?_));done)
end Fl
open Go.RowKit
namespace Fl
open Sx Go.Proofs.Tryz
set_option maxRecDepth 100000
section
variable {P:Program} {c:Cx} {f:Fm} {L:List aj} {T:TypeId} {ps:String} {af:Array Edge} {gd:Option (Nat × Bool)} {t:Nat}
theorem Qt.tr {x y:Operand} {X Y:Nat} {kd:IntKind} {m:Int} (h:bg f x=some (.c (.v (.int kd m)))) (hy:bg f y=some (.c (.v (.int kd m)))):Qt P c [] ⟨t,.binOp .neq X x y Y,T,ps,af,gd⟩ f L (.c (.v (.bool false))) :=
 Qt.cmp h hy (by simp [u7])
theorem Qt.Mb {x y:Operand} {X Y:Nat} {m:Bool} [i:xm P X] (h:bg f x=some (.c (.v (.bool m)))) (hy:bg f y=some (.c (.v (.bool m)))):Qt P c [] ⟨t,.binOp .neq X x y Y,T,ps,af,gd⟩ f L (.c (.v (.bool false))) :=
 (Qt.xw h hy).eq (by simp)
end
end Fl
open Go.RowKit
namespace Fl
open Sx Go.Proofs.Tryz
set_option maxRecDepth 100000
end Fl
open Go.RowKit
namespace Fl
open Sx Go.Proofs.Tryz
section
variable {P:Program} {c:Cx} {k:List Item} {f:Fm} {L:List aj} {ops:Array Oper} {T X:TypeId} {ps:String} {af:Array Edge} {gd:Option (Nat × Bool)} {t:Nat}
theorem Qt.YV (v:Value) {x y:Operand} {X e sz j b o n' uT N cap:Nat} {kd:IntKind} {n:Int} {l:List (List A)} [i:fu P X e sz] [bx:fU L v e sz l j] (hv:v=.slice (some ⟨b,o,none⟩) N cap) (h:bg f x=some (.c (.v (.slice (some ⟨b,o,none⟩) n' uT)))) (hy:bg f y=some (.c (.v (.int kd n)))) (hn:0≤n) (hk:n < n'):Qt P c [] ⟨t,.indexAddr X x y,T,ps,af,gd⟩ f L (.ow v sz n.toNat 0):=⟨fun a w s=>by
 have rx:=s.val h;have ry:=s.val hy;refine ⟨.pointer (some ⟨b,o + n.toNat * sz,none⟩),by unfold RD;exact ⟨b,o,N,cap,hv,by rw [Nat.add_zero]⟩,fun w' k=>?_⟩;simp only [execOp,rx,ry,Instr.indexAt,asIntOf,Sem.run_bind,Sem.run_pure,Result.andThen_ok,run_underlying (ke.jA i.h),hn,hk,and_self,↓reduceIte,iQ.run i.s,Addr.add_mid]⟩
end
end Fl
namespace Sx
def YR (l:List Int) (i j:Nat):List Int:=(l.set i (l.getD j 0)).set j (l.getD i 0)
def YW (l:List Int) (n a:Nat):Nat:=if 2 * a + 2 < n∧l.getD (2 * a + 1) 0 < l.getD (2 * a + 2) 0 then 2 * a + 2 else 2 * a + 1
theorem Zd {l:List Int} {n a:Nat} (h:2 * a + 1 < n):a < YW l n a∧YW l n a < n:=by unfold YW;split <;> omega
def sink (l:List Int) (n a:Nat):List Int :=
 if h:2 * a + 1 < n then (if l.getD (YW l n a) 0≤l.getD a 0 then l else sink (YR l a (YW l n a)) n (YW l n a)) else l
termination_by n - a
decreasing_by have:=Zd (l:=l) h;omega
def Y0:Nat→List Int→List Int
 | 0,l=>l
 | i + 1,l=>Y0 i (sink l l.length i)
def YY:Nat→List Int→List Int
 | 0,l=>l
 | e + 1,l=>YY e (sink (YR l 0 (e + 1)) (e + 1) 0)
def Zh (l:List Int):List Int:=YY ((Y0 (l.length / 2) l).length - 1) (Y0 (l.length / 2) l)
theorem Y3 {l:List Int} {i j:Nat}:(YR l i j).length=l.length:=by simp [YR]
theorem ZA {l:List Int} {i j k:Nat} (hi:i < l.length) (hj:j < l.length):(YR l i j).getD k 0=if k=j then l.getD i 0 else if k=i then l.getD j 0 else l.getD k 0:=by
 unfold YR;simp only [List.getD_eq_getElem?_getD,List.getElem?_set,List.length_set]
 grind
theorem ZB {l:List Int} {i j:Nat} (hi:i < l.length) (hj:j < l.length):(YR l i j).Perm l:=by
 unfold YR;rw [List.getD_eq_getElem?_getD,List.getD_eq_getElem?_getD,List.getElem?_eq_getElem hj,List.getElem?_eq_getElem hi];exact List.set_set_perm hi hj
theorem Zi (l:List Int) (n a:Nat):(sink l n a).length=l.length:=by
 unfold sink
 split
 ·rename_i h
  split
  ·rfl
  ·have:=Zd (l:=l) h;rw [Zi,Y3]
 ·rfl
termination_by n - a
def Hp (l:List Int) (n a:Nat) (but:Nat):Prop:=∀ i c,a≤i→i≠but→(c=2 * i + 1∨c=2 * i + 2)→c < n→l.getD c 0≤l.getD i 0
structure SkP (l r:List Int) (n:Nat):Prop where
 pm:r.Perm l
 len:r.length=l.length
 out:∀ i,n≤i→r.getD i 0=l.getD i 0
 ue:∀ i,i < n→∃ j,j < n∧r.getD i 0=l.getD j 0
theorem Zj (l:List Int) (n a0 a:Nat) (hn:n≤l.length) (h1:Hp l n a0 a) (h2:∀ i c,a0≤i→(a=2 * i + 1∨a=2 * i + 2)→(c=2 * a + 1∨c=2 * a + 2)→c < n→l.getD c 0≤l.getD i 0) :
  Hp (sink l n a) n a0 n∧SkP l (sink l n a) n:=by
 unfold sink
 split
 ·rename_i h;have hb:=Zd (l:=l) h;have hm:∀ c,(c=2 * a + 1∨c=2 * a + 2)→c < n→l.getD c 0≤l.getD (YW l n a) 0:=by
   intro c hc sB;unfold YW;split <;> rcases hc with rfl | rfl <;> first | omega | grind
  have dL:YW l n a=2 * a + 1∨YW l n a=2 * a + 2:=by unfold YW;split <;> omega
  generalize YW l n a=b at hb hm dL
  split
  ·rename_i hle;refine ⟨fun i c hi bV hc sB=>?_,.refl _,rfl,fun _ _=>rfl,fun i hi=>⟨i,hi,rfl⟩⟩
   by_cases e:i=a
   ·subst e;exact Int.le_trans (hm c hc sB) hle
   ·exact h1 i c hi e hc sB
  ·rename_i hle;have hg:∀ k,(YR l a b).getD k 0=if k=b then l.getD a 0 else if k=a then l.getD b 0 else l.getD k 0:=fun k=>ZA (by omega) (by omega)
   have:=Zj (YR l a b) n a0 b (by rw [Y3];exact hn) (fun i c hi bV hc sB=>by
    rw [hg,hg,if_neg bV]
    by_cases e1:c=b
    ·rw [if_pos e1];have:i=a:=by omega
     rw [if_pos this];omega
    ·rw [if_neg e1]
     by_cases e2:c=a
     ·rw [if_pos e2,az];exact h2 i b hi (by omega) dL hb.2
     ·rw [if_neg e2]
      by_cases e3:i=a
      ·rw [if_pos e3];exact hm c (by omega) sB
      ·rw [if_neg e3];exact h1 i c hi e3 hc sB) (fun i c hi hbi hc sB=>by
    have e3:i=a:=by omega
    rw [hg,hg,az,az,az,if_pos e3];exact h1 b c (by omega) (by omega) hc sB)
   refine ⟨this.1,this.2.pm.trans (ZB (by omega) (by omega)),this.2.len.trans Y3,fun i hi=>by rw [this.2.out i hi,hg,if_neg (by omega),if_neg (by omega)],fun i hi=>?_⟩;obtain ⟨j,hj,e⟩:=this.2.ue i hi;rw [e,hg]
   split
   ·exact ⟨a,by omega,rfl⟩
   ·split
    ·exact ⟨b,by omega,rfl⟩
    ·exact ⟨j,hj,rfl⟩
 ·rename_i h;refine ⟨fun i c hi bV hc sB=>?_,.refl _,rfl,fun _ _=>rfl,fun i hi=>⟨i,hi,rfl⟩⟩;exact h1 i c hi (by omega) hc sB
termination_by n - a
theorem Zk:∀ (k:Nat) (l:List Int),Hp l l.length k l.length→Hp (Y0 k l) l.length 0 l.length∧(Y0 k l).Perm l∧(Y0 k l).length=l.length
 | 0,l,h=>⟨h,.refl _,rfl⟩
 | k + 1,l,h=>by
  unfold Y0;have s:=Zj l l.length k k (Nat.le_refl _) (fun i c hi bV hc sB=>h i c (by omega) (by omega) hc sB) (fun i c hi e hc sB=>by omega);have:=Zk k (sink l l.length k) (by rw [s.2.len];exact s.1);rw [s.2.len] at this;exact ⟨this.1,this.2.1.trans s.2.pm,this.2.2⟩
theorem ZC {l:List Int} {n:Nat} (h:Hp l n 0 n):∀ i,i < n→l.getD i 0≤l.getD 0 0
 | 0,_=>Int.le_refl _
 | i + 1,hi=>by
  have h1:=h (i / 2) (i + 1) (Nat.zero_le _) (by omega) (by omega) hi;exact Int.le_trans h1 (ZC h (i / 2) (by omega))
theorem ZD:∀ (e:Nat) (l:List Int),e < l.length→Hp l (e + 1) 0 (e + 1)→(∀ i j,i≤e→e < j→j < l.length→l.getD i 0≤l.getD j 0)→(∀ i j,e < i→i≤j→j < l.length→l.getD i 0≤l.getD j 0) →
  (∀ i j,i≤j→j < l.length→(YY e l).getD i 0≤(YY e l).getD j 0)∧(YY e l).Perm l∧(YY e l).length=l.length
 | 0,l,he,hh,hb,hs=>⟨fun i j hi hj=>by
   unfold YY
   by_cases z:i=0
   ·by_cases y:j=0
    ·rw [z,y];exact Int.le_refl _
    ·exact hb i j (by omega) (by omega) hj
   ·exact hs i j (by omega) hi hj,.refl _,rfl⟩
 | e + 1,l,he,hh,hb,hs=>by
  unfold YY;have hg:∀ k,(YR l 0 (e + 1)).getD k 0=if k=e + 1 then l.getD 0 0 else if k=0 then l.getD (e + 1) 0 else l.getD k 0:=fun k=>ZA (by omega) (by omega)
  have hl:(YR l 0 (e + 1)).length=l.length:=Y3;have s:=Zj (YR l 0 (e + 1)) (e + 1) 0 0 (by omega) (fun i c hi bV hc sB=>by
   rw [hg,hg,az,az,az,if_neg bV];exact hh i c hi (by omega) hc (by omega)) (fun i c hi e' hc sB=>by omega)
  have r:=ZC hh;have fr:∀ i,i≤e→(sink (YR l 0 (e + 1)) (e + 1) 0).getD i 0≤l.getD 0 0∧∀ j,e + 1 < j→j < l.length→(sink (YR l 0 (e + 1)) (e + 1) 0).getD i 0≤l.getD j 0:=by
   intro i hi;obtain ⟨j,hj,ej⟩:=s.2.ue i (by omega);rw [ej,hg,az]
   split
   ·exact ⟨r _ (by omega),fun k hk bF=>hb _ _ (by omega) hk bF⟩
   ·exact ⟨r _ (by omega),fun k hk bF=>hb _ _ (by omega) hk bF⟩
  have ot:∀ j,e < j→(sink (YR l 0 (e + 1)) (e + 1) 0).getD j 0=if j=e + 1 then l.getD 0 0 else l.getD j 0:=fun j hj=>by
   rw [s.2.out j (by omega),hg]
   split
   ·rfl
   ·rw [az]
  have:=ZD e (sink (YR l 0 (e + 1)) (e + 1) 0) (by rw [s.2.len,hl];omega) s.1 (fun i j hi hj F7=>by
   rw [s.2.len,hl] at F7;rw [ot j hj]
   split
   ·exact (fr i hi).1
   ·exact (fr i hi).2 j (by omega) F7) (fun i j hi xE F7=>by
   rw [s.2.len,hl] at F7;rw [ot i hi,ot j (by omega)]
   split
   ·split
    ·exact Int.le_refl _
    ·exact hb 0 j (by omega) (by omega) F7
   ·rw [az];exact hs i j (by omega) xE F7)
  rw [s.2.len,hl] at this;exact ⟨this.1,this.2.1.trans (s.2.pm.trans (ZB (by omega) (by omega))),this.2.2⟩
theorem ZE (l:List Int):(sort l).Pairwise (·≤·)∧(sort l).Perm l:=by
 have:∀ (l acc:List Int),acc.Pairwise (·≤·)→(l.foldl (fun acc x=>insert x acc) acc).Pairwise (·≤·)∧(l.foldl (fun acc x=>insert x acc) acc).Perm (acc ++ l):=by
  intro l
  induction l with
  | nil=>intro acc h;simpa using h
  | cons x l ih =>
   intro acc h;obtain ⟨i1,i2⟩:=ih _ (insert_sorted x acc h);refine ⟨i1,i2.trans ?_⟩;exact ((insert_perm x acc).append_right l).trans (List.perm_middle.symm)
 have:=this l [] .nil;simpa [sort] using this
theorem aae (l:List Int):Zh l=sort l:=by
 unfold Zh;obtain ⟨h1,h2,h3⟩:=Zk (l.length / 2) l (fun i c hi bV hc sB=>by omega);generalize Y0 (l.length / 2) l=r at h1 h2 h3;have hs:(YY (r.length - 1) r).Pairwise (·≤·)∧(YY (r.length - 1) r).Perm l:=by
  rcases Nat.eq_zero_or_pos r.length with z | z
  ·rw [List.length_eq_zero_iff.1 z] at h2 ⊢;exact ⟨by simp [YY],h2⟩
  ·have:=ZD (r.length - 1) r (by omega) (by rw [h3] at *;rw [show l.length - 1 + 1=l.length by omega];exact h1) (fun i j hi hj F7=>by omega) (fun i j hi hj F7=>by omega);refine ⟨?_,this.2.1.trans h2⟩;rw [List.pairwise_iff_getElem];intro i j hi hj xE;have q:=this.1 i j (by omega) (by omega);rw [List.getD_eq_getElem?_getD,List.getD_eq_getElem?_getD,List.getElem?_eq_getElem hi,List.getElem?_eq_getElem hj] at q;exact q
 obtain ⟨q1,q2⟩:=ZE l;exact List.Perm.eq_of_pairwise (fun a b _ _ h1 h2=>Int.le_antisymm h1 h2) hs.1 q1 (hs.2.trans q2.symm)
end Sx
end Go.Proofs.YtdjhhbpedllnhaaGreat
