/-
  What the laws need, part B32.
  Conditions: none.
-/
import Derived.Test.YtdjhhbpedllnhaaGreatB31
set_option linter.unusedVariables false
set_option linter.unusedSimpArgs false
set_option linter.unnecessarySimpa false
set_option maxHeartbeats 2000000
namespace Go.Proofs.YtdjhhbpedllnhaaGreat
open Go.RowKit
namespace Fl
open Sx Go.Proofs.Tryz
set_option maxRecDepth 100000
theorem Wa (b:Nat) (u:U) (s:ah) (g:Nat) (hg:g < s.gs.length) (k0:0≤(aa s g).k) (k1:(aa s g).k < (aa s g).order.length) (ol:(aa s g).order.length≤1000) (i0:0≤ax (aa s g).order (aa s g).k) (i1:ax (aa s g).order (aa s g).k < (aa s g).aq.length) (hu:bY u s) (h0:0≤s.fresh) (hc:g < s.cache.length)
  (hd:-1≤ax (aa s g).aq (ax (aa s g).order (aa s g).k)∧ax (aa s g).aq (ax (aa s g).order (aa s g).k) < s.aA.length) :
  an prog 90 [.c (.v (pt b)),.c (nI g)] (wd b u s) (fun x:{ u':U // bY u' (iz s g) }=>(.bp [],wd b x.1 (iz s g))):=by
 haveI:Sx.bJ g s:=⟨hg⟩
 have CH:=uP b u s g hg k0 k1;have w2:IntKind.i64.wrap ((aa s g).k + 1)=(aa s g).k + 1:=dJ (by omega) (by omega);have R0:=zL b u hg;have ef:iz s g=uR s (if 0≤ax (aa s g).aq (ax (aa s g).order (aa s g).k) then Sx.cz s g (ax (aa s g).aq (ax (aa s g).order (aa s g).k)) else s) g (ax (aa s g).order (aa s g).k):=rfl;rw [ef];generalize ax (aa s g).order (aa s g).k=i at i0 i1 hd CH ⊢;have AS:=at_atK i0 i1;have t1:decide (i < ((aF (aa s g).aq).length:Int))=true:=decide_eq_true (by rw [c7];exact i1);have i2:i < ((aF (aa s g).aq).length:Int):=by rw [c7];exact i1
 have Gb:i.toNat < (aF (aa s g).aq).length:=by omega
 generalize ax (aa s g).aq i=d at hd AS ⊢;obtain ⟨S1,uS⟩:∃ S1,(if 0≤d then Sx.cz s g d else s)=S1:=⟨_,rfl⟩
 have gS:aa S1 g=aa s g:=by rw [← uS];split;exact RJ;rfl
 have oA:g < S1.gs.length:=by rw [← uS];split;rw [JL];exact hg;exact hg
 rw [uS];obtain ⟨q,hq⟩:∃ q,(d != -1)=q:=⟨_,rfl⟩
 refine an.intro func90 rfl rfl rfl (fun ok e=>?_)
 repeat (first | (refine K.load ?_;first | ((refine jq rfl rfl rfl (Qt.aL rfl (aN) (by exact rfl)) ?_)) | refine jq rfl rfl rfl (Qt.aL rfl AS rfl) ?_) | (refine K.indexAddr ?_;first | refine jq rfl rfl rfl (Qt.aI rfl rfl cL cM) ?_ | refine jq rfl rfl rfl (Qt.aI rfl rfl i0 i2) ?_) | (refine K.call ?_;refine JO.ld (Ld.aY (CH) (qb rfl) rfl (by (exact aJ.cons .refl (.cons .refl .nil)))) rfl ?_;intro _) | refine gn ?_)
 refine J.join (ι:={ x:List Bool × List Nat // bY (nF u x.1 x.2) S1 }) (fun _=>[(4,.ow u.vG 25 g 0),(5,.c (nI i)),(0,.c (.v (pt b))),(1,.c (nI g))]) (fun x=>wd b (nF u x.1.1 x.1.2) S1) (fun x=>?_) (fun rest=>?_)
 ·obtain ⟨⟨H,T⟩,hv⟩:=x;simp only at hv ⊢;haveI:Sx.bJ g S1:=⟨oA⟩
  haveI:Sx.dB S1 g (aa s g):=⟨gS⟩
  have R1:=zL b (nF u H T) oA;have T1:jB (wd b (nF u H T) S1) (g + 12) (.row ((nF u H T).sg g) 3 1 ((aF (aa S1 g).aq).set i.toNat [A.v (.int .i64 (-1))])) _:=LY b (nF u H T) oA (aa S1 g).aq i.toNat (-1);rw [gS] at R1 T1
  repeat (first | (refine K.load ?_;refine jq rfl rfl rfl (Qt.aL rfl (aN) (by exact rfl)) ?_) | (refine K.store ?_;first | (refine JO.ld (Ld.eK rfl rfl rfl rfl Gb) rfl (fun _=>?_)) | ((refine JO.ld (Ld.bL rfl rfl (by exact rfl) aN) rfl (fun _=>?_)));refine JO.cH b g (fun x=>{ x with k:=(aa s g).k + 1 }) (by exact rfl) ?_) | (refine K.indexAddr ?_;refine jq rfl rfl rfl (Qt.aI rfl rfl i0 i2) ?_) | (refine K.binOp ?_;refine jq rfl rfl rfl ((Qt.cJ rfl rfl rfl w2)) ?_) | refine gn ?_)
  by_cases c:(aa s g).k + 1=(aa s g).order.length
  ·have c1:decide ((aa s g).k + 1 ≥ ((aa s g).order.length:Int))=true:=decide_eq_true (by omega);have L5:g < (aK (aK (aK S1 g fun y=>{ y with aq:=(aa s g).aq.set i.toNat (-1) }) g fun x=>{ x with k:=(aa s g).k + 1 }) g fun x=>{ x with k:=0 }).gs.length:=Sx.bJ.h;have Wb:g < (aK (aK (aK (aK S1 g fun y=>{ y with aq:=(aa s g).aq.set i.toNat (-1) }) g fun x=>{ x with k:=(aa s g).k + 1 }) g fun x=>{ x with k:=0 }) g fun x=>{ x with aq:=[] }).gs.length:=Sx.bJ.h;have g4:aa (aK (aK (aK (aK S1 g fun y=>{ y with aq:=(aa s g).aq.set i.toNat (-1) }) g fun x=>{ x with k:=(aa s g).k + 1 }) g fun x=>{ x with k:=0 }) g fun x=>{ x with aq:=[] }) g={ aa s g with aq:=[],k:=0 }:=Sx.dB.h;have e2:uR s S1 g i=aK (aK (aK (aK (aK S1 g fun y=>{ y with aq:=(aa s g).aq.set i.toNat (-1) }) g fun x=>{ x with k:=(aa s g).k + 1 }) g fun x=>{ x with k:=0 }) g fun x=>{ x with aq:=[] }) g fun x=>{ x with place:=if 0 < (aa s g).au.length then 17 else 18 }:=by
    unfold uR;rw [if_pos c,oZ oA,if_pos c,gR Sx.bJ.h,gR Sx.bJ.h,gR Sx.bJ.h,gR oA];unfold Sx.au Sx.aS aK;rw [gy oA,if_pos rfl,gS]
    split <;> rw [Sx.kS]
   have CL:=LH b (jw (nF u H T) g (.slice none 0 0)) _ g Wb;rw [g4] at CL;have kW:bY (jw (nF u H T) g (.slice none 0 0)) (uR s S1 g i):=bY.sg (by rw [e2];exact hv.to);rw [e2] at kW ⊢;refine J.draw (by kernel_rfl) rfl ?_;refine JW.base none ?_;refine tk 0 ?_;refine tk 1 ?_;refine tk 2 ?_;refine JD.take 3 rfl rfl (by kernel_rfl) rfl (qb rfl) (Qt.aL rfl aN rfl) rfl ?_;refine tk 4 ?_;refine tk 5 ?_;refine tk 6 ?_;refine JD.take 7 rfl rfl (by kernel_rfl) rfl (qb rfl) (Qt.aL rfl aN rfl) rfl ?_;refine tk 8 ?_;refine JD.take 9 rfl rfl (by kernel_rfl) rfl (qb rfl) (Qt.cmp rfl rfl (congrArg some c1)) rfl ?_;refine bE ?_
   repeat (first | (refine K.store ?_;((refine JO.ld (Ld.bL rfl rfl (by exact rfl) aN) rfl (fun _=>?_)));refine JO.cH b g (fun x=>{ x with k:=0 }) (by exact rfl) ?_) | refine gn ?_)
   refine K.store ?_;refine JO.ld (Ld.bL rfl rfl (by exact rfl) aN) rfl (fun _=>?_);refine JO.nil ?_;refine J.Pb (j:=g + 12) 3 1 (vT (u:=nF u H T) L5) ?_;refine J.dN (V9 b (nF u H T) L5 rfl) ?_
   repeat (first | (refine K.store ?_;((refine JO.ld (Ld.bL rfl rfl (by exact rfl) aN) rfl (fun _=>?_)));refine JO.cH b g (fun x=>{ x with place:=if 0 < (aa s g).au.length then 17 else 18 }) (by exact rfl) ?_) | (refine K.call ?_;refine JO.ld (Ld.aY CL (qb rfl) rfl (.cons .refl (.cons .refl .nil))) rfl ?_;intro _) | refine gn ?_)
   (exact J.iV func90 rfl .nil ⟨jw (nF u H T) g (.slice none 0 0),kW⟩ (by exact .refl) rfl)
  ·have c1:decide ((aa s g).k + 1 ≥ ((aa s g).order.length:Int))=false:=decide_eq_false (by omega);have e2:uR s S1 g i=aK (aK S1 g fun y=>{ y with aq:=(aa s g).aq.set i.toNat (-1) }) g fun x=>{ x with k:=(aa s g).k + 1 }:=by
    unfold uR;rw [if_neg c,oZ oA,if_neg c,gR oA];unfold aK;rw [gS]
   have kW:bY (nF u H T) (uR s S1 g i):=by rw [e2];exact hv.to
   rw [e2] at kW ⊢;refine J.draw (by kernel_rfl) rfl ?_;refine JW.base none ?_;refine tk 0 ?_;refine tk 1 ?_;refine tk 2 ?_;refine JD.take 3 rfl rfl (by kernel_rfl) rfl (qb rfl) (Qt.aL rfl aN rfl) rfl ?_;refine tk 4 ?_;refine tk 5 ?_;refine tk 6 ?_;refine JD.take 7 rfl rfl (by kernel_rfl) rfl (qb rfl) (Qt.aL rfl aN rfl) rfl ?_;refine tk 8 ?_;refine JD.take 9 rfl rfl (by kernel_rfl) rfl (qb rfl) (Qt.cmp rfl rfl (congrArg some c1)) rfl ?_;refine bE ?_
   repeat (refine gn ?_)
   (exact J.iV func90 rfl .nil ⟨nF u H T,kW⟩ (by exact .refl) rfl)
 ·cases q with
  | true =>
   have dq:d≠-1:=by simpa using hq
   have dn:0≤d:=by omega
   rw [if_pos dn] at uS;subst uS;have WG:=UJ b u s hu h0 hc d;have hv:=fun T=>Lh (T:=T) hu h0 hc d
   haveI:Sx.gQ d s:=⟨dn,hd.2⟩
   haveI:Sx.gQ d (dO s g d):=inferInstance;have HQ:d.toNat < ((dO s g d).aA.map eS).length:=by rw [List.length_map,Bx.2];omega
   repeat (first | (refine K.call ?_;refine JO.ld (Ld.aY WG (qb rfl) rfl (.cons .refl (.cons .refl (.cons .refl .nil)))) rfl ?_;intro T) | refine gn ?_)
   repeat (first | (refine K.store ?_;refine JO.ld (Ld.eK rfl rfl rfl rfl HQ) rfl (fun _=>?_);refine JO.wG b d fB (by exact rfl) ?_) | (refine K.indexAddr ?_;refine jq rfl rfl rfl (Qt.aI rfl rfl (mF (s:=dO s g d)) (mG (s:=dO s g d))) ?_))
   refine JO.nil ?_;have kW:bY (tj u s g d T) (aV (dO s g d) d fB):=(hv T).to;exact (rest ⟨(_,T),kW⟩).aW ⟨rfl,rfl,rfl,rfl,trivial⟩
  | false =>
   have dq:d=-1:=by simpa using hq
   have dn:¬ 0≤d:=by omega
   rw [if_neg dn] at uS;subst uS;refine J.fT rfl ?_;refine J.skip ?_;exact (rest ⟨(u.H,u.TP),hu⟩).aW ⟨rfl,rfl,rfl,rfl,trivial⟩
end Fl
open Go.RowKit
namespace Fl
open Sx Go.Proofs.Tryz
set_option maxRecDepth 100000
theorem Wc (b:Nat) (u:U) (s:ah) (g k q:Nat) (o:Pn.Op) (hg:g < s.gs.length) (Q:Qs s) (hp:zM s g k o) (ho:oz s g q (aa s g).hold) (hw:(aa s g).au.length≤1000) (hu:bY u s) :
  an prog 83 [.c (.v (pt b)),.c (nI g),.agg (dH o)] (wd b u s) (fun x:{ u':U // bY u' (gG s g o) }=>(.bp [],wd b x.1 (gG s g o))):=by
 haveI:Sx.bJ g s:=⟨hg⟩
 haveI:Sx.bJ q s:=⟨ho.o1⟩
 haveI:Sx.gQ (aa s g).hold s:=⟨ho.h0,ho.h1⟩
 obtain ⟨k0,k1,ol,i0,io,ci⟩:=hp;have CH:=uP b u s g hg k0 k1;have AC:=at_case i0 io;obtain ⟨w,WD⟩:=BC b u Q (aa s g).hold;have L6:pG (aZ s (aa s g).hold) (aH o (ax (aa s g).order (aa s g).k)).ch k:=ci.drop;have zO:su (aZ s (aa s g).hold) (aa s g).hold=su s (aa s g).hold:=Sx.jJ.h;have eg:aa (aZ s (aa s g).hold) g=aa s g:=Sx.dB.h;have gd:g < (aZ s (aa s g).hold).gs.length:=Sx.bJ.h;have ql:q < (aZ s (aa s g).hold).gs.length:=Sx.bJ.h;have sl:(aa s g).hold < (aZ s (aa s g).hold).aA.length:=Sx.gQ.h1;have Gc:bY u (aZ s (aa s g).hold):=hu.to;have C1:=Vt b u (aZ s (aa s g).hold) (aH o (ax (aa s g).order (aa s g).k)).ch (aa s g).hold k L6 ho.h0 sl;rw [← L6.e] at C1;have er:gG s g o=(let n:=if (aH o (ax (aa s g).order (aa s g).k)).send=true then (aV (aZ s (aa s g).hold) (aa s g).hold { su (aZ s (aa s g).hold) (aa s g).hold with v:=(aH o (ax (aa s g).order (aa s g).k)).v },(⟨1,ax (aa s g).order (aa s g).k,0,true,0⟩:Md.aj)) else ((Sx.hand (aZ s (aa s g).hold) (aH o (ax (aa s g).order (aa s g).k)).ch (aa s g).hold).1,{ eB (Sx.hand (aZ s (aa s g).hold) (aH o (ax (aa s g).order (aa s g).k)).ch (aa s g).hold).2 true with cs:=ax (aa s g).order (aa s g).k });Sx.unlock (ai (Sx.serve n.1 g (aa s g).hold true) g { aa (Sx.serve n.1 g (aa s g).hold true) g with res:=n.2 }) g 30):=rfl;dsimp only at er;generalize ax (aa s g).order (aa s g).k=i at i0 io ci CH AC C1 er;generalize hh:(aa s g).hold=h at ho WD zO eg gd ql sl Gc C1 er;haveI:Sx.gQ h (aZ s h):=⟨ho.h0,sl⟩
 haveI:Sx.dB s g { aa s g with hold:=h }:=⟨by rw [← hh]⟩
 have hx:(Sx.hand (aZ s h) (aH o i).ch h).1.gs=(aZ s h).gs∧(Sx.hand (aZ s h) (aH o i).ch h).1.aA=(aZ s h).aA:=by
  unfold Sx.hand;dsimp only;split <;> exact ⟨rfl,rfl⟩
 have Gd:bY u (Sx.hand (aZ s h) (aH o i).ch h).1:=by
  haveI:cW (Sx.hand (aZ s h) (aH o i).ch h).1 (aZ s h):=⟨by unfold Sx.hand;dsimp only;split <;> exact ⟨rfl,rfl,rfl,rfl,rfl⟩⟩
  exact Gc.to
 generalize Sx.hand (aZ s h) (aH o i).ch h=hn at C1 er hx Gd;obtain ⟨H1,H2⟩:=hn;simp only at C1 hx Gd;generalize gG s g o=S at er ⊢;have Ce:∀ a c:ah,a.gs=c.gs→aa a g=aa c g:=fun a c h=>by unfold aa;rw [h]
 have Wd:∀ (a c:ah) (i:Int),a.aA=c.aA→su a i=su c i:=fun a c i h=>by unfold su;rw [h]
 generalize aH o i=c at AC C1 er;obtain ⟨zN,Ck,cv⟩:=c;simp only at C1 er;refine an.intro func83 rfl rfl rfl (fun ok e=>?_)
 repeat (first | (refine K.indexAddr ?_;refine jq rfl rfl rfl (Qt.aI rfl rfl cL cM) ?_) | refine ay ?_ | intro _)
 refine J.draw (by kernel_rfl) rfl ?_;refine JW.ya none ?_;refine tk 0 ?_;refine tk 1 ?_;refine tk 3 ?_;refine tk 4 ?_;refine tk 5 ?_;refine JD.cU (i:=2) (j:=6) (by kernel_rfl) ?_ ?_;refine JS.kA rfl rfl rfl (qb rfl) (Ld.aY CH (qb rfl) rfl (.cons .refl (.cons .refl .nil))) (iA.bu) (fun _=>?_);refine tk 7 ?_;refine jk 6 rfl rfl rfl rfl (Qt.aL rfl aN rfl) ?_;refine jk 8 rfl rfl rfl rfl (Qt.assign rfl) ?_;refine bE ?_
 rotate_left
 refine JS.q rfl rfl rfl (qb rfl) (Qt.aL rfl aN rfl) ?_;refine JD.gU (i:=2) (by kernel_rfl) ?_;refine JS.kA rfl rfl rfl (qb rfl) (Ld.aY CH (qb rfl) rfl (.cons .refl (.cons .refl .nil))) (iA.bu) (fun _=>?_);refine jk 7 rfl rfl rfl rfl (Qt.assign rfl) ?_;refine jk 8 rfl rfl rfl rfl (Qt.assign rfl) ?_;refine bE ?_
 rotate_left
 all_goals
  cases zN with
  | true =>
   rw [if_pos rfl] at er;haveI:Sx.jJ (aZ s h) h (su s h):=⟨zO⟩
   repeat (first | (refine K.call ?_;refine JO.ld (Ld.aY WD (qb rfl) rfl (.cons .refl (.cons .refl .nil))) rfl ?_;intro _) | refine ay ?_ | intro _)
   refine J.draw (by kernel_rfl) rfl ?_;refine JW.base (some 9) ?_;refine tk 0 ?_;refine tk 1 ?_;refine tk 2 ?_;refine tk 3 ?_;refine tk 4 ?_;refine tk 5 ?_;refine tk 6 ?_;refine JD.bz 7 rfl rfl (by kernel_rfl) rfl (qb rfl) (Qt.aI rfl rfl (mF (s:=aZ s h)) mG) rfl ?_;refine tk 8 ?_;refine jt 9 rfl rfl (Ld.bL rfl rfl (by exact rfl) oq) (fun _=>?_);refine bR ?_;refine J.wG b h { su s h with v:=cv } (by exact rfl) ?_;rw [zO] at er;have tq:(aV (aZ s h) h { su s h with v:=cv }).gs=(aZ s h).gs:=rfl;have Co:(aV (aZ s h) h { su s h with v:=cv }).aA.length=(aZ s h).aA.length:=by simp [aV]
   have Cp:(su (aV (aZ s h) h { su s h with v:=cv }) h).g=(su s h).g:=by rw [show su (aV (aZ s h) h { su s h with v:=cv }) h={ su s h with v:=cv } from Sx.jJ.h]
   have Cq:bY u (aV (aZ s h) h { su s h with v:=cv }):=Gc.to;generalize aV (aZ s h) h { su s h with v:=cv }=N at tq Co Cp Cq er ⊢;have gl:g < N.gs.length:=by rw [tq];exact gd
   have gN:aa N g=aa s g:=(Ce _ _ tq).trans eg;have C2:=Kg b u N g q h true gl (by rw [tq];exact ql) ho.ne ho.h0 (by rw [Co];exact sl) (by rw [Cp];exact ho.e) (by rw [gN];exact hw);have Ge:g < (Sx.serve N g h true).gs.length:=by rw [Lu];exact gl
   haveI:Sx.bJ g (Sx.serve N g h true):=⟨Ge⟩
   have e2:S=Sx.unlock (aK (Sx.serve N g h true) g fun x=>{ x with res:=⟨1,i,0,true,0⟩ }) g 30:=er;have hv:∀ v,bY (j4 u g v) S:=fun v=>bY.wk (by rw [e2];exact Cq.to)
   rw [e2] at hv ⊢
   repeat (first | (refine K.store ?_;((refine JO.ld (Ld.tO rfl rfl rfl (by exact rfl) (by exact rfl) aN) rfl (fun _=>?_)));refine JO.cH b g (fun x=>{ x with res:=⟨1,i,0,true,0⟩ }) (by exact rfl) ?_) | (refine K.call ?_;refine JO.ld (Ld.aY C2 (qb rfl) rfl (.cons .refl (.cons .refl (.cons .refl (.cons .refl .nil))))) rfl ?_;intro v) | refine gn ?_)
   have CU:=uQ b (j4 u g v) (aK (Sx.serve N g h true) g fun x=>{ x with res:=⟨1,i,0,true,0⟩ }) g 30 Sx.bJ.h
   repeat  ((refine K.call ?_;(refine JO.ld (Ld.aY (CU) (qb rfl) rfl (by (exact aJ.cons .refl (.cons .refl (.cons .refl .nil))))) rfl ?_;intro _)))
   repeat ((refine JO.nil ?_))
   (exact J.jF [_,_,_] rfl func83 rfl .nil ⟨j4 u g v,hv v⟩ (by exact .refl) rfl)
  | false =>
   rw [if_neg (by simp)] at er;have tq:H1.gs=(aZ s h).gs:=hx.1;have Co:H1.aA.length=(aZ s h).aA.length:=by rw [hx.2]
   have Cp:(su H1 h).g=(su s h).g:=by rw [Wd _ _ h hx.2,zO]
   have Cq:=Gd
   repeat (first | (refine K.call ?_;first | (refine JO.ld (Ld.aY WD (qb rfl) rfl (.cons .refl (.cons .refl .nil))) rfl ?_;intro _) | (refine JO.ld (Ld.aY C1 (qb rfl) rfl (.cons .refl (.cons .refl (.cons .refl .nil)))) rfl ?_;intro _)) | refine ay ?_ | intro _)
   have gl:g < H1.gs.length:=by rw [tq];exact gd
   have gN:aa H1 g=aa s g:=(Ce _ _ tq).trans eg;have C2:=Kg b u H1 g q h true gl (by rw [tq];exact ql) ho.ne ho.h0 (by rw [Co];exact sl) (by rw [Cp];exact ho.e) (by rw [gN];exact hw);have Ge:g < (Sx.serve H1 g h true).gs.length:=by rw [Lu];exact gl
   haveI:Sx.bJ g (Sx.serve H1 g h true):=⟨Ge⟩
   have e2:S=Sx.unlock (aK (Sx.serve H1 g h true) g fun x=>{ x with res:=⟨1,i,H2,true,0⟩ }) g 30:=er;have hv:∀ v,bY (j4 u g v) S:=fun v=>bY.wk (by rw [e2];exact Cq.to)
   rw [e2] at hv ⊢
   repeat (first | (refine K.store ?_;((refine JO.ld (Ld.tO rfl rfl rfl (by exact rfl) (by exact rfl) aN) rfl (fun _=>?_)));refine JO.cH b g (fun x=>{ x with res:=⟨1,i,H2,true,0⟩ }) (by exact rfl) ?_) | (refine K.call ?_;refine JO.ld (Ld.aY C2 (qb rfl) rfl (.cons .refl (.cons .refl (.cons .refl (.cons .refl .nil))))) rfl ?_;intro v) | refine gn ?_)
   have CU:=uQ b (j4 u g v) (aK (Sx.serve H1 g h true) g fun x=>{ x with res:=⟨1,i,H2,true,0⟩ }) g 30 Sx.bJ.h
   repeat  ((refine K.call ?_;(refine JO.ld (Ld.aY (CU) (qb rfl) rfl (by (exact aJ.cons .refl (.cons .refl (.cons .refl .nil))))) rfl ?_;intro _)))
   repeat ((refine JO.nil ?_))
   (exact J.jF [_,_,_] rfl func83 rfl .nil ⟨j4 u g v,hv v⟩ (by exact .refl) rfl)
end Fl
open Go.RowKit
namespace Fl
open Sx Go.Proofs.Tryz
set_option maxRecDepth 100000
theorem We {s:ah} {ch:Int} (h:Sx.Good s) (hm:aT s ch=true):∃ k,pG s ch k:=by
 have m:=nt.1 hm;have h':=h.toMInv;have c8:=h.c8;have c4:=h'.gP (c:=ch) m.1 m.2;refine ⟨(ch - 1).toNat,by omega,by omega,by omega,?_,?_⟩
 all_goals
  rw [show (((ch - 1).toNat:Nat):Int) + 1=ch by omega];omega
end Fl
open Go.RowKit
namespace Fl
open Sx Go.Proofs.Tryz
set_option maxRecDepth 100000
structure Gf (s:ah) (g:Nat):Prop where
 cp:uO s g
 qs:Qs s
 wk:(aa s g).au.length≤1000
 ll:(aa s g).aB.length≤1000
 lk:(ag s g).kind=9→(aa s g).place=24∨(aa s g).place=31→0≤(aa s g).k∧(aa s g).k < (aa s g).aB.length∧aT s (ax (aa s g).aB (aa s g).k)=true
 ha:(ag s g).kind=9→(aa s g).place=25∨(aa s g).place=27∨(aa s g).place=28∨(aa s g).place=29→∃ k,zM s g k (ag s g)∧((aa s g).place=25→wQ s g (cn s ((k:Int) + 1)).recv∧wQ s g (cn s ((k:Int) + 1)).send)
 c6:(ag s g).kind=9→(aa s g).place=25→1≤(ag s g).cases.length∧(ag s g).cases.length≤6
 BR:(ag s g).kind=9→(aa s g).place=26∨(aa s g).place=27→(∃ q,oz s g q (aa s g).hold)∧0≤(aa s g).k∧(aa s g).k < (aa s g).order.length
 zB:(ag s g).kind=9→(aa s g).place=28→g < s.cache.length∧((bn s g).2.2=true→0≤(bn s g).2.1∧(bn s g).2.1 < s.aA.length)
 sg:(ag s g).kind=9→(aa s g).place=28∨(aa s g).place=29→ax (aa s g).order (aa s g).k < (aa s g).aq.length
 Wf:(ag s g).kind=9→(aa s g).place=29→0≤ax (aa s g).aq (ax (aa s g).order (aa s g).k)∧ax (aa s g).aq (ax (aa s g).order (aa s g).k) < s.aA.length∧∀ c,ax (aa s g).aq (ax (aa s g).order (aa s g).k)∉(cn s c).recv∧ax (aa s g).aq (ax (aa s g).order (aa s g).k)∉(cn s c).send
 fr:(ag s g).kind=9→(aa s g).place=30∨(aa s g).place=33→1≤(aa s g).k∧(aa s g).k≤(aa s g).aB.length∧aT s (ax (aa s g).aB ((aa s g).k - 1))=true∧(cn s (ax (aa s g).aB ((aa s g).k - 1))).lock=g
 Bv:(ag s g).kind=9→(aa s g).place=30→(aa s g).aq.length≤1000∧∀ x∈(aa s g).aq,-1≤x
 pE:(ag s g).kind=9→(aa s g).place=14→0≤(aa s g).param∧(aa s g).param < s.aA.length
 BU:(ag s g).kind=9→(aa s g).place=32∨(aa s g).place=34→0≤(aa s g).k∧(aa s g).k < (aa s g).order.length∧(aa s g).order.length≤1000∧0≤ax (aa s g).order (aa s g).k∧ax (aa s g).order (aa s g).k < (aa s g).aq.length
 zC:(ag s g).kind=9→(aa s g).place=34→g < s.cache.length∧-1≤ax (aa s g).aq (ax (aa s g).order (aa s g).k)∧ax (aa s g).aq (ax (aa s g).order (aa s g).k) < s.aA.length
instance cW.lock {s s':ah} {g:Nat} {p:Int} [h:cW s' s]:cW (Sx.lock s' g p) s:=⟨by
 unfold Sx.lock Sx.tryLock;dsimp only
 repeat' split
 all_goals exact h.h⟩
instance cW.ck {s s':ah} {g:Nat} [h:cW s' s]:cW (Sx.ck s' g).1 s:=⟨h.h⟩
instance cW.kj {s s':ah} {g:Nat} [h:cW s' s]:cW (Sx.kj s' g) s:=⟨h.h⟩
theorem L7 {s:ah} {g:Nat}:(aa (cT s g 25 27) g).order=(aa s g).order∧(aa (cT s g 25 27) g).k=(aa s g).k:=by
 have f:=Fv (fun x=>(x.order,x.k)) (s:=s) (g:=g) (ba:=25) (on:=27) (fun _ _ _ _=>rfl) (fun _ _=>rfl) (fun _ _ _=>rfl) (fun _ _=>rfl) g;simp only [Prod.mk.injEq] at f;exact f
theorem Wg {u:U} {s:ah} {g:Nat} {a c:Int} (hu:bY u s):bY u (cT s g a c):=by unfold cT;dsimp only;split <;> exact hu.to
theorem Cr (b:Nat) (u:U) (s:ah) (g:Nat) (h:Gf s g) (hu:bY u s) :
  an prog 26 [.c (.v (pt b)),.c (nI g)] (wd b u s) (fun x:{ u':U // bY u' (aR s g).1 }=>(.c (bI (aR s g).2),wd b x.1 (aR s g).1)):=by
 have hg:=h.cp.lt;haveI:Sx.bJ g s:=⟨hg⟩
 have c8:=h.cp.c8;have O:=FH b u s g hg h.cp.dD h.cp.oc
 by_cases hk:(ag s g).kind=9
 case neg =>
  have k9:((ag s g).kind != 9)=true:=by simpa using hk
  have er:aR s g=(s,false):=by unfold aR;dsimp only;rw [if_pos hk]
  rw [er];refine an.intro func26 rfl rfl rfl (fun ok e=>?_)
  repeat (first | (refine K.call ?_;refine JO.ld (Ld.aY (O) (qb rfl) rfl (by (exact aJ.cons .refl (.cons .refl .nil)))) rfl ?_;intro _) | refine ay ?_ | intro _)
  (exact J.fC [_] rfl func26 rfl (.cons (.tmp rfl) .nil) ⟨u,hu⟩ (by exact .refl) rfl)
 have k9:((ag s g).kind != 9)=false:=by rw [hk];rfl
 have cE:∀ {X:ah},aR s g=(X,true)→(aR s g).1=X∧(aR s g).2=true:=fun e=>by rw [e];exact ⟨rfl,rfl⟩
 have cs:aR s g=aR s g:=rfl
 conv at cs=>rhs;unfold aR;dsimp only
 rw [az] at cs;have CC:=UM b u s g h.cp hu;refine an.intro func26 rfl rfl rfl (fun ok e=>?_);have qR:(aa s g).place=24∨(aa s g).place=25∨(aa s g).place=26∨(aa s g).place=27∨(aa s g).place=28∨(aa s g).place=29∨(aa s g).place=14∨(aa s g).place=31∨(aa s g).place=32∨(aa s g).place=34∨(aa s g).place=13∨(aa s g).place=17∨(aa s g).place=30∨(aa s g).place=33∨¬ (aa s g).place=24∧¬ (aa s g).place=25∧¬ (aa s g).place=26∧¬ (aa s g).place=27∧¬ (aa s g).place=28∧¬ (aa s g).place=29∧¬ (aa s g).place=30∧¬ (aa s g).place=14∧¬ (aa s g).place=31∧¬ (aa s g).place=32∧¬ (aa s g).place=33∧¬ (aa s g).place=34∧¬ (aa s g).place=13∧¬ (aa s g).place=17:=by omega
 rcases qR with e | e | e | e | e | e | e | e | e | e | e | e | e | e | e
 rotate_right
 ·obtain ⟨n1,n2,n3,n4,n5,n6,n7,n8,n9,gC,YP,Fc,BK,L8⟩:=e;have Gg:aR s g=(s,false):=by
   rw [cs,if_neg n1,if_neg n2,if_neg n3,if_neg n4,if_neg n5,if_neg n6,if_neg n7,if_neg n8,if_neg n9,if_neg gC,if_neg YP,if_neg Fc,az]
  rw [Gg];have N:∀ c:Int,¬ (aa s g).place=c→((aa s g).place == c)=false:=fun c n=>beq_eq_false_iff_ne.2 n
  repeat (first | (refine K.load ?_;((refine jq rfl rfl rfl (Qt.aL rfl (aN) (by exact rfl)) ?_))) | (refine K.indexAddr ?_;refine jq rfl rfl rfl (Qt.aI rfl rfl cL cM) ?_) | refine aQ (N 13 BK) ?_ | refine aQ (N 17 L8) ?_ | refine aQ (N 24 n1) ?_ | refine aQ (N 25 n2) ?_ | refine aQ (N 26 n3) ?_ | refine aQ (N 27 n4) ?_ | refine aQ (N 28 n5) ?_ | refine aQ (N 29 n6) ?_ | refine aQ (N 30 n7) ?_ | refine aQ (N 14 n8) ?_ | refine aQ (N 31 n9) ?_ | refine aQ (N 32 gC) ?_ | refine aQ (N 33 YP) ?_ | refine aQ (N 34 Fc) ?_ | (refine K.call ?_;refine JO.ld (Ld.aY (O) (qb rfl) rfl (by (exact aJ.cons .refl (.cons .refl .nil)))) rfl ?_;intro _) | refine ay ?_ | intro _)
  (exact J.fC [_] rfl func26 rfl (.cons (.tmp rfl) .nil) ⟨u,hu⟩ (by exact .refl) rfl)
 rotate_right
 ·have P:=fun c:Int=>congrArg (fun x:Int=>x == c) e
  obtain ⟨x1,x2,x3,x4⟩:=h.fr hk (by omega);obtain ⟨kk,e0,e1⟩:=qo x3;rw [e0] at x4;have C1:=LL b u s g kk hg x1 x2 h.ll e0 e1 (by omega) x4;simp only [e,Int.reduceEq,if_true,if_false] at cs;have e2:(Sx.ck s g).2=!(decide ((aa s g).k - 1≤0)):=by
   unfold Sx.ck;dsimp only
   by_cases z:(aa s g).k - 1≤0
   ·rw [decide_eq_true z,decide_eq_false (by omega)];rfl
   ·rw [decide_eq_false z,decide_eq_true (by omega)];rfl
  have hf:bY u (Sx.ck s g).1:=hu.to;haveI:Sx.bJ g (Sx.ck s g).1:=⟨by unfold Sx.ck;simpa [ai,Sx.free,aE] using hg⟩
  rw [e2] at cs;generalize decide ((aa s g).k - 1≤0)=q at cs C1;have hv:bY u (aR s g).1:=by
   rw [cs];split
   ·exact hf
   ·exact hf.to
  rw [cs] at hv ⊢
  cases q
  case' true=>change bY u (aK (Sx.ck s g).1 g fun x=>{ x with place:=34 }) at hv
  case' true=>change J _ (cx _ _ _ _ (fun x:{ u':U // bY u' (aK (Sx.ck s g).1 g fun x=>{ x with place:=34 }) }=>(.c (bI true),wd b x.1 (aK (Sx.ck s g).1 g fun x=>{ x with place:=34 }))) _) _ _ _
  all_goals
   repeat (first | (refine K.load ?_;((refine jq rfl rfl rfl (Qt.aL rfl (aN) (by exact rfl)) ?_))) | (refine K.store ?_;((refine JO.ld (Ld.bL rfl rfl (by exact rfl) aN) rfl (fun _=>?_)));refine JO.cH b g (fun x=>{ x with place:=34 }) (by exact rfl) ?_) | (refine K.indexAddr ?_;refine jq rfl rfl rfl (Qt.aI rfl rfl cL cM) ?_) | refine aQ (P _) ?_ | (refine K.call ?_;first | (refine JO.ld (Ld.aY (O) (qb rfl) rfl (by (exact aJ.cons .refl (.cons .refl .nil)))) rfl ?_;intro _) | (refine JO.ld (Ld.aY C1 (qb rfl) rfl (.cons .refl (.cons .refl .nil))) rfl ?_;intro y)) | refine ay ?_ | intro _)
   (exact J.fC [_] rfl func26 rfl (.cons (.tmp rfl) .nil) ⟨u,hv⟩ (by exact .refl) rfl)
 rotate_right
 ·have P:=fun c:Int=>congrArg (fun x:Int=>x == c) e
  obtain ⟨x1,x2,x3,x4⟩:=h.fr hk (by omega);obtain ⟨kk,e0,e1⟩:=qo x3;rw [e0] at x4;simp only [e,Int.reduceEq,if_true,if_false] at cs;have a2:(aR s g).2=true:=by rw [cs];split;rfl;split;rfl;split <;> rfl
  have a1:(aR s g).1=if (Sx.ck s g).2=true then (Sx.ck s g).1 else if (aa s g).res.code=0 then Sx.aS (Sx.ck s g).1 g 13 else if jT (aa s g).aq=true then Sx.aS (Sx.ck s g).1 g 34 else Sx.au (Sx.ck s g).1 g:=by rw [cs];split;rfl;split;rfl;split <;> rfl
  have C1:=V2 b u s g kk hg x1 x2 h.ll e0 e1 (by omega) x4 (h.Bv hk e).1 (h.Bv hk e).2 _ a1;have hf:bY u (Sx.ck s g).1:=hu.to;have hv:bY u (aR s g).1:=by
   rw [a1];split
   ·exact hf
   ·split
    ·exact hf.to
    ·split <;> exact hf.to
  rw [a2]
  repeat (first | (refine K.load ?_;((refine jq rfl rfl rfl (Qt.aL rfl (aN) (by exact rfl)) ?_))) | (refine K.indexAddr ?_;refine jq rfl rfl rfl (Qt.aI rfl rfl cL cM) ?_) | refine aQ (P _) ?_ | (refine K.call ?_;first | (refine JO.ld (Ld.aY (O) (qb rfl) rfl (by (exact aJ.cons .refl (.cons .refl .nil)))) rfl ?_;intro _) | (refine JO.ld (Ld.aY C1 (qb rfl) rfl (.cons .refl (.cons .refl .nil))) rfl ?_;intro y)) | refine ay ?_ | intro _)
  (exact J.fC [_] rfl func26 rfl (.cons (.tmp rfl) .nil) ⟨u,hv⟩ (by exact .refl) rfl)
 all_goals
  have P:=fun c:Int=>congrArg (fun x:Int=>x == c) e
  simp only [e,Int.reduceEq,if_true,if_false,true_or,or_true,or_self] at cs
 iterate 10
  (obtain ⟨a1,a2⟩:=cE cs;rw [a2];rotate_left)
 iterate 2
  (have C1:=CC;rw [cs];rotate_left)
 have hv:bY u (aR s g).1:=by rw [a1];exact hu.to
 obtain ⟨x1,x2,x3⟩:=h.lk hk (by omega);obtain ⟨kk,e0,e1⟩:=qo x3;have C1:=LJ b u s g kk 25 hg x1 x2 h.ll e0 e1 (by omega);rw [a1] at hv ⊢
 rotate_left
 obtain ⟨kk,hp,hh⟩:=h.ha hk (by omega);have C1:=VZ b u s g kk (ag s g) hg h.qs hp (h.c6 hk e) (hh e).1 (hh e).2 hu;rw [← a1] at C1
 rotate_left
 obtain ⟨⟨q,ho⟩,x1,x2⟩:=h.BR hk (by omega);have C1:=Vh b u s g q 25 27 hg ho h.qs;have iE:g < (cT s g 25 27).gs.length:=by rw [Fx];exact hg
 have C2:=FV b u (cT s g 25 27) g iE (fun _=>by rw [L7.1,L7.2];exact ⟨x1,x2⟩);have pw:=Wg (g:=g) (a:=25) (c:=27) hu;have hv:bY u (aR s g).1:=by rw [a1];exact pw.to
 rw [a1] at hv ⊢
 rotate_left
 obtain ⟨⟨q,ho⟩,x1,x2⟩:=h.BR hk (by omega);obtain ⟨kk,hp,_⟩:=h.ha hk (by omega);have C1:=Wc b u s g kk q (ag s g) hg h.qs hp ho h.wk hu;rw [← a1] at C1
 rotate_left
 obtain ⟨kk,hp,_⟩:=h.ha hk (by omega);have C1:=V7 b u s g kk (ag s g) hg hp (h.sg hk (by omega)) hu h.cp.fr (h.zB hk e).1 (h.zB hk e).2;rw [← a1] at C1
 rotate_left
 obtain ⟨kk,hp,_⟩:=h.ha hk (by omega);have C1:=V6 b u s g kk (ag s g) hg h.qs hp (h.sg hk (by omega)) (h.Wf hk e);have hv:bY u (aR s g).1:=by rw [a1];unfold iT;dsimp only;split <;> exact hu.to
 rw [a1] at hv ⊢
 rotate_left
 have C1:=V3 b u s g hg (h.pE hk e).1 (h.pE hk e).2;have hv:bY u (aR s g).1:=by rw [a1];exact hu.to
 rw [a1] at hv ⊢
 rotate_left
 have hv:bY u (aR s g).1:=by rw [a1];exact hu.to
 obtain ⟨x1,x2,x3⟩:=h.lk hk (by omega);obtain ⟨kk,e0,e1⟩:=qo x3;have C1:=LJ b u s g kk 32 hg x1 x2 h.ll e0 e1 (by omega);rw [a1] at hv ⊢
 rotate_left
 obtain ⟨x1,x2,x3,x4,x5⟩:=h.BU hk (by omega);have C1:=V5 b u s g hg h.qs x1 x2 x3 x4 x5;have hv:bY u (aR s g).1:=by rw [a1];unfold iU;dsimp only;split <;> exact hu.to
 rw [a1] at hv ⊢
 rotate_left
 obtain ⟨x1,x2,x3,x4,x5⟩:=h.BU hk (by omega);have C1:=Wa b u s g hg x1 x2 x3 x4 x5 hu h.cp.fr (h.zC hk e).1 (h.zC hk e).2;rw [← a1] at C1
 all_goals
  repeat (first | (refine K.load ?_;((refine jq rfl rfl rfl (Qt.aL rfl (aN) (by exact rfl)) ?_))) | (refine K.indexAddr ?_;refine jq rfl rfl rfl (Qt.aI rfl rfl cL cM) ?_) | refine aQ (P _) ?_ | (refine K.call ?_;first | (refine JO.ld (Ld.aY (O) (qb rfl) rfl (by (exact aJ.cons .refl (.cons .refl .nil)))) rfl ?_;intro _) | (refine JO.ld (Ld.aY C1 (qb rfl) rfl (.cons .refl (.cons .refl (.cons .refl .nil)))) rfl ?_;intro y) | (refine JO.ld (Ld.aY C1 (qb rfl) rfl (.cons .refl (.cons .refl .nil))) rfl ?_;intro y) | (refine JO.ld (Ld.aY C1 (qb rfl) rfl (.cons .refl (.cons .refl (.cons .refl (.cons .refl .nil))))) rfl ?_;intro y) | (refine JO.ld (Ld.aY C2 (qb rfl) rfl (.cons .refl (.cons .refl .nil))) rfl ?_;intro y)) | refine ay ?_ | intro _)
  first
   | exact J.fC [_] rfl func26 rfl (.cons (.tmp rfl) .nil) y (by exact .refl) rfl
   | exact J.fC [_] rfl func26 rfl (.cons (.tmp rfl) .nil) ⟨u,hv⟩ (by exact .refl) rfl
   | exact J.jF [_] rfl func26 rfl (.cons (.tmp rfl) .nil) y (by exact .refl) rfl
   | exact J.jF [_] rfl func26 rfl (.cons (.tmp rfl) .nil) ⟨u,hv⟩ (by exact .refl) rfl
theorem Gh {s:ah} {g:Nat} (h:Sx.Good s) (hg:g < s.gs.length) (st:(aa s g).status=0):Gf s g:=by
 have h':=h.toMInv;have L:=h'.loc hg;have wk:=((zI h).gr g).wk;have z:=h.z g;have zl:=z.lk;have zo:=z.od;have zs:=z.sg;have z6:=y8 h.z (g:=g);have O:=FG h hg st;have B:(ag s g).kind=9→c9 (aa s g).place→Sx.gw s.av.length s.aA.length (aa s g):=fun k e=>h'.iF hg k e
 have nq:(ag s g).kind=9→24≤(aa s g).place∧(aa s g).place≤28→∀ i j,¬ Sx.eH (aa s g) i j:=fun k e=>nZ (x:=aa s g) k (by omega)
 refine ⟨Va h hg,h.qs,by omega,by omega,fun _ e=>?_,fun k e=>?_,fun k e=>?_,fun k e=>?_,fun _ e=>(O.zB e).2,fun k e=>?_,fun k e=>?_,fun k e=>?_,fun k e=>?_,fun _ e=>O.pE e,fun k e=>?_,fun k e=>?_⟩
 ·obtain ⟨a,b,_,d⟩:=O.lk e;exact ⟨a,b,d⟩
 ·have b:=B k (by unfold c9;omega);have hd:=b.hand (by omega);have m:aT s (aH (ag s g) (ax (aa s g).order (aa s g).k)).ch=true:=nt.2 hd.2.2.2.2;obtain ⟨kk,ci⟩:=We h m;refine ⟨kk,⟨b.k0,b.k2 (by omega),by omega,hd.2.1,hd.2.2.1,ci⟩,fun kI=>⟨fun i r hr=>?_,fun i r hr=>?_⟩⟩
  all_goals
   have k1:=ci.k1;have q:=Vo (c:=(kk:Int) + 1) (i:=i) h' hg (nq k (by omega)) (by omega) (by omega) (by rw [hr];simp);obtain ⟨⟨o,ho⟩,_⟩:=q;exact ⟨ho.h0,ho.h1,.inr ⟨o,ho⟩⟩
 ·have b:=B k (by unfold c9;omega);have hd:=b.hand (by omega);have:aO (aa s g)=ag s g:=rfl;rw [this] at hd;omega
 ·have b:=B k (by unfold c9;omega);refine ⟨?_,b.k0,b.k2 (by omega)⟩;rcases e with e | e
  ·obtain ⟨o,q,_⟩:=h'.yW hg (.inr (.inr e));exact ⟨o,q.i0,q.i1,q.g_,q.o1,q.ne h' (nq k (by omega))⟩
  ·obtain ⟨o,q,_⟩:=h'.Bm hg (.inr e);have hd:=L.hd (by omega);exact ⟨o,hd.1,hd.2,q.so,q.o1,q.ne⟩
 ·have b:=B k (by unfold c9;omega);have hd:=b.hand (by omega);rw [b.s2 (by omega)];exact hd.2.2.1
 ·have b:=B k (by unfold c9;omega);have hd:=b.hand (by omega);have k2:=b.k2 (by omega);have k0:=b.k0;have jQ:ax (aa s g).order (aa s g).k < ((aa s g).aq.length:Int):=by rw [b.s2 (by omega)];exact hd.2.2.1
  have v0:=b.s6 (by omega) _ hd.1;obtain ⟨w,w1,w2,w3,w4,w5,w6⟩:=h'.wB hg k (by omega) hd.2.1 jQ v0;refine ⟨v0,w1,fun c=>?_⟩;have no:∀ c,1≤c→c≤(s.av.length:Int)→¬ (ax (aa s g).aq (ax (aa s g).order (aa s g).k)∈(cn s c).recv∨ax (aa s g).aq (ax (aa s g).order (aa s g).k)∈(cn s c).send):=fun c c0 c1 hi=>by
   have q:=(Sx.Inv.q h'.v c c0 c1 _ hi).2.2.2.2.2.2.2.2;rw [w2,fE,w3] at q;rcases q with q | q
   ·exact q.1.ne k
   ·have q5:=q.2.2.2.2;have:ax (aa s g).order (aa s g).k∈(aa s g).order.take (aa s g).k.toNat:=by
     rcases q5 with z | z | z | z | z | z
     ·exact z.2
     all_goals omega
    have nd:=b.o2;rw [← List.take_append_drop (aa s g).k.toNat (aa s g).order,uz k0 k2] at nd;exact (List.nodup_append.1 nd).2.2 _ this _ (by simp) rfl
  rcases zD s c with ⟨c',a,b',e1⟩ | e1
  ·rw [e1];exact ⟨fun hi=>no c' a b' (.inl hi),fun hi=>no c' a b' (.inr hi)⟩
  ·rw [e1];simp [oF]
 ·have b:=B k (by unfold c9;omega);obtain ⟨a1,a2,_,a4⟩:=O.fr e;have m:=nt.1 a4;refine ⟨a1,a2,a4,?_⟩;have hz:SE (aa s g):=k;have K:=Sx.Inv.iW h'.v (g:Int) (by omega) (by omega) _ m.1 m.2;rw [fE,rQ hz] at K;refine K.1 (.inr ⟨by omega,?_⟩);have tk:=sS (l:=(aa s g).aB) (k:=(aa s g).k - 1) (by omega) (by omega);rw [show (aa s g).k - 1 + 1=(aa s g).k by omega] at tk;rw [tk];simp
 ·have b:=B k (by unfold c9;omega);refine ⟨by omega,fun x hx=>?_⟩;obtain ⟨j,j0,j1,e1⟩:=nB.1 hx;have:=(b.s4 j j0 j1).1;omega
 ·have b:=B k (by unfold c9;omega);have hd:=b.hand (by omega);refine ⟨b.k0,b.k2 (by omega),by omega,hd.2.1,?_⟩;rw [b.s2 (by omega)];exact hd.2.2.1
 ·obtain ⟨_,_,_,_,c1,_,v1⟩:=O.zC e;have b:=B k (by unfold c9;omega);have hd:=b.hand (by omega);exact ⟨c1,(b.s4 _ hd.2.1 (by rw [b.s2 (by omega)];exact hd.2.2.1)).1,v1⟩
end Fl
end Go.Proofs.YtdjhhbpedllnhaaGreat
