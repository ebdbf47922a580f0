/-
  What the laws need, part S3.
  Conditions: none.
-/
import Derived.Test.YtgjpdogjekmemaaGreatS2
import Derived.ProofKit
set_option linter.unusedVariables false
set_option linter.unusedSimpArgs false
set_option linter.unnecessarySimpa false
set_option maxHeartbeats 2000000
namespace Go.Proofs.YtgjpdogjekmemaaGreat
namespace Bc
def has (l:List (Int × Bool)) (g:Int):Bool:=decide (0≤g) && decide (g < l.length)
def mem (l:List (Int × Bool)) (g:Int):Int × Bool:=l.getD g.toNat (0,false)
def status (l:List (Int × Bool)) (g:Int):Int:=if has l g then (mem l g).1 else 2
def token (l:List (Int × Bool)) (g:Int):Bool:=has l g && (mem l g).2
def rU (l:List (Int × Bool)) (g s:Int):Bool:=has l g && decide (0≤s) && decide (s≤2)
def wu (l:List (Int × Bool)) (g s:Int) (t:Bool):List (Int × Bool):=if rU l g s then l.set g.toNat (s,t) else l
def gz (n:Int):List (Int × Bool):=List.replicate (max 0 (min n 4096)).toNat (0,false)
end Bc
open Go.RowKit
namespace Fl
open Sx Go.Proofs.Tryz
set_option maxRecDepth 100000
def ng (o:Int × Bool):List A:=[nI o.1,bI o.2]
abbrev LB (b:Nat) (v:Value) (l:List (Int × Bool)):List ak:=[.box b 128 [.v v],.row v 145 2 (l.map ng)]
def mB (p:Value) (l:List (Int × Bool)) (x:{ x:Nat × Value // p=pt x.1 }):List ak:=LB x.1.1 x.1.2 l
def tB (p:Value) (l:List (Int × Bool)):World→List Nat→Prop:=dP (mB p l)
theorem IG (l:List (Int × Bool)):(l.map ng).all (·.all kL)=true:=List.all_eq_true.2 fun x hx=>by
 obtain ⟨n,_,rfl⟩:=List.mem_map.1 hx;rfl
theorem mB.fl {p:Value} {l:List (Int × Bool)} (x:{ x:Nat × Value // p=pt x.1 }):(mB p l x).all lu=true:=by
 unfold mB LB;simp only [List.all_cons,List.all_nil,lu,IG];rfl
theorem zg {F:FuncId} {ds:List D} {p:Value} {l l':List (Int × Bool)} {d:D} {S:List Nat} (h:∀ b v,p=pt b→aq prog F ds (LB b v l) (fun _:Unit=>(d,LB b v l'))) :
  aq prog F ds [aL (tB p l) S] (fun _:Unit=>(d,[aL (tB p l') S])) :=
 aq.rR mB.fl fun x=>⟨Unit,fun _=>x,fun _=>rfl,h x.1.1 x.1.2 x.2⟩
theorem zh {l:List (Int × Bool)} {g:Int} (h:Bc.has l g=true):(l.map ng)[g.toNat]?=some (ng (Bc.mem l g))∧0≤g∧g < ((l.map ng).length:Int)∧g.toNat < (l.map ng).length:=by
 unfold Bc.has at h;simp only [Bool.and_eq_true,decide_eq_true_eq] at h;have h3:g.toNat < l.length:=by omega
 refine ⟨?_,h.1,by rw [List.length_map];exact h.2,by rw [List.length_map];exact h3⟩;unfold Bc.mem;rw [List.getElem?_map,List.getD_eq_getElem?_getD,List.getElem?_eq_getElem h3];rfl
theorem II (l:List (Int × Bool)) (i:Nat) (o:Int × Bool):(l.set i o).map ng=(l.map ng).set i (ng o):=List.map_set
theorem zi (b:Nat) (v:Value) (l:List (Int × Bool)) (g:Int):aq prog 70 [.c (.v (pt b)),.c (nI g)] (LB b v l) (fun _:Unit=>(.c (bI (Bc.has l g)),LB b v l)):=by
 have ln:(l.map ng).length=l.length:=List.length_map ..;unfold Bc.has LB;rw [← ln];refine aq.intro func70 rfl rfl rfl (fun ok e=>?_)
 cases x0:decide (g ≥ 0)
 all_goals
  repeat (refine gn ?_)
  (exact J.cS func70 rfl (.cons (.tmp rfl) .nil) () (by exact .refl) rfl)
theorem IJ (b:Nat) (v:Value) (l:List (Int × Bool)) (g:Int):aq prog 40 [.c (.v (pt b)),.c (nI g)] (LB b v l) (fun _:Unit=>(.c (nI (Bc.status l g)),LB b v l)):=by
 have CT:=zi b v l g;unfold Bc.status
 cases hs:Bc.has l g with
 | false =>
  rw [hs] at CT;rw [if_neg (by simp)];refine aq.intro func40 rfl rfl rfl (fun ok e=>?_)
  repeat (first | (refine K.call ?_;refine JO.ld (Ld.gy (CT) (qb rfl) rfl (by (exact br.cons .refl (.cons .refl .nil)))) rfl ?_;intro _) | refine gn ?_)
  (exact J.cS func40 rfl (.cons (.tmp rfl) .nil) () (by exact .refl) rfl)
 | true =>
  rw [hs] at CT;obtain ⟨A,i0,i1,_⟩:=zh hs;rw [if_pos rfl];refine aq.intro func40 rfl rfl rfl (fun ok e=>?_)
  repeat (first | (refine K.load ?_;refine jq rfl rfl rfl (Qt.dx rfl A rfl) ?_) | (refine K.indexAddr ?_;refine jq rfl rfl rfl (Qt.cB rfl rfl i0 i1) ?_) | (refine K.call ?_;refine JO.ld (Ld.gy (CT) (qb rfl) rfl (by (exact br.cons .refl (.cons .refl .nil)))) rfl ?_;intro _) | refine gn ?_)
  (exact J.cS func40 rfl (.cons (.tmp rfl) .nil) () (by exact .refl) rfl)
theorem Ci (p:Value) (l:List (Int × Bool)) (S:List Nat) (i:Int):aq prog 40 [.c (.v p),.c (nI i)] [aL (tB p l) S] (fun _:Unit=>(.c (nI (Bc.status l i)),[aL (tB p l) S])) :=
 zg fun b v e=>by subst e;exact IJ b v l i
theorem Cj (p:Value) (l:List (Int × Bool)) (S:List Nat) (i:Int):aq prog 41 [.c (.v p),.c (nI i)] [aL (tB p l) S] (fun _:Unit=>(.c (bI (Bc.token l i)),[aL (tB p l) S])):=by
 refine zg fun b v e=>?_
 subst e;have CT:=zi b v l i;unfold Bc.token
 cases hs:Bc.has l i with
 | false =>
  rw [hs] at CT;refine aq.intro func41 rfl rfl rfl (fun ok e=>?_)
  repeat (first | (refine K.call ?_;refine JO.ld (Ld.gy (CT) (qb rfl) rfl (by (exact br.cons .refl (.cons .refl .nil)))) rfl ?_;intro _) | refine gn ?_)
  (exact J.cS func41 rfl (.cons (.tmp rfl) .nil) () (by exact .refl) rfl)
 | true =>
  rw [hs] at CT;obtain ⟨A,i0,i1,_⟩:=zh hs;rw [Bool.true_and];refine aq.intro func41 rfl rfl rfl (fun ok e=>?_)
  repeat (first | (refine K.load ?_;refine jq rfl rfl rfl (Qt.dx rfl A rfl) ?_) | (refine K.indexAddr ?_;refine jq rfl rfl rfl (Qt.cB rfl rfl i0 i1) ?_) | (refine K.call ?_;refine JO.ld (Ld.gy (CT) (qb rfl) rfl (by (exact br.cons .refl (.cons .refl .nil)))) rfl ?_;intro _) | refine gn ?_)
  (exact J.cS func41 rfl (.cons (.tmp rfl) .nil) () (by exact .refl) rfl)
theorem IK (p:Value) (l:List (Int × Bool)) (S:List Nat) (i s:Int) (t:Bool):aq prog 34 [.c (.v p),.c (nI i),.c (nI s),.c (bI t)] [aL (tB p l) S] (fun _:Unit=>(.c (bI (Bc.rU l i s)),[aL (tB p (Bc.wu l i s t)) S])):=by
 refine zg fun b v e=>?_
 subst e;have CT:=zi b v l i;obtain ⟨x0,t0⟩:∃ y,decide (s < 0)=y:=⟨_,rfl⟩
 obtain ⟨x1,t1⟩:∃ y,decide (s > 2)=y:=⟨_,rfl⟩
 have ek:Bc.rU l i s=(Bc.has l i && !x0 && !x1):=by
  unfold Bc.rU;rw [← t0,← t1,← decide_not,← decide_not];simp only [Int.not_lt,gt_iff_lt]
 unfold Bc.wu;rw [ek]
 cases hs:Bc.has l i with
 | false =>
  rw [hs] at CT;refine aq.intro func34 rfl rfl rfl (fun ok e=>?_)
  repeat (first | (refine K.call ?_;refine JO.ld (Ld.gy (CT) (qb rfl) rfl (by (exact br.cons .refl (.cons .refl .nil)))) rfl ?_;intro _) | refine gn ?_)
  (exact J.cS func34 rfl (.cons (.tmp rfl) .nil) () (by exact .refl) rfl)
 | true =>
 rw [hs] at CT;obtain ⟨A,i0,i1,iq⟩:=zh hs
 cases x0 with
 | true =>
  refine aq.intro func34 rfl rfl rfl (fun ok e=>?_)
  repeat (first | (refine K.call ?_;refine JO.ld (Ld.gy (CT) (qb rfl) rfl (by (exact br.cons .refl (.cons .refl .nil)))) rfl ?_;intro _) | refine gn ?_)
  (exact J.cS func34 rfl (.cons (.tmp rfl) .nil) () (by exact .refl) rfl)
 | false =>
 cases x1 with
 | true =>
  refine aq.intro func34 rfl rfl rfl (fun ok e=>?_)
  repeat (first | (refine K.call ?_;refine JO.ld (Ld.gy (CT) (qb rfl) rfl (by (exact br.cons .refl (.cons .refl .nil)))) rfl ?_;intro _) | refine gn ?_)
  (exact J.cS func34 rfl (.cons (.tmp rfl) .nil) () (by exact .refl) rfl)
 | false =>
  rw [if_pos (by rfl)];unfold LB;rw [II];refine aq.intro func34 rfl rfl rfl (fun ok e=>?_)
  repeat (first | (refine K.store ?_;refine JO.ld (Ld.dV rfl rfl rfl (by exact rfl) (by exact iq)) rfl (fun _=>?_)) | (refine K.indexAddr ?_;refine jq rfl rfl rfl (Qt.cB rfl rfl i0 i1) ?_) | (refine K.call ?_;refine JO.ld (Ld.gy (CT) (qb rfl) rfl (by (exact br.cons .refl (.cons .refl .nil)))) rfl ?_;intro _) | refine gn ?_)
  (exact J.cS func34 rfl (.cons (.tmp rfl) .nil) () (by exact .refl) rfl)
theorem Ck (n:Int):aq prog 28 [.c (nI n)] [] (fun x:Value × List Nat=>(.c (.v x.1),[aL (tB x.1 (Bc.gz n)) x.2])):=by
 refine aq.rS (Y:=Value) (d:=fun p=>.c (.v p)) (κ:=fun p=>{ x:Nat × Value // p=pt x.1 }) (N:=fun p x=>mB p (Bc.gz n) x) (fun p x=>mB.fl x) (Z:=Nat × Value) (fun z=>⟨pt z.1,⟨z,rfl⟩⟩) ?_;unfold Bc.gz mB;obtain ⟨m,hm⟩:∃ m:Nat,max 0 (min n 4096)=(m:Int):=⟨(max 0 (min n 4096)).toNat,by omega⟩
 have m4:m≤4096:=by omega
 rw [hm,Int.toNat_natCast];have m1:(if 4096 < n then 4096 else n)=min n 4096:=by omega
 have m2:(if min n 4096 > 0 then min n 4096 else 0)=(m:Int):=by omega
 unfold LB;rw [List.map_replicate];refine aq.intro func28 rfl rfl rfl (fun ok e=>?_)
 repeat (first | (refine K.bi ?_;first | refine jq rfl rfl rfl (Qt.min rfl rfl m1) ?_ | refine jq rfl rfl rfl (Qt.max rfl rfl m2) ?_) | (refine K.make ?_;refine JO.ld (Ld.make m (qb rfl) rfl rfl rfl (by omega)) rfl (fun _=>?_)) | refine av ?_ | intro _)
 rename_i v b
 (exact J.cS func28 rfl (.cons (.tmp rfl) .nil) (b,.slice (some ⟨v,0,none⟩) m m) (by exact .refl) rfl)
end Fl
namespace Rn
def mh (ps:List Int) (f c:Nat):List Int:=(List.range c).map fun i=>ps.getD ((f + i) % ps.length) 0
theorem IL (ps:List Int) (f c:Nat):(mh ps f c).length=c:=by simp [mh]
theorem start (l:List Int) (N:Nat) (h:l.length≤N):mh (l ++ List.replicate (N - l.length) 0) 0 l.length=l:=by
 apply List.ext_getElem
 ·simp [mh]
 ·intro i h1 h2;simp only [mh,List.getElem_map,List.getElem_range,List.length_append,List.length_replicate];rw [Nat.zero_add,Nat.mod_eq_of_lt (by omega)];rw [List.getD_eq_getElem?_getD,List.getElem?_append_left h2];simp [h2]
end Rn
open Go.RowKit
namespace Fl
open Sx Go.Proofs.Tryz
set_option maxRecDepth 100000
abbrev LR (b:Nat) (v:Value) (ps:List Int) (f c:Nat):List ak:=[.box b 150 [.v v,nI f,nI c],.row v 2 1 (aU ps)]
structure rV (N:Nat) (l ps:List Int) (f:Nat):Prop where
 pl:ps.length=N
 pn:N≤64
 lv:l=Rn.mh ps f l.length
 ll:l.length≤N
 fN:f < N∨(N=0∧f=0)
def mR (p:Value) (N:Nat) (l:List Int) (x:{ x:Nat × Value × List Int × Nat // p=pt x.1∧rV N l x.2.2.1 x.2.2.2 }):List ak:=LR x.1.1 x.1.2.1 x.1.2.2.1 x.1.2.2.2 l.length
theorem mR.fl {p:Value} {N:Nat} {l:List Int} (x:{ x:Nat × Value × List Int × Nat // p=pt x.1∧rV N l x.2.2.1 x.2.2.2 }):(mR p N l x).all lu=true:=by
 unfold mR LR;simp only [List.all_cons,List.all_nil,lu,vZ];rfl
def Rg (w:World) (p:Value) (N:Nat) (l:List Int) (S:List Nat):Prop:=dP (mR p N l) w S
theorem Rg.gf {w w':World} {p:Value} {N:Nat} {l:List Int} {S T:List Nat} (h:Rg w p N l S) (k:aE T w w') (hn:∀ x∈S,x∉T):Rg w' p N l S:=dP.ok.gf h k hn
theorem Rg.lt {w:World} {p:Value} {N:Nat} {l:List Int} {S:List Nat} (h:Rg w p N l S):∀ x∈S,x < w.heap.size:=dP.ok.lt h
theorem rg_of {F:FuncId} {ds:List D} {p:Value} {N:Nat} {l l':List Int} {d:D} {S:List Nat} (h:∀ b v ps f,p=pt b→rV N l ps f→∃ wv f',rV N l' wv f'∧aq prog F ds (LR b v ps f l.length) (fun _:Unit=>(d,LR b v wv f' l'.length))) :
  aq prog F ds [aL (dP (mR p N l)) S] (fun _:Unit=>(d,[aL (dP (mR p N l')) S])) :=
 aq.rR mR.fl fun x=>by
  obtain ⟨⟨b,v,ps,f⟩,e,h1⟩:=x;obtain ⟨wv,f',h2,h3⟩:=h b v ps f e h1;exact ⟨Unit,fun _=>⟨(b,v,wv,f'),e,h2⟩,fun _=>rfl,h3⟩
theorem IM (p:Value) (N:Nat) (l:List Int) (S:List Nat):aq prog 43 [.c (.v p)] [aL (dP (mR p N l)) S] (fun _:Unit=>(.c (nI N),[aL (dP (mR p N l)) S])):=by
 refine rg_of fun b v ps f e R=>⟨ps,f,R,?_⟩
 subst e;rw [show N=(aU ps).length by rw [fA,R.pl]];refine aq.intro func43 rfl rfl rfl (fun ok e=>?_)
 repeat (refine gn ?_)
 (exact J.cS func43 rfl (.cons (.tmp rfl) .nil) () (by exact .refl) rfl)
theorem IN (b:Nat) (v:Value) (ps:List Int) (f c i:Nat) (h:0 < ps.length) (hb:f + i≤1000):aq prog 75 [.c (.v (pt b)),.c (nI i)] (LR b v ps f c) (fun _:Unit=>(.c (nI ((f + i) % ps.length:Nat)),LR b v ps f c)):=by
 have w1:IntKind.i64.wrap ((f:Int) + (i:Int))=((f + i:Nat):Int):=by rw [fq (by omega) (by omega)];omega
 refine aq.intro func75 rfl rfl rfl (fun ok e=>?_);have r1:((f + i:Nat):Int).tmod ((aU ps).length:Int)=(((f + i) % ps.length:Nat):Int):=by rw [fA];rfl
 have n0:((aU ps).length:Int)≠0:=by rw [fA];omega
 repeat (refine gn ?_)
 refine J.draw (by kernel_rfl) rfl ?_;refine JW.base none ?_;refine tk 0 ?_;refine tk 1 ?_;refine tk 2 ?_;refine tk 3 ?_;refine tk 4 ?_;refine JD.take 5 rfl rfl (by kernel_rfl) rfl (qb rfl) (Qt.dy rfl rfl rfl w1) rfl ?_;refine tk 6 ?_;refine tk 7 ?_;refine tk 8 ?_;refine tk 9 ?_;refine tk 10 ?_;refine JD.take 11 rfl rfl (by kernel_rfl) rfl (qb rfl) (Qt.rem rfl rfl n0 r1) rfl ?_;refine tk 12 ?_;refine bP ?_
 (exact J.cS func75 rfl (.cons (.tmp rfl) .nil) () (by exact .refl) rfl)
theorem IP (ps:List Int) (f i:Nat):Rn.mh ps f (i + 1)=Rn.mh ps f i ++ [ps.getD ((f + i) % ps.length) 0]:=by
 unfold Rn.mh;rw [List.range_succ,List.map_append];rfl
theorem IQ (p:Value) (N:Nat) (l:List Int) (S:List Nat):aq prog 44 [.c (.v p)] [aL (dP (mR p N l)) S] (fun _:Unit=>(.c (ints l),[aL (dP (mR p N l)) S])):=by
 refine rg_of fun b z ps f e R=>⟨ps,f,R,?_⟩
 subst e;obtain ⟨pl,pn,lv,ll,fN⟩:=R;subst pl;generalize l.length=c at lv ll ⊢;subst lv;refine aq.intro func44 rfl rfl rfl (fun ok e=>?_)
 repeat (first | (refine K.make ?_;refine JO.ld (Ld.vW (c) (qb rfl) rfl rfl (by (rfl)) (by omega)) rfl (fun _=>?_)) | refine gn ?_)
 refine J.loop (ι:={ q:Nat × Value // q.1≤c }) (fun q=>[(14,.c (nI q.1.1)),(13,.c (nI c)),(3,.c (.v q.1.2)),(0,.c (.v (pt b)))]) (fun q=>.row q.1.2 2 1 (aU (Rn.mh ps f q.1.1)) :: LR b z ps f c) (fun q=>c - q.1.1) ⟨(0,_),Nat.zero_le _⟩ (fun X h=>h.aQ ⟨rfl,rfl,rfl,rfl,trivial⟩) (fun q ih=>?_);obtain ⟨⟨i,y⟩,hi⟩:=q;simp only at hi ih ⊢
 by_cases de:i < c
 ·have t1:decide ((i:Int) < (c:Int))=true:=decide_eq_true (by omega);have CA:=IN b z ps f c i (by omega) (by omega);have hm:=Nat.mod_lt (f + i) (show 0 < ps.length by omega);have i0:=Int.natCast_nonneg ((f + i) % ps.length);have i1:(((f + i) % ps.length:Nat):Int) < ((aU ps).length:Int):=by rw [fA];omega
  have A:=tY (l:=ps) i0 (by omega);rw [Int.toNat_natCast] at A;have hlen:(aU (Rn.mh ps f i)).length=i:=by rw [fA,Rn.IL]
  repeat (refine gn ?_)
  refine J.draw (by kernel_rfl) rfl ?_;refine JW.Ig none ?_;refine tk 0 ?_;refine tk 1 ?_;refine tk 2 ?_;refine tk 3 ?_;refine tk 5 ?_;refine tk 6 ?_;refine JD.cy (i:=4) (j:=7) (by kernel_rfl) ?_ ?_
  (refine JS.q rfl rfl rfl (qb rfl) (Qt.kE rfl (by exact rfl)) ?_)
  refine JD.fR (i:=7) (by kernel_rfl) ?_;refine JS.rT rfl rfl rfl (qb rfl) (Ld.mg CA (qb rfl) rfl (.cons .refl (.cons .refl .nil))) (kM.aS) (fun _=>?_);refine jk 8 rfl rfl rfl rfl (Qt.cB rfl rfl i0 i1) ?_;refine jk 9 rfl rfl rfl rfl (Qt.dx rfl A rfl) ?_;refine JD.fR (i:=10) (by kernel_rfl) ?_;refine JS.rT rfl rfl rfl (qb rfl) (Ld.iZ (qb rfl) rfl rfl rfl rfl rfl) (kM.nil) (fun _=>?_);refine JD.fR (i:=11) (by kernel_rfl) ?_;refine JS.rT rfl rfl rfl (qb rfl) (Ld.bH (qb rfl) rfl rfl .read (by (simp;omega))) (kM.row) (fun _=>?_);refine jk 12 rfl rfl rfl rfl (Qt.assign rfl) ?_;refine bP ?_
  rotate_left
  refine JS.rT rfl rfl rfl (qb rfl) (Ld.mg CA (qb rfl) rfl (.cons .refl (.cons .refl .nil))) (kM.aS) (fun _=>?_);refine jk 4 rfl rfl rfl rfl (Qt.kE rfl (by exact rfl)) ?_;refine jk 8 rfl rfl rfl rfl (Qt.cB rfl rfl i0 i1) ?_;refine jk 9 rfl rfl rfl rfl (Qt.dx rfl A rfl) ?_;refine JD.fR (i:=10) (by kernel_rfl) ?_;refine JS.rT rfl rfl rfl (qb rfl) (Ld.iZ (qb rfl) rfl rfl rfl rfl rfl) (kM.nil) (fun _=>?_);refine JD.fR (i:=11) (by kernel_rfl) ?_;refine JS.rT rfl rfl rfl (qb rfl) (Ld.bH (qb rfl) rfl rfl .read (by (simp;omega))) (kM.row) (fun _=>?_);refine jk 12 rfl rfl rfl rfl (Qt.assign rfl) ?_;refine bP ?_
  rotate_left
  all_goals
   repeat (refine gn ?_)
   refine J.dj ?_ ((ih ⟨(i + 1,_),by simp only;omega⟩ (by simp only;omega)).aQ ⟨rfl,rfl,rfl,rfl,trivial⟩);rw [IP];unfold aU;rw [List.map_append];rfl
 ·obtain rfl:i=c:=by omega
  have t1:decide ((i:Int) < (i:Int))=false:=decide_eq_false (by omega)
  repeat (refine gn ?_)
  refine J.gG 2 rfl ?_
  (exact J.cS func44 rfl (.cons (.tmp rfl) .nil) () (by exact .refl) rfl)
theorem IS (room:Int) (l:List Int) (h:0≤room∧room≤64∧(l.length:Int)≤room):aq prog 71 [.c (nI room),.c (ints l)] [] (fun x:Value × List Nat=>(.aY [.c (.v x.1),.c (nI 0)],[aL (dP (mR x.1 room.toNat l)) x.2])):=by
 obtain ⟨h0,h1,h2⟩:=h;obtain ⟨N,rfl⟩:=Int.eq_ofNat_of_zero_le h0;rw [Int.toNat_natCast];have hN:l.length≤N:=by omega
 have OK:rV N l (l ++ List.replicate (N - l.length) 0) 0:=⟨by simp;omega,by omega,(Rn.start l N hN).symm,hN,by omega⟩
 refine aq.rS (Y:=Value) (d:=fun p=>.aY [.c (.v p),.c (nI 0)]) (κ:=fun p=>{ x:Nat × Value × List Int × Nat // p=pt x.1∧rV N l x.2.2.1 x.2.2.2 }) (N:=fun p x=>mR p N l x) (fun p x=>mR.fl x) (Z:=Nat × Value) (fun z=>⟨pt z.1,⟨(z.1,z.2,l ++ List.replicate (N - l.length) 0,0),rfl,OK⟩⟩) ?_;unfold mR;dsimp only;unfold LR;have t1:decide ((N:Int) < 0)=false:=decide_eq_false (by omega);have t2:decide ((N:Int) > 64)=false:=decide_eq_false (by omega);have t3:decide ((l.length:Int) > (N:Int))=false:=decide_eq_false (by omega);have eF:aU (l ++ List.replicate (N - l.length) 0)=aU l ++ (List.replicate N (vs [Value.int .i64 0])).drop (aU l).length:=by
  rw [fA,List.drop_replicate];unfold aU;rw [List.map_append,List.map_replicate];rfl
 rw [eF];refine aq.intro func71 rfl rfl rfl (fun ok e=>?_)
 repeat (first | (refine K.bi ?_;refine JO.ld (Ld.Ih (qb rfl) rfl rfl (by rw [List.length_replicate];exact (fA l).symm ▸ hN)) rfl (fun _=>?_)) | (refine K.make ?_;refine JO.ld (Ld.make (N) (qb rfl) rfl rfl (by (rfl)) (by omega)) rfl (fun _=>?_)) | refine av ?_ | intro _)
 rename_i v b _
 (exact J.cS func71 rfl (.cons (.tmp rfl) (.cons (.tmp rfl) .nil)) (b,.slice (some ⟨v,0,none⟩) N N) (by exact .refl) rfl)
def tR (l:List (Value × Nat × List Int)) (w:World) (S:List Nat):Prop :=
 ∃ Ss:List (List Nat),Ss.length=l.length∧S=Ss.flatten∧Ss.Pairwise (fun A B=>∀ x∈A,x∉B)∧∀ (i:Nat) x Si,l[i]?=some x→Ss[i]?=some Si→Rg w x.1 x.2.1 x.2.2 Si
theorem qz {Ss:List (List Nat)} {i:Nat} {Si:List Nat} (h:Ss[i]?=some Si) {x:Nat} (hx:x∈Si):x∈Ss.flatten:=List.mem_flatten.2 ⟨Si,List.mem_of_getElem? h,hx⟩
theorem tR.ok {l:List (Value × Nat × List Int)}:rQ (tR l):=by
 refine ⟨?_,?_⟩
 ·rintro w w' S T ⟨Ss,h1,rfl,h3,h4⟩ k hn
  exact ⟨Ss,h1,rfl,h3,fun i x Si hi hs=>(h4 i x Si hi hs).gf k fun y hy=>hn y (qz hs hy)⟩
 ·rintro w S ⟨Ss,h1,rfl,h3,h4⟩ x hx
  obtain ⟨Si,hs,hx⟩:=List.mem_flatten.1 hx;obtain ⟨i,hi⟩:=List.getElem?_of_mem hs;have hl:i < l.length:=by rw [← h1];exact (List.getElem?_eq_some_iff.1 hi).1
  exact (h4 i _ Si (List.getElem?_eq_getElem hl) hi).lt x hx
theorem IT {Ss:List (List Nat)} (h:Ss.Pairwise (fun A B=>∀ x∈A,x∉B)) {i j:Nat} {A B:List Nat} (hi:Ss[i]?=some A) (hj:Ss[j]?=some B) (cq:i≠j):∀ x∈B,x∉A:=by
 intro x hx hy;obtain ⟨dz,de⟩:=List.getElem?_eq_some_iff.1 hi;obtain ⟨ta,dH⟩:=List.getElem?_eq_some_iff.1 hj;rcases Nat.lt_or_gt_of_ne cq with c | c
 ·have:=List.pairwise_iff_getElem.1 h i j dz ta c x (de ▸ hy);exact this (dH ▸ hx)
 ·have:=List.pairwise_iff_getElem.1 h j i ta dz c x (dH ▸ hx);exact this (de ▸ hy)
theorem tR.at_ {l:List (Value × Nat × List Int)} {w:World} {S:List Nat} (h:tR l w S) {i:Nat} {p:Value} {N:Nat} {b:List Int} (hi:l[i]?=some (p,N,b)) :
  ∃ Si,Rg w p N b Si∧(∀ x∈Si,x∈S)∧∀ w' b',aE Si w w'→Rg w' p N b' Si→tR (l.set i (p,N,b')) w' S:=by
 obtain ⟨Ss,h1,rfl,h3,h4⟩:=h;have hl:=(List.getElem?_eq_some_iff.1 hi).1;have hs:=List.getElem?_eq_getElem (show i < Ss.length by omega);refine ⟨Ss[i]'(by omega),h4 i _ _ hi hs,fun x hx=>qz hs hx,fun w' b' k hr=>⟨Ss,by simp [h1],rfl,h3,fun j x Sj hj wz=>?_⟩⟩
 by_cases e:i=j
 ·subst e;rw [List.getElem?_set_self hl] at hj
  cases hj;rw [hs] at wz;cases wz;exact hr
 ·rw [List.getElem?_set_ne e] at hj;exact (h4 j x Sj hj wz).gf k (IT h3 hs wz e)
theorem IU (l:List (Value × Nat × List Int)) (S:List Nat) {i:Nat} {p:Value} {N:Nat} {b b':List Int} (hi:l[i]?=some (p,N,b)) {F:FuncId} {ds:List D} {d:D} (h:∀ S1,aq prog F ds [aL (dP (mR p N b)) S1] (fun _:Unit=>(d,[aL (dP (mR p N b')) S1]))) :
  aq prog F ds [aL (tR l) S] (fun _:Unit=>(d,[aL (tR (l.set i (p,N,b'))) S])):=⟨fun ok e xs hd hr ha hn=>by
 have h0:=(aL.holds tR.ok).1 (hr _ (List.mem_singleton.2 rfl));rw [iw] at hn;obtain ⟨Si,h1,h2,h3⟩:=h0.at_ hi;refine ((h Si).go ok e xs hd (fun r hr=>by rw [List.mem_singleton.1 hr];exact (aL.holds dP.ok).2 h1) (List.pairwise_singleton _ _) (by rw [iw];exact fun x hx=>hn x (h2 x hx))).mono ?_
 rintro en w' ⟨_,y,rfl,kp,hs,_,hh,hx⟩
 rw [iw] at kp;have k2:dP (mR p N b') w' Si:=(aL.holds dP.ok).1 (hh _ (List.mem_singleton.2 rfl));refine ⟨(),y,rfl,by rw [iw];exact kp.mono (fun x hx=>.inl (h2 x hx)),by rw [iw,iw];exact fun _ z=>.inl z,List.pairwise_singleton _ _,fun r hr=>?_,?_⟩
 ·rw [List.mem_singleton.1 hr];exact (aL.holds tR.ok).2 (h3 _ _ kp k2)
 ·refine RD.ck ⟨Nat.le_refl _,fun g hg ho=>⟨?_,rfl⟩⟩ _ _ hx;unfold fL at ho ⊢;rw [iw,iw] at ho ⊢;obtain ⟨o1,o2⟩:=ho;rcases o1 with o1 | o1 | o1
  ·exact ⟨.inl o1,fun z=>hn g z o1⟩
  ·exact absurd o1 o2
  ·exact ⟨.inr (.inr o1),fun z=>by have:=tR.ok.lt h0 g z;omega⟩⟩
theorem Cl (l:List (Value × Nat × List Int)) (S:List Nat) {i:Nat} {p:Value} {N:Nat} {b:List Int} (hi:l[i]?=some (p,N,b)) {F:FuncId} {ds:List D} {d:D} (h:∀ S1,aq prog F ds [aL (dP (mR p N b)) S1] (fun _:Unit=>(d,[aL (dP (mR p N b)) S1]))) :
  aq prog F ds [aL (tR l) S] (fun _:Unit=>(d,[aL (tR l) S])):=by
 have:=IU l S hi h;rw [show l.set i (p,N,b)=l by
  obtain ⟨h1,h2⟩:=List.getElem?_eq_some_iff.1 hi;rw [← h2];exact List.set_getElem_self h1] at this
 exact this
theorem Cm (l:List (Value × Nat × List Int)) (S:List Nat) {i:Nat} {p:Value} {N:Nat} {b:List Int} (hi:l[i]?=some (p,N,b)):aq prog 43 [.c (.v p)] [aL (tR l) S] (fun _:Unit=>(.c (nI N),[aL (tR l) S])):=Cl l S hi fun S1=>IM p N b S1
theorem Co (l:List (Value × Nat × List Int)) (S:List Nat) {i:Nat} {p:Value} {N:Nat} {b:List Int} (hi:l[i]?=some (p,N,b)):aq prog 44 [.c (.v p)] [aL (tR l) S] (fun _:Unit=>(.c (ints b),[aL (tR l) S])):=Cl l S hi fun S1=>IQ p N b S1
theorem IV (room:Int) (l:List Int) (h:0≤room∧room≤64∧(l.length:Int)≤room):aq prog 71 [.c (nI room),.c (ints l)] [] (fun x:Value × List Nat=>(.aY [.c (.v x.1),.c (nI 0)],[aL (tR [(x.1,room.toNat,l)]) x.2])):=⟨fun ok e xs hd hr ha hn=>by
 refine ((IS room l h).go ok e xs hd hr ha hn).mono ?_
 rintro en w' ⟨x,y,rfl,kp,hs,_,hh,hx⟩
 have g:dP (mR x.1 room.toNat l) w' x.2:=(aL.holds dP.ok).1 (hh _ (List.mem_singleton.2 rfl));refine ⟨x,y,rfl,kp,by rw [iw] at hs ⊢;exact hs,List.pairwise_singleton _ _,fun q hq=>?_,?_⟩
 ·rw [List.mem_singleton.1 hq];refine (aL.holds tR.ok).2 ⟨[x.2],rfl,by simp,List.pairwise_singleton _ _,fun i x' Si hi hs=>?_⟩
  cases i with
  | zero=>simp at hi hs;subst hi hs;exact g
  | succ i=>simp at hi
 ·have eq:fL ok e [] [aL (tR [(x.1,room.toNat,l)]) x.2]=fL ok e [] [aL (dP (mR x.1 room.toNat l)) x.2]:=by
   funext k;unfold fL;rw [iw,iw]
  rw [eq];exact hx⟩
end Fl
open Go.RowKit
namespace Fl
open Sx Go.Proofs.Tryz
set_option maxRecDepth 100000
theorem aq.re {P:Program} {F:FuncId} {ds:List D} {L:List ak} {ι κ:Type} {post:κ→D × List ak} (e:ι→κ) (h:aq P F ds L (fun i=>post (e i))):aq P F ds L post:=⟨fun ok w xs hd hr ha hn=>(h.go ok w xs hd hr ha hn).mono fun en w' ⟨z,q⟩=>⟨e z,q⟩⟩
def mj (l:List Bool):List (List A):=l.map fun x=>[bI x]
abbrev sl (b o n cap:Nat):Value:=.slice (some ⟨b,o,none⟩) n cap
theorem Cp (l:List Bool):(mj l).length=l.length:=List.length_map ..
theorem Cq {l:List Bool} {i:Int} (h0:0≤i) (h:i < l.length):(mj l)[i.toNat]?=some [bI (l.getD i.toNat false)]:=by
 unfold mj;rw [List.getElem?_map,List.getD_eq_getElem?_getD,List.getElem?_eq_getElem (show i.toNat < l.length by omega)];rfl
theorem IW (l:List Bool) (i:Nat) (x:Bool):(mj l).set i [bI x]=mj (l.set i x):=by unfold mj;rw [List.map_set]
theorem IX {l:List Int} {i:Nat} (h:i < l.length):(aU l)[((i:Nat):Int).toNat]?=some [nI (l.getD i 0)]:=tY (Int.natCast_nonneg i) (by omega)
abbrev LS (b:Nat) (vc vm vh:Value) (size most f:Nat) (H:List Bool) (R:List ak:=[]):List ak:=.box b 142 [nI size,nI most,.v vc,.v vm,nI f,.v vh] :: .row vh 4 1 (mj H) :: R
abbrev LV (b:Nat) (vc vm vh:Value) (size most f:Nat) (V:List (List A)) (H:List Bool):List ak:=.row vc 28 1 V :: LS b vc vm vh size most f H
abbrev LP (b:Nat) (vc vm vh y:Value) (size most f:Nat) (V:List (List A)) (M:List Int) (H:List Bool) (c:List Int):List ak:=.row y 3 1 (aU c) :: .row vm 3 1 (aU M) :: LV b vc vm vh size most f V H
section
variable (b:Nat) (vc vm vh y:Value) (size most f:Nat) (V:List (List A)) (M c:List Int) (H:List Bool)
theorem wA (x:Int) (hf:f≤H.length) (R:List ak:=[]):aq prog 92 [.c (.v (pt b)),.c (nI x)] (LS b vc vm vh size most f H R) (fun _:Unit=>(.c (bI (Po.live f H x)),LS b vc vm vh size most f H R)):=by
 have lh:=Cp H;unfold Po.live;refine aq.intro func92 rfl rfl rfl (fun ok e=>?_)
 cases t1:decide (0≤x) with
 | false =>
  repeat (refine gn ?_)
  (exact J.cS func92 rfl (.cons (.tmp rfl) .nil) () (by exact .refl) rfl)
 | true =>
 cases t2:decide (x < (f:Int)) with
 | false =>
  repeat (refine gn ?_)
  (exact J.cS func92 rfl (.cons (.tmp rfl) .nil) () (by exact .refl) rfl)
 | true =>
  have h0:0≤x:=by simpa using t1
  have h1:x < (f:Int):=by simpa using t2
  have A:=Cq (l:=H) h0 (by omega);have h2:x < ((mj H).length:Int):=by omega
  repeat (first | (refine K.load ?_;refine jq rfl rfl rfl (Qt.dx rfl A rfl) ?_) | (refine K.indexAddr ?_;refine jq rfl rfl rfl (Qt.cB rfl rfl (by omega) (by omega)) ?_) | refine gn ?_)
  (exact J.cS func92 rfl (.cons (.tmp rfl) .nil) () (by exact .refl) rfl)
theorem IY (g:Nat) (hg:g < V.length):aq prog 74 [.c (.v (pt b)),.c (nI g)] (LV b vc vm vh size most f V H) (fun _:Unit=>(.c (bI true),LV b vc vm vh size most f V H)):=by
 have t1:decide ((g:Int) ≥ 0)=true:=decide_eq_true (by omega);have t2:decide ((g:Int) < (V.length:Int))=true:=decide_eq_true (by omega);refine aq.intro func74 rfl rfl rfl (fun ok e=>?_)
 repeat (refine gn ?_)
 (exact J.cS func74 rfl (.cons (.tmp rfl) .nil) () (by exact .refl) rfl)
theorem IZ (g:Nat) (hg:V[g]?=some [.v y]) (hc:c.length≤1000):aq prog 42 [.c (.v (pt b)),.c (nI g)] (LP b vc vm vh y size most f V M H c) (fun _:Unit=>(.c (ints c),LP b vc vm vh y size most f V M H c)):=by
 have gl:=(List.getElem?_eq_some_iff.1 hg).1;have CT:=IY b vc vm vh size most f V H g gl;have HV:V[((g:Nat):Int).toNat]?=some [.v y]:=hg;have g1:(g:Int) < (V.length:Int):=by omega
 have lc:=fA c;refine aq.intro func42 rfl rfl rfl (fun ok e=>?_)
 repeat (first | (refine K.load ?_;refine jq rfl rfl rfl (Qt.dx rfl HV rfl) ?_) | (refine K.indexAddr ?_;refine jq rfl rfl rfl (Qt.cB rfl rfl (by omega) (by omega)) ?_) | (refine K.call ?_;refine JO.ld (Ld.mg (CT) (qb rfl) rfl (by (exact br.cons .refl (.cons .refl .nil)))) rfl ?_;intro _) | (refine K.bi ?_;refine JO.ld (Ld.dO (l2:=aU c) (qb rfl) rfl rfl .bV (by rw [fA];omega)) rfl (fun _=>?_)) | refine gn ?_)
 (exact J.cS func42 rfl (.cons (.tmp rfl) .nil) () (by exact .refl) rfl)
theorem I0 (hc:M.length≤1000):aq prog 37 [.c (.v (pt b))] (.row vm 3 1 (aU M) :: LV b vc vm vh size most f V H) (fun _:Unit=>(.c (ints M),.row vm 3 1 (aU M) :: LV b vc vm vh size most f V H)):=by
 have lc:=fA M;refine aq.intro func37 rfl rfl rfl (fun ok e=>?_)
 repeat (first | (refine K.bi ?_;refine JO.ld (Ld.dO (l2:=aU M) (qb rfl) rfl rfl .bV (by rw [fA];omega)) rfl (fun _=>?_)) | refine gn ?_)
 (exact J.cS func37 rfl (.cons (.tmp rfl) .nil) () (by exact .refl) rfl)
theorem I3:aq prog 38 [.c (.v (pt b))] (.row vm 3 1 (aU M) :: LV b vc vm vh size most f V H) (fun _:Unit=>(.c (nI f),.row vm 3 1 (aU M) :: LV b vc vm vh size most f V H)):=by
 refine aq.intro func38 rfl rfl rfl (fun ok e=>?_)
 repeat (refine gn ?_)
 (exact J.cS func38 rfl (.cons (.tmp rfl) .nil) () (by exact .refl) rfl)
theorem Cr (l:List Int) (hl:l.length≤1000) (hf:f≤H.length) (R:List ak) (r:List Bool) (hr:Po.settle f H l=(r,true)) :
  aq prog 68 [.c (.v (pt b)),.c (ints l)] (LS b vc vm vh size most f H R) (fun _:Unit=>(.c (bI true),LS b vc vm vh size most f r R)):=by
 refine aq.intro func68 rfl rfl rfl (fun ok e=>?_)
 repeat (refine gn ?_)
 refine J.loop (ι:={ q:Nat × List Bool // q.1≤l.length∧q.2.length=H.length∧Po.settle f q.2 (l.drop q.1)=(r,true) }) (fun q=>[(9,.c (nI q.1.1)),(8,.c (nI l.length)),(7,.c (ints l)),(0,.c (.v (pt b)))]) (fun q=>LS b vc vm vh size most f q.1.2 R) (fun q=>l.length - q.1.1) ⟨(0,H),Nat.zero_le _,rfl,hr⟩ (fun X h=>h.aQ ⟨rfl,rfl,rfl,rfl,trivial⟩) (fun q ih=>?_);obtain ⟨⟨k,G⟩,qk,qg,qs⟩:=q;simp only at qk qg qs ih ⊢
 by_cases hk:k < l.length
 ·have t1:decide ((k:Int) < (l.length:Int))=true:=decide_eq_true (by omega);have AX:=IX hk;rw [Po.HZ l k hk,Po.yK] at qs;generalize l.getD k 0=x at AX qs;have CL:=wA b vc vm vh size most f G x (by omega) R
  cases hv:Po.live f G x with
  | false=>rw [hv,if_neg (by simp)] at qs;cases qs
  | true =>
   rw [hv,if_pos rfl] at qs;rw [hv] at CL;have x0:0≤x∧x < (f:Int):=by unfold Po.live at hv;simp only [Bool.and_eq_true,decide_eq_true_eq] at hv;exact hv.1
   have AH:=Cq x0.1 (show x < G.length by omega);have lG:=Cp G
   repeat (first | (refine K.store ?_;refine JO.ld (Ld.j6 rfl rfl (by exact rfl) (AH)) rfl (fun _=>?_)) | (refine K.indexAddr ?_;refine jq rfl rfl rfl (Qt.cB rfl rfl (by omega) (by omega)) ?_) | (refine K.call ?_;refine JO.ld (Ld.gy (CL) (qb rfl) rfl (by (exact br.cons .refl (.cons .refl .nil)))) rfl ?_;intro _) | refine gn ?_)
   exact J.dj (by simp only;unfold LS;rw [← IW];rfl) ((ih ⟨(k + 1,G.set x.toNat true),by simp only;omega,by simp only [List.length_set];exact qg,qs⟩ (by simp only;omega)).aQ ⟨rfl,rfl,rfl,rfl,trivial⟩)
 ·have t1:decide ((k:Int) < (l.length:Int))=false:=decide_eq_false (by omega);rw [List.drop_eq_nil_of_le (by omega)] at qs;obtain rfl:G=r:=by cases qs;rfl
  repeat (refine gn ?_)
  (exact J.cS func68 rfl (.cons (.tmp rfl) .nil) () (by exact .refl) rfl)
end
theorem I4 (size cF most:Int):Pure prog 91 [.c (nI size),.c (nI cF),.c (nI most)] (.c (bI (Po.fits size cF most))):=by
 obtain ⟨x1,t1⟩:∃ x,decide (size ≥ 0)=x:=⟨_,rfl⟩
 obtain ⟨x2,t2⟩:∃ x,decide (size≤64)=x:=⟨_,rfl⟩
 obtain ⟨x3,t3⟩:∃ x,decide (cF ≥ 0)=x:=⟨_,rfl⟩
 obtain ⟨x4,t4⟩:∃ x,decide (cF≤8)=x:=⟨_,rfl⟩
 obtain ⟨x5,t5⟩:∃ x,decide (most ≥ 1)=x:=⟨_,rfl⟩
 obtain ⟨x6,t6⟩:∃ x,decide (most≤16)=x:=⟨_,rfl⟩
 have e:Po.fits size cF most=(x1 && x2 && x3 && x4 && x5 && x6):=by
  rw [← t1,← t2,← t3,← t4,← t5,← t6];unfold Po.fits;simp only [ge_iff_le,Bool.decide_and,Bool.and_assoc]
 rw [e];refine aq.intro func91 rfl rfl rfl (fun ok e=>?_)
 cases x1
 case' true=>cases x2
 case' true.true=>cases x3
 case' true.true.true=>cases x4
 case' true.true.true.true=>cases x5
 all_goals
  repeat (refine gn ?_)
  exact aA func91
section
variable {P:Program} {c:Cx} {k:List Item} {f:Fm} {L:List ak}
theorem St.gB {e sz:Nat} {a:Act} {w:World} (s:St c f L a w):St c f (.row (.slice none 0 0) e sz [] :: L) a w:=by
 have hf:aS (.row (.slice none 0 0) e sz [] :: L)=aS L:=by simp [aS,ak.bR,cH]
 have ho:aZ c (.row (.slice none 0 0) e sz [] :: L)=aZ c L:=by funext x;unfold aZ;rw [hf]
 refine ⟨s.kp,s.size,s.iS,fun q hq=>?_,fun x hx=>s.ez x (hf ▸ hx),List.pairwise_cons.2 ⟨fun q _ x hx=>by simp [ak.bR,cH] at hx,s.ap⟩,fun t d ht=>by rw [ho];exact s.fr t d ht⟩;rw [ho];rcases List.mem_cons.1 hq with rfl | hq
 ·exact ⟨[],Row.nil w e sz,rfl⟩
 ·exact s.res q hq
theorem J.gB (e sz:Nat) (h:J P c k f (.row (.slice none 0 0) e sz [] :: L)):J P c k f L:=⟨fun a w s=>h.go a w s.gB⟩
theorem J.Ct (e sz:Nat):∀ n,J P c k f (List.replicate n (.row (.slice none 0 0) e sz []) ++ L)→J P c k f L
 | 0,h=>h
 | n + 1,h=>J.Ct e sz n (J.gB e sz h)
end
theorem uf {α:Type} {n g:Nat} {h h':Nat→α} {a:α} (hg:g < n) (e1:h' g=a) (e2:∀ k,k≠g→k < n→h' k=h k):((List.range n).map h).set g a=(List.range n).map h':=by
 apply List.ext_getElem?;intro k;rw [List.getElem?_set,List.getElem?_map,List.getElem?_map]
 by_cases hk:k < n
 ·rw [List.getElem?_range hk]
  by_cases c:g=k
  ·subst c;simp [e1,hg]
  ·rw [if_neg c];simp [e2 k (Ne.symm c) hk]
 ·rw [List.getElem?_eq_none (by simpa using hk)]
  split
  ·rw [if_neg (by simp;omega)];simp
  ·simp
theorem Cu (n size cF most:Nat) (h1:size≤64) (h2:cF≤8) (h3:1≤most) (h4:most≤16):aq prog 65 [.c (nI size),.c (nI cF),.c (nI most)] [] (fun z:Nat × Value × Value=>(.aY [.c (.v (pt z.1)),.c (nI 0)],List.replicate n (.row (.slice none 0 0) 3 1 []) ++ LV z.1 z.2.1 (.slice none 0 0) z.2.2 size most 0 (List.replicate cF [.v (.slice none 0 0)]) (List.replicate size false))):=by
 have CF:=I4 size cF most;rw [show Po.fits size cF most=true from decide_eq_true (by omega)] at CF;refine aq.intro func65 rfl rfl rfl (fun ok e=>?_)
 repeat (refine gn ?_)
 refine J.draw (by kernel_rfl) rfl ?_;refine JW.base none ?_;refine tk 0 ?_;refine tk 1 ?_;refine tk 2 ?_;refine tk 4 ?_;refine JD.cy (i:=3) (j:=5) (by kernel_rfl) ?_ ?_;refine JS.bt rfl rfl rfl (qb rfl) (Ld.make cF (qb rfl) rfl rfl rfl (by omega)) .none (fun _=>?_);refine jl 5 rfl rfl rfl rfl (Ld.make size (qb rfl) rfl rfl rfl (by omega)) .none (fun _=>?_);refine jk 6 rfl rfl rfl rfl (Qt.build rfl (by kernel_rfl)) ?_;refine jl 7 rfl rfl rfl rfl (Ld.box (qb rfl) rfl rfl) .none (fun _=>?_);refine jk 8 rfl rfl rfl rfl (Qt.assign rfl) ?_;refine jk 9 rfl rfl rfl rfl (Qt.assign rfl) ?_;refine bP ?_
 rotate_left
 refine JS.bt rfl rfl rfl (qb rfl) (Ld.make size (qb rfl) rfl rfl rfl (by omega)) .none (fun _=>?_);refine jl 3 rfl rfl rfl rfl (Ld.make cF (qb rfl) rfl rfl rfl (by omega)) .none (fun _=>?_);refine jk 6 rfl rfl rfl rfl (Qt.build rfl (by kernel_rfl)) ?_;refine jl 7 rfl rfl rfl rfl (Ld.box (qb rfl) rfl rfl) .none (fun _=>?_);refine jk 8 rfl rfl rfl rfl (Qt.assign rfl) ?_;refine jk 9 rfl rfl rfl rfl (Qt.assign rfl) ?_;refine bP ?_
 rotate_left
 all_goals
  rename_i v1 v2 b;rw [show List.replicate size (vs [Value.bool false])=mj (List.replicate size false) by unfold mj;rw [List.map_replicate];rfl];refine J.Ct 3 1 n ?_
 ·refine J.perm (L2:=List.replicate n (.row (.slice none 0 0) 3 1 []) ++ LV b (sl v1 0 cF cF) (.slice none 0 0) (sl v2 0 size size) size most 0 (List.replicate cF [.v (.slice none 0 0)]) (List.replicate size false)) (.append_left _ ((List.Perm.swap _ _ _).trans (.cons _ (List.Perm.swap _ _ _)))) ?_
  (exact J.cS func65 rfl (.cons (.tmp rfl) (.cons (.tmp rfl) .nil)) (b,sl v1 0 cF cF,sl v2 0 size size) (by exact .refl) rfl)
 ·refine J.perm (L2:=List.replicate n (.row (.slice none 0 0) 3 1 []) ++ LV b (sl v2 0 cF cF) (.slice none 0 0) (sl v1 0 size size) size most 0 (List.replicate cF [.v (.slice none 0 0)]) (List.replicate size false)) (.append_left _ (List.Perm.swap _ _ _)) ?_
  (exact J.cS func65 rfl (.cons (.tmp rfl) (.cons (.tmp rfl) .nil)) (b,sl v2 0 cF cF,sl v1 0 size size) (by exact .refl) rfl)
def mP (p:Value) (size most:Nat) (s:Po.St) (x:{ x:Nat × Value × Value × Value × (Nat→Value) // p=pt x.1 }):List ak :=
 .row x.1.2.2.1 3 1 (aU s.M) :: LV x.1.1 x.1.2.1 x.1.2.2.1 x.1.2.2.2.1 size most s.f ((List.range s.C.length).map fun i=>[.v (x.1.2.2.2.2 i)]) s.H ++ (List.range s.C.length).map fun i=>.row (x.1.2.2.2.2 i) 3 1 (aU (s.C.getD i []))
def tP (p:Value) (size most:Nat) (s:Po.St):World→List Nat→Prop:=dP (mP p size most s)
theorem I5 (l:List Bool):(mj l).all (·.all kL)=true:=List.all_eq_true.2 fun x hx=>by
 obtain ⟨n,_,rfl⟩:=List.mem_map.1 hx;rfl
theorem mP.fl {p:Value} {size most:Nat} {s:Po.St} (x:{ x:Nat × Value × Value × Value × (Nat→Value) // p=pt x.1 }):(mP p size most s x).all lu=true:=List.all_eq_true.2 fun r hr=>by
 have hm:∀ {α:Type} (h:Nat→List A),(∀ i,(h i).all kL=true)→((List.range s.C.length).map h).all (·.all kL)=true:=fun h hh=>List.all_eq_true.2 fun x hx=>by
  obtain ⟨n,_,rfl⟩:=List.mem_map.1 hx;exact hh n
 unfold mP at hr;rcases List.mem_append.1 hr with hr | hr
 ·simp only [List.mem_cons,List.not_mem_nil,or_false] at hr;rcases hr with rfl | rfl | rfl | rfl
  ·exact vZ _
  ·exact hm (α:=Nat) _ fun i=>rfl
  ·rfl
  ·exact I5 _
 ·obtain ⟨n,_,rfl⟩:=List.mem_map.1 hr;exact vZ _
section
variable (p:Value) (size most:Nat) (s:Po.St) (S:List Nat)
theorem Cv {F:FuncId} {ds:List D} {d:D} (h:∀ b vc vm vh V,p=pt b→aq prog F ds (.row vm 3 1 (aU s.M) :: LV b vc vm vh size most s.f V s.H) (fun _:Unit=>(d,.row vm 3 1 (aU s.M) :: LV b vc vm vh size most s.f V s.H))) :
  aq prog F ds [aL (tP p size most s) S] (fun _:Unit=>(d,[aL (tP p size most s) S])) :=
 aq.rR mP.fl fun ⟨⟨b,vc,vm,vh,cv⟩,e⟩=>⟨Unit,fun _=>⟨(b,vc,vm,vh,cv),e⟩,fun _=>rfl,aq.frame _ (h b vc vm vh _ e) (.refl _) fun _=>.refl _⟩
theorem Cw (hM:s.M.length≤1000):aq prog 37 [.c (.v p)] [aL (tP p size most s) S] (fun _:Unit=>(.c (ints s.M),[aL (tP p size most s) S])) :=
 Cv p size most s S fun b vc vm vh V e=>by subst e;exact I0 b vc vm vh size most s.f V s.M s.H hM
theorem Cy:aq prog 38 [.c (.v p)] [aL (tP p size most s) S] (fun _:Unit=>(.c (nI s.f),[aL (tP p size most s) S])) :=
 Cv p size most s S fun b vc vm vh V e=>by subst e;exact I3 b vc vm vh size most s.f V s.M s.H
theorem Cz (g:Nat) (hg:g < s.C.length) (hC:∀ l∈s.C,l.length≤1000):aq prog 42 [.c (.v p),.c (nI g)] [aL (tP p size most s) S] (fun _:Unit=>(.c (ints (Po.cache s.C g)),[aL (tP p size most s) S])):=by
 have ec:Po.cache s.C g=s.C.getD g []:=by unfold Po.cache Po.vX;rw [decide_eq_true (by omega),decide_eq_true (by omega)];rfl
 rw [ec];refine aq.rR mP.fl fun ⟨⟨b,vc,vm,vh,cv⟩,e⟩=>⟨Unit,fun _=>⟨(b,vc,vm,vh,cv),e⟩,fun _=>rfl,?_⟩
 simp only at e;subst e;have hR:((List.range s.C.length).map fun i=>ak.row (cv i) 3 1 (aU (s.C.getD i [])))[g]?=some (.row (cv g) 3 1 (aU (s.C.getD g []))):=by rw [List.getElem?_map,List.getElem?_range hg];rfl
 have hV:((List.range s.C.length).map fun i=>[A.v (cv i)])[g]?=some [.v (cv g)]:=by rw [List.getElem?_map,List.getElem?_range hg];rfl
 have hp:=List.perm_middle.symm.trans ((nN _ g hR).append_left (ak.row vm 3 1 (aU s.M) :: LV b vc vm vh size most s.f ((List.range s.C.length).map fun i=>[A.v (cv i)]) s.H));exact aq.frame _ (IZ b vc vm vh (cv g) size most s.f _ s.M (s.C.getD g []) s.H g hV (hC _ (by rw [List.getD_eq_getElem?_getD,List.getElem?_eq_getElem hg];exact List.getElem_mem hg))) hp fun _=>hp.symm
end
theorem I6 (size cF most:Nat) (h1:size≤64) (h2:cF≤8) (h3:1≤most) (h4:most≤16):aq prog 65 [.c (nI size),.c (nI cF),.c (nI most)] [] (fun x:Value × List Nat=>(.aY [.c (.v x.1),.c (nI 0)],[aL (tP x.1 size most (Po.new size cF)) x.2])):=by
 refine aq.rS (Y:=Value) (d:=fun p=>.aY [.c (.v p),.c (nI 0)]) (κ:=fun p=>{ x:Nat × Value × Value × Value × (Nat→Value) // p=pt x.1 }) (N:=fun p x=>mP p size most (Po.new size cF) x) (fun p x=>mP.fl x) (Z:=Nat × Value × Value) (fun z=>⟨pt z.1,⟨(z.1,z.2.1,.slice none 0 0,z.2.2,fun _=>.slice none 0 0),rfl⟩⟩) ?_;refine aq.frame [] (Cu (cF + 1) size cF most h1 h2 h3 h4) (.refl _) fun z=>?_
 have hr:∀ {α:Type} (h:Nat→α) (a:α),(∀ i,i < cF→h i=a)→(List.range (Po.new size cF).C.length).map h=List.replicate cF a:=fun h a hh=>by
  rw [show (Po.new size cF).C.length=cF from List.length_replicate ..];refine List.eq_replicate_iff.2 ⟨by simp,fun x hx=>?_⟩;obtain ⟨n,hn,rfl⟩:=List.mem_map.1 hx;exact hh n (by simpa using hn)
 unfold mP;dsimp only;rw [List.append_nil,hr (fun _=>[A.v (.slice none 0 0)]) _ fun _ _=>rfl,hr (fun i=>ak.row (.slice none 0 0) 3 1 (aU ((Po.new size cF).C.getD i []))) (.row (.slice none 0 0) 3 1 []) fun i hi=>by
  unfold Po.new;simp only [List.getD_eq_getElem?_getD,List.getElem?_replicate,hi,if_pos];rfl,List.replicate_succ]
 exact (List.perm_append_comm).cons _
theorem qC {α:Type} {k:Nat} {h h':Nat→α} {a:α} (e1:h' k=a) (e2:∀ j,j < k→h' j=h j):(List.range k).map h ++ [a]=(List.range (k + 1)).map h':=by
 rw [List.range_succ,List.map_append,List.map_cons,List.map_nil,e1]
 congr 1
 exact List.map_congr_left fun j hj=>(e2 j (by simpa using hj)).symm
theorem I7 (size most f:Nat) (C:List (List Int)) (M:List Int) (hM:M.length≤1000) (hC:∀ l∈C,l.length≤1000) (ho:Po.of size most f C M=true) :
  aq prog 32 [.c (nI size),.c (nI most),.c (.r 1 (C.map fun l=>[ints l])),.c (ints M),.c (nI f)] []
   (fun x:{ x:Value × List Nat × List Bool // Po.settle f (List.replicate size false) (C.flatten ++ M)=(x.2.2,true) }=>(.aY [.c (.v x.1.1),.c (nI 0)],[aL (tP x.1.1 size most ⟨C,M,f,x.1.2.2⟩) x.1.2.1])):=by
 unfold Po.of at ho;simp only [Bool.and_eq_true,decide_eq_true_eq,Int.toNat_natCast] at ho;obtain ⟨⟨⟨⟨h1,h2⟩,h3⟩,h4⟩,h5⟩:=ho;obtain ⟨a1,a2,a3,a4,a5,a6⟩:=Po.Hy h1;obtain ⟨H,hH⟩:∃ H,Po.settle f (List.replicate size false) (C.flatten ++ M)=(H,true):=⟨_,Prod.ext rfl h5⟩
 have CN:=Cu 0 size C.length most (by omega) (by omega) (by omega) (by omega);refine aq.re (κ:={ x:Value × List Nat × List Bool // Po.settle f (List.replicate size false) (C.flatten ++ M)=(x.2.2,true) }) (ι:=Value × List Nat) (fun q=>⟨(q.1,q.2,H),hH⟩) ?_;refine aq.rS (Y:=Value) (d:=fun p=>.aY [.c (.v p),.c (nI 0)]) (κ:=fun p=>{ x:Nat × Value × Value × Value × (Nat→Value) // p=pt x.1 }) (N:=fun p x=>mP p size most ⟨C,M,f,H⟩ x) (fun p x=>mP.fl x) (Z:=Nat × Value × Value × Value × (Nat→Value)) (fun z=>⟨pt z.1,⟨z,rfl⟩⟩) ?_;have t1:decide ((f:Int) < 0)=false:=decide_eq_false (by omega);have t2:decide ((f:Int) > (size:Int))=false:=decide_eq_false (by omega);refine aq.intro func32 rfl rfl rfl (fun ok e=>?_);simp only [List.replicate_zero,List.nil_append] at CN
 repeat (first | (refine K.store ?_;refine JO.ld (Ld.cr rfl rfl (by exact rfl)) rfl (fun _=>?_)) | (refine K.call ?_;refine JO.ld (Ld.yV (L':=fun x=>LV x.1 x.2.1 (.slice none 0 0) x.2.2 size most 0 (List.replicate C.length [.v (.slice none 0 0)]) (List.replicate size false)) CN (fun _=>(List.append_nil _).symm) (qb rfl) rfl (.cons .refl (.cons .refl (.cons .refl .nil)))) rfl ?_;intro x) | refine gn ?_)
 obtain ⟨b,vc,vh⟩:=x;simp only;obtain ⟨n,hn⟩:∃ n,C.length=n:=⟨_,rfl⟩
 rw [hn] at a4 ⊢;refine J.loop (ι:={ q:Nat × List Bool × (Nat→Value) // q.1≤n∧q.2.1.length=size∧Po.settle f q.2.1 ((C.drop q.1).flatten ++ M)=(H,true) }) (fun q=>[(40,.c (nI q.1.1)),(39,.c (nI n)),(38,.c (.r 1 (C.map fun l=>[ints l]))),(12,.c (.v (pt b))),(1,.c (nI most)),(3,.c (ints M))]) (fun q=>.row vc 28 1 ((List.range q.1.1).map (fun i=>[A.v (q.1.2.2 i)]) ++ List.replicate (n - q.1.1) [.v (.slice none 0 0)]) :: LS b vc (.slice none 0 0) vh size most f q.1.2.1 ((List.range q.1.1).map fun i=>.row (q.1.2.2 i) 3 1 (aU (C.getD i [])))) (fun q=>n - q.1.1) ⟨(0,List.replicate size false,fun _=>.slice none 0 0),Nat.zero_le _,List.length_replicate ..,hH⟩ (fun X h=>h.aQ ⟨rfl,by rw [← hn];simp;rfl,rfl,rfl,rfl,rfl,trivial⟩) (fun q ih=>?_);obtain ⟨⟨k,G,cv⟩,qk,qg,qs⟩:=q;simp only at qk qg qs ih ⊢
 by_cases hk:k < n
 ·have t3:decide ((k:Int) < (n:Int))=true:=decide_eq_true (by omega);have zj:k < C.length:=by omega
  have gk:C[k]?=some (C.getD k []):=by rw [List.getD_eq_getElem?_getD,List.getElem?_eq_getElem zj];rfl
  have AC:(C.map fun l=>[ints l])[((k:Nat):Int).toNat]?=some [ints (C.getD k [])]:=by rw [Int.toNat_natCast,List.getElem?_map,gk];rfl
  have hd:C.drop k=C.getD k [] :: C.drop (k + 1):=by rw [List.drop_eq_getElem_cons zj,List.getD_eq_getElem?_getD,List.getElem?_eq_getElem zj];rfl
  have hm:=List.mem_of_getElem? gk;have c4:=h4 _ hm;have c5:=hC _ hm;rw [hd,List.flatten_cons,List.append_assoc,Po.BP] at qs;have Ql:ak.row (.slice none 0 0) 3 1 (aU (C.getD k []))=ak.row (.slice none 0 0) 3 1 (aU (C.getD k [])):=rfl;generalize hc:C.getD k []=c at AC qs c4 c5;have t4:decide ((c.length:Int) > (most:Int))=false:=decide_eq_false (by omega)
  cases hs:Po.settle f G c with
  | mk r x =>
  rw [hs] at qs
  cases x with
  | false=>rw [if_neg (by simp)] at qs;cases qs
  | true =>
   rw [if_pos rfl] at qs;have CS:=Cr b vc (.slice none 0 0) vh size most f G c c5 (by omega) ((List.range k).map fun i=>.row (cv i) 3 1 (aU (C.getD i []))) r hs;have lr:r.length=G.length:=by have:=Po.yL f G c;rw [hs] at this;exact this
   have k0:(0:Int)≤(k:Int):=Int.natCast_nonneg k;have lV:((List.range k).map (fun i=>[A.v (cv i)]) ++ List.replicate (n - k) [A.v (.slice none 0 0)]).length=n:=by simp;omega
   have kn:(k:Int) < (((List.range k).map (fun i=>[A.v (cv i)]) ++ List.replicate (n - k) [A.v (.slice none 0 0)]).length:Int):=by omega
   have HV:((List.range k).map (fun i=>[A.v (cv i)]) ++ List.replicate (n - k) [A.v (.slice none 0 0)])[((k:Nat):Int).toNat]?=some [.v (.slice none 0 0)]:=by
    rw [Int.toNat_natCast,List.getElem?_append_right (by simp),List.getElem?_replicate];simp;omega
   repeat (first | (refine K.call ?_;refine JO.ld (Ld.mg (CS) (qb rfl) rfl (by (exact br.cons .refl (.cons .refl .nil)))) rfl ?_;intro _) | refine gn ?_)
   refine J.draw (by kernel_rfl) rfl ?_;refine JW.base (some 8) ?_;refine tk 0 ?_;refine tk 1 ?_;refine tk 2 ?_;refine tk 3 ?_;refine tk 4 ?_;refine tk 5 ?_;refine jl 6 rfl rfl rfl rfl (Ld.jM (l2:=aU c) (qb rfl) rfl rfl .read (by rw [fA];omega)) .none (fun _=>?_);refine jk 7 rfl rfl rfl rfl (Qt.cB rfl rfl k0 kn) ?_;refine jt 8 rfl rfl (Ld.j6 rfl rfl (by exact rfl) HV) (fun _=>?_);refine bz ?_
   repeat (refine gn ?_)
   rename_i v _;have e1:((List.range k).map (fun i=>[A.v (cv i)]) ++ List.replicate (n - k) [A.v (.slice none 0 0)]).set k [.v v]=(List.range (k + 1)).map (fun i=>[A.v (if i=k then v else cv i)]) ++ List.replicate (n - (k + 1)) [A.v (.slice none 0 0)]:=by
    obtain ⟨m,hm⟩:∃ m,n - k=m + 1:=⟨n - k - 1,by omega⟩
    rw [hm,show n - (k + 1)=m by omega,List.set_append_right _ _ (by simp),List.length_map,List.length_range,Nat.sub_self,List.replicate_succ,List.set_cons_zero,List.append_cons]
    congr 1
    exact qC (by simp) fun j hj=>by rw [if_neg (by omega)]
   have e2:((List.range k).map fun i=>ak.row (cv i) 3 1 (aU (C.getD i []))) ++ [.row v 3 1 (aU c)]=(List.range (k + 1)).map fun i=>ak.row (if i=k then v else cv i) 3 1 (aU (C.getD i [])) :=
    qC (by rw [if_pos rfl,hc]) fun j hj=>by rw [if_neg (by omega)]
   refine J.dj (L':=ak.row v 3 1 (aU c) :: ak.row vc 28 1 (((List.range k).map (fun i=>[A.v (cv i)]) ++ List.replicate (n - k) [A.v (.slice none 0 0)]).set k [.v v]) :: LS b vc (.slice none 0 0) vh size most f r ((List.range k).map fun i=>ak.row (cv i) 3 1 (aU (C.getD i [])))) rfl (J.perm (L2:=ak.row vc 28 1 (((List.range k).map (fun i=>[A.v (cv i)]) ++ List.replicate (n - k) [A.v (.slice none 0 0)]).set k [.v v]) :: LS b vc (.slice none 0 0) vh size most f r (((List.range k).map fun i=>ak.row (cv i) 3 1 (aU (C.getD i []))) ++ [ak.row v 3 1 (aU c)])) (List.perm_append_singleton (ak.row v 3 1 (aU c)) (ak.row vc 28 1 (((List.range k).map (fun i=>[A.v (cv i)]) ++ List.replicate (n - k) [A.v (.slice none 0 0)]).set k [.v v]) :: LS b vc (.slice none 0 0) vh size most f r ((List.range k).map fun i=>ak.row (cv i) 3 1 (aU (C.getD i []))))) ?_);rw [e1,e2];exact (ih ⟨(k + 1,r,fun i=>if i=k then v else cv i),by simp only;omega,by simp only;omega,qs⟩ (by simp only;omega)).aQ ⟨rfl,rfl,rfl,rfl,rfl,rfl,trivial⟩
 ·obtain rfl:k=n:=by omega
  have t3:decide ((k:Int) < (k:Int))=false:=decide_eq_false (by omega);rw [List.drop_eq_nil_of_le (by omega),List.flatten_nil,List.nil_append] at qs;have CS:=Cr b vc (.slice none 0 0) vh size most f G M hM (by omega) ((List.range k).map fun i=>.row (cv i) 3 1 (aU (C.getD i []))) H qs;rw [Nat.sub_self,List.replicate_zero,List.append_nil]
  repeat (first | (refine K.store ?_;refine JO.ld (Ld.cr rfl rfl (by exact rfl)) rfl (fun _=>?_)) | (refine K.call ?_;refine JO.ld (Ld.mg (CS) (qb rfl) rfl (by (exact br.cons .refl (.cons .refl .nil)))) rfl ?_;intro _) | (refine K.bi ?_;refine JO.ld (Ld.jM (l2:=aU M) (qb rfl) rfl rfl .read (by rw [fA];omega)) rfl ?_;intro vm) | refine gn ?_)
  rw [← hn]
  (exact J.cS func32 rfl (.cons (.tmp rfl) (.cons (.tmp rfl) .nil)) (b,vc,vm,vh,cv) (by exact .refl) rfl)
end Fl
open Go.RowKit
namespace Fl
open Sx Go.Proofs.Tryz
section
variable {P:Program} {F:FuncId} {ds:List D}
theorem aq.aL {Φ:World→List Nat→Prop} {S:List Nat} {ι:Type} {Ψ:ι→World→List Nat→Prop} {S':ι→List Nat} {d:ι→D} (zl:rQ Φ) (I8:∀ i,rQ (Ψ i))
  (h:∀ ok e xs,bO ok e ds xs→Φ e S→Calls P F xs.toArray e fun en w'=>∃ i x,en=.returned x∧aE S e w'∧(∀ y∈S' i,y∈S∨e.heap.size≤y)∧Ψ i w' (S' i)∧RD (fun g=>(ok g∨g∈S∨e.heap.size≤g)∧g∉S' i) w' (d i) x) :
  aq P F ds [Fl.aL Φ S] (fun i=>(d i,[Fl.aL (Ψ i) (S' i)])):=⟨fun ok e xs hd hr _ _=>by
 have h1:=(aL.holds zl).1 (hr _ (List.mem_singleton.2 rfl));refine Calls.mono (h ok e xs hd h1) ?_
 rintro en w' ⟨i,x,rfl,kp,hs,hp,hx⟩
 have fe:∀ (Φ:World→List Nat→Prop) (S:List Nat),aS [Fl.aL Φ S]=S:=fun Φ S=>by simp [aS,Fl.aL,ak.bR]
 refine ⟨i,x,rfl,by rw [fe];exact kp,by rw [fe,fe];exact hs,List.pairwise_singleton _ _,fun r hr=>?_,?_⟩
 ·rw [List.mem_singleton.1 hr];exact (aL.holds (I8 i)).2 hp
 ·have:fL ok e [Fl.aL Φ S] [Fl.aL (Ψ i) (S' i)]=fun g=>(ok g∨g∈S∨e.heap.size≤g)∧g∉S' i:=by
   funext g;unfold fL;rw [fe,fe]
  rw [this];exact hx⟩
theorem aq.plain {d:D} (h:∀ ok e xs,bO ok e ds xs→Calls P F xs.toArray e fun en w'=>∃ x,en=.returned x∧aE [] e w'∧RD (fun g=>ok g∨e.heap.size≤g) w' d x):Pure P F ds d:=⟨fun ok e xs hd _ _ _=>by
 refine Calls.mono (h ok e xs hd) ?_
 rintro en w' ⟨x,rfl,kp,hx⟩
 refine ⟨(),x,rfl,by simpa [aS] using kp,by simp [aS],List.Pairwise.nil,by simp,?_⟩;have:fL ok e [] []=fun g=>ok g∨e.heap.size≤g:=by
  funext g;unfold fL;simp [aS]
 rw [this];exact hx⟩
end
theorem bO.v1 {ok:Nat→Prop} {w:World} {v:Value} {xs:List Value} (h:bO ok w [.c (.v v)] xs):xs=[v]:=by
 unfold bO at h;obtain ⟨x,ys,rfl,h1,h2⟩:=h;unfold bO at h2;unfold RD RA at h1;rw [h2,h1.1]
theorem bO.cv {ok:Nat→Prop} {w:World} {v:Value} {ds:List D} {xs:List Value} (h:bO ok w (.c (.v v) :: ds) xs):∃ ys,xs=v :: ys∧bO ok w ds ys:=by
 unfold bO at h;obtain ⟨x,ys,rfl,h1,h2⟩:=h;unfold RD RA at h1;exact ⟨ys,by rw [h1.1],h2⟩
theorem bO.v2 {ok:Nat→Prop} {w:World} {u v:Value} {xs:List Value} (h:bO ok w [.c (.v u),.c (.v v)] xs):xs=[u,v]:=by
 obtain ⟨ys,e1,h1⟩:=h.cv;rw [e1,h1.v1]
theorem bO.v3 {ok:Nat→Prop} {w:World} {t u v:Value} {xs:List Value} (h:bO ok w [.c (.v t),.c (.v u),.c (.v v)] xs):xs=[t,u,v]:=by
 obtain ⟨ys,e1,h1⟩:=h.cv;rw [e1,h1.v2]
theorem bO.CE {ok:Nat→Prop} {w:World} {xs:List Value} (h:bO ok w [] xs):xs=[]:=by unfold bO at h;exact h
end Fl
open Go.RowKit
namespace Fl
open Sx Go.Proofs.Tryz
structure U where
 vG:Value
 pB:Value
 vR:Value
 vC:Value
 pL:Value
 pQ:Value
 vS:Value
 pP:Value
 bD:Nat
 vM:Value
 TB:List Nat
 TL:List Nat
 TQ:List Nat
 TP:List Nat
 TR:List Nat
 H:List Bool
 rs:Nat→Value
 sg:Nat→Value
 wk:Nat→Value
def gW (x:Gr) (v u:Value):List A :=
  [.r 6 (x.ops.map cC),nI x.at_,nI x.place,nI 0,bI false,nI x.call,bI x.bp,nI x.param,nI x.bq,nI x.hold,nI x.t,nI x.iF,nI x.cz,nI x.wi,nI x.dc,
   nI x.res.code,nI x.res.cs,nI x.res.v,bI x.res.ok,nI x.res.n,ints x.order,ints x.aC,.v v,.v u,nI x.k]
def fB (u:U) (s:ah):List (List A):=(List.range s.gs.length).map fun g=>gW (aa s g) (u.sg g) (u.wk g)
def dW (s:ah):A:=.r 1 (s.cD.map fun n=>[.v (.int .u16 n)])
def wW (u:U) (s:ah):List A :=
 [nI s.cY,nI s.bM,nI s.step,.v u.vG,.v u.pB,.v u.vR,.v u.vC,.v u.pL,.v u.pQ,.v u.vS,.v u.pP,.v (pt u.bD),dW s,.v u.vM]
def qW (s:ah):List (List Int):=(List.range 16).map fun k=>if k % 2=0 then (cn s ((k / 2:Nat) + 1)).recv else (cn s ((k / 2:Nat) + 1)).send
def iI (u:U) (s:ah):Po.St:=⟨s.cache,s.middle,s.fresh.toNat,u.H⟩
def oq (u:U) (s:ah):List (Value × Nat × List Int):=(List.range s.ax.length).map fun i=>(u.rs i,(cn s (i + 1)).cap.toNat,(cn s (i + 1)).buf)
def ni (u:U) (s:ah):List ak:=((List.range s.gs.length).map fun g=>.row (u.sg g) 3 1 (aU (aa s g).au)) ++ ((List.range s.gs.length).map fun g=>.row (u.wk g) 3 1 (aU (aa s g).an))
@[reducible] def wd (b:Nat) (u:U) (s:ah):List ak :=
 .box b 87 (wW u s) ::
 .row u.vG 55 25 (fB u s) ::
 .row u.vR 104 1 ((List.range s.ax.length).map fun i=>[.v (u.rs i)]) ::
 .row u.vC 4 1 (s.ax.map fun c=>[bI c.closed]) ::
 .row u.vS 60 7 (s.aD.map eS) ::
 .row u.vM 46 13 (s.done.map eM) ::
 .box u.bD 132 [dW s,nI s.drawn] ::
 aL (tB u.pB (s.gs.map fun x=>(x.status,x.token))) u.TB ::
 aL (tL u.pL (s.ax.map (·.lock))) u.TL ::
 aL (tQ u.pQ s.aD.length (qW s)) u.TQ ::
 aL (tP u.pP s.cY.toNat s.bM.toNat (iI u s)) u.TP ::
 aL (tR (oq u s)) u.TR :: ni u s
section
variable {P:Program} {c:Cx} {k:List Item} {f:Fm} {L L2:List ak}
theorem J.I9 (A:List ak) {R:List ak} {j:Nat} {r:ak} (hj:R[j]?=some r) (h:J P c k f (r :: (A ++ R.eraseIdx j))):J P c k f (A ++ R) :=
 J.perm (List.perm_middle.symm.trans ((nN R j hj).append_left A)) h
theorem J.Ja (A:List ak) {R R':List ak} {j:Nat} {r q:ak} (hj:R[j]?=some q) (e:R.set j r=R') (h:J P c k f (A ++ R')):J P c k f (r :: (A ++ R.eraseIdx j)):=by
 subst e;exact J.perm (((set_perm hj).append_left A).trans List.perm_middle) h
end
section
variable {P:Program} {c:Cx} {k:List Item} {f:Fm} {L L2:List ak}
theorem Since.dS {T:List Nat} {L0 L:List ak} {r:ak} {i:Nat} [bx:qu L0 r i] (ht:T.contains i=true):Since T L0 L r.bR:=.there bx.h ht
theorem Qt.le {U:List Nat} {o:Oper} {d:D} (d':D) (q:Qt P c U o f L d) (h:c9 d d'):Qt P c U o f L d':=⟨fun a w s=>by
 obtain ⟨v,h1,h2⟩:=q.go a w s;exact ⟨v,h.rep h1,h2⟩⟩
end
theorem qD (u:U) (s:ah):(fB u s).length=s.gs.length:=by simp [fB]
theorem Jb {u:U} {s:ah} {g:Nat} (hg:g < s.gs.length):(fB u s)[g]?=some (gW (aa s g) (u.sg g) (u.wk g)):=by
 unfold fB;rw [List.getElem?_map,List.getElem?_range hg];rfl
theorem Jc {u u':U} {s:ah} {g:Nat} {x:Gr} {v w:Value} (hg:g < s.gs.length) (e1:u'.sg g=v∧u'.wk g=w) (e2:∀ k,k≠g→u'.sg k=u.sg k∧u'.wk k=u.wk k):(fB u s).set g (gW x v w)=fB u' (ai s g x):=by
 unfold fB;have hl:(ai s g x).gs.length=s.gs.length:=by simp [ai]
 rw [hl];refine uf hg ?_ fun k hk _=>?_
 ·rw [BQ s g g x hg,if_pos rfl,e1.1,e1.2]
 ·rw [BQ s g k x hg,if_neg hk,(e2 k hk).1,(e2 k hk).2]
theorem Jd {u:U} {s:ah} {g:Nat} {x:Gr} (hg:g < s.gs.length):(fB u s).set g (gW x (u.sg g) (u.wk g))=fB u (ai s g x):=Jc hg ⟨rfl,rfl⟩ fun _ _=>⟨rfl,rfl⟩
theorem CH {u:U} {s:ah} {g:Nat} (hg:g < s.gs.length):(ni u s)[g]?=some (.row (u.sg g) 3 1 (aU (aa s g).au)):=by
 unfold ni;rw [List.getElem?_append_left (by simpa using hg),List.getElem?_map,List.getElem?_range hg];rfl
theorem CI {u:U} {s:ah} {g:Nat} (hg:g < s.gs.length):(ni u s)[s.gs.length + g]?=some (.row (u.wk g) 3 1 (aU (aa s g).an)):=by
 unfold ni;rw [List.getElem?_append_right (by simp),List.length_map,List.length_range,show s.gs.length + g - s.gs.length=g by omega,List.getElem?_map,List.getElem?_range hg];rfl
end Fl
open Go.RowKit
namespace Fl
open Sx Go.Proofs.Tryz
set_option maxRecDepth 100000
theorem zm {u:U} {s:ah} {g:Nat} (hg:g < s.gs.length):(fB u s)[((g:Int)).toNat]?=some (gW (aa s g) (u.sg g) (u.wk g)):=by rw [Int.toNat_natCast];exact Jb hg
section
variable {P:Program} {c:Cx} {f:Fm} {L:List ak} {T:TypeId} {ps:String} {af:Array Edge} {gd:Option (Nat × Bool)} {t:Nat}
theorem Qt.ot (i:Nat) {x:Operand} {X sz:Nat} {v:Value} {l:List (List A)} {e e' nV:Nat} [ie:dQ P X e' nV] (h:aP f x=some (.c (.v v))) (hi:L[i]?=some (.row v e sz l)) {n:Nat} (hn:l.length=n):Qt P c [] ⟨t,.call ⟨.builtin .len,#[x],#[X]⟩,T,ps,af,gd⟩ f L (.c (nI n)):=by
 subst hn;haveI:eY L v e sz l i:=⟨hi⟩
 exact Qt.tD h
end
@[reducible] def wl (b:Nat) (u:U) (s:ah) (G:List (List A)) (B:List (Int × Bool)) (R:List ak):List ak :=
 .box b 87 (wW u s) ::
 .row u.vG 55 25 G ::
 .row u.vR 104 1 ((List.range s.ax.length).map fun i=>[.v (u.rs i)]) ::
 .row u.vC 4 1 (s.ax.map fun c=>[bI c.closed]) ::
 .row u.vS 60 7 (s.aD.map eS) ::
 .row u.vM 46 13 (s.done.map eM) ::
 .box u.bD 132 [dW s,nI s.drawn] ::
 aL (tB u.pB B) u.TB ::
 aL (tL u.pL (s.ax.map (·.lock))) u.TL ::
 aL (tQ u.pQ s.aD.length (qW s)) u.TQ ::
 aL (tP u.pP s.cY.toNat s.bM.toNat (iI u s)) u.TP ::
 aL (tR (oq u s)) u.TR :: R
end Fl
open Go.RowKit
namespace Fl
open Sx Go.Proofs.Tryz
set_option maxRecDepth 100000
end Fl
open Go.RowKit
namespace Fl
open Sx Go.Proofs.Tryz
set_option maxRecDepth 100000
theorem CJ (l:List Int) (hl:l.length≤100000) :
  aq prog 30 [.c (iu l)] [] (fun b:Nat=>(.c (.v (pt b)),[.box b 132 [iu l,nI 0]])):=by
 refine aq.intro func30 rfl rfl rfl (fun ok e=>?_)
 repeat (first | (refine K.bi ?_;refine JO.ld (Ld.copy (qb rfl) rfl rfl ((by simp))) rfl (fun _=>?_)) | (refine K.make ?_;refine JO.ld (Ld.make (l.length) (qb rfl) rfl rfl (by (rfl)) (by omega)) rfl (fun _=>?_)) | refine av ?_ | intro _)
 refine J.BE 3 12 0 rfl rfl rfl ?_
 (exact J.cS func30 rfl (.cons (.tmp rfl) .nil) _ (by exact .refl) rfl)
theorem CU (b:Nat) (l:List Int) (a:Int) :
  aq prog 39 [.c (.v (pt b))] [.box b 132 [iu l,nI a]] (fun _:Unit=>(.c (nI a),[.box b 132 [iu l,nI a]])):=by
 refine aq.intro func39 rfl rfl rfl (fun ok e=>?_)
 repeat (refine gn ?_)
 (exact J.cS func39 rfl (.cons (.tmp rfl) .nil) () (by exact .refl) rfl)
theorem CV (b:Nat) (l:List Int) (a:Int) (h0:0≤a) (h1:a≤l.length) (h2:l.length≤100000) :
  aq prog 69 [.c (.v (pt b))] [.box b 132 [iu l,nI a]] (fun _:Unit=>(.c (nI (l.length - a)),[.box b 132 [iu l,nI a]])):=by
 refine aq.intro func69 rfl rfl rfl (fun ok e=>?_);have w1:IntKind.i64.wrap ((l.length:Int) - a)=l.length - a:=fq (by omega) (by omega)
 repeat (refine gn ?_)
 refine J.draw (by kernel_rfl) rfl ?_;refine JW.base none ?_;refine tk 0 ?_;refine tk 1 ?_;refine tk 2 ?_;refine tk 3 ?_;refine tk 4 ?_;refine tk 5 ?_;refine tk 6 ?_;refine tk 7 ?_;refine tk 8 ?_;refine JD.take 9 rfl rfl (by kernel_rfl) rfl (qb rfl) (Qt.dy rfl rfl rfl w1) rfl ?_;refine tk 10 ?_;refine bP ?_
 repeat (fail)
 (exact J.cS func69 rfl (.cons (.tmp rfl) .nil) () (by exact .refl) rfl)
theorem Je (b:Nat) (l:List Int) (n:Int) (h0:0≤n) (h1:n≤l.length) (h2:l.length≤100000) :
  aq prog 33 [.c (.v (pt b)),.c (nI n)] [.box b 132 [iu l,nI 0]] (fun _:Unit=>(.aY [],[.box b 132 [iu l,nI n]])):=by
 refine aq.intro func33 rfl rfl rfl (fun ok e=>?_);have c1:(decide (n < 0))=false:=decide_eq_false (by omega);have m1:(if (l.length:Int) - 0 < n then (l.length:Int) - 0 else n)=n:=by rw [if_neg (by omega)]
 have w1:IntKind.i64.wrap (0 + n)=n:=by rw [fq (by omega) (by omega),Int.zero_add]
 repeat (refine gn ?_)
 refine J.draw (by kernel_rfl) rfl ?_;refine JW.gw [0] (some 11) ?_;refine tk 0 ?_;refine tk 1 ?_;refine tk 2 ?_;refine tk 4 ?_;refine tk 5 ?_;refine JD.cy (i:=3) (j:=6) (by kernel_rfl) ?_ ?_
 (refine JS.q rfl rfl rfl (qb rfl) (Qt.kE rfl (by exact rfl)) ?_)
 refine jl 6 rfl rfl rfl rfl (Ld.cT (CV b l 0 (by omega) (by omega) h2) (qb rfl) rfl (.cons .refl .nil)) (.ig rfl) (fun _=>?_);refine jk 7 rfl rfl rfl rfl (Qt.min rfl rfl m1) ?_;refine jk 8 rfl rfl rfl rfl (Qt.dy rfl rfl rfl w1) ?_;refine jk 9 rfl rfl rfl rfl (Qt.nilCheck rfl rfl) ?_;refine jk 10 rfl rfl rfl rfl (Qt.fieldAddr rfl rfl) ?_;refine jt 11 rfl rfl (Ld.cr rfl rfl (by exact rfl)) (fun _=>?_);refine bz ?_
 rotate_left
 refine JS.bt rfl rfl rfl (qb rfl) (Ld.cT (CV b l 0 (by omega) (by omega) h2) (qb rfl) rfl (.cons .refl .nil)) (.ig rfl) (fun _=>?_);refine JD.jN ?_;refine JD.take 7 rfl rfl (by kernel_rfl) rfl (qb rfl) (Qt.min rfl rfl m1) rfl ?_;refine jk 3 rfl rfl rfl rfl (Qt.kE rfl (by exact rfl)) ?_;refine jk 8 rfl rfl rfl rfl (Qt.dy rfl rfl rfl w1) ?_;refine jk 9 rfl rfl rfl rfl (Qt.nilCheck rfl rfl) ?_;refine jk 10 rfl rfl rfl rfl (Qt.fieldAddr rfl rfl) ?_;refine jt 11 rfl rfl (Ld.cr rfl rfl (by exact rfl)) (fun _=>?_);refine bz ?_
 rotate_left
 all_goals
  repeat (fail)
  (exact J.yR func33 rfl .nil () (by exact .refl) rfl)
end Fl
open Go.RowKit
namespace Fl
open Sx Go.Proofs.Tryz
set_option maxRecDepth 100000
def kN (p:List (List Pn.Op)):A:=.r 1 (p.map fun ops=>[.r 6 (ops.map cC)])
theorem zn (p:List (List Pn.Op)) (h1:p.length≤1000) (h2:∀ ops∈p,ops.length≤100000∧∀ o∈ops,o.cases.length≤1000) :
  Pure prog 66 [.c (kN p)] (.c (kN p)):=by
 refine aq.intro func66 rfl rfl rfl (fun ok e=>?_)
 repeat (first | (refine K.make ?_;refine JO.ld (Ld.vW (p.length) (qb rfl) rfl rfl (by (rfl)) (by omega)) rfl (fun _=>?_)) | refine gn ?_)
 refine J.loop (ι:={ q:Nat × Value // q.1≤p.length }) (fun q=>[(12,.c (kN p)),(13,.c (nI p.length)),(14,.c (nI q.1.1)),(3,.c (.v q.1.2))]) (fun q=>[.row q.1.2 53 1 ((p.take q.1.1).map fun ops=>[.r 6 (ops.map cC)])]) (fun q=>p.length - q.1.1) ⟨(0,_),Nat.zero_le _⟩ (fun X h=>h.aQ ⟨rfl,rfl,rfl,rfl,trivial⟩) (fun q ih=>?_);obtain ⟨⟨k,v⟩,hk⟩:=q;simp only at hk ih ⊢
 by_cases aN:k < p.length
 ·have t1:(decide ((k:Int) < (p.length:Int)))=true:=by simpa using aN
  obtain ⟨ops,ho⟩:∃ ops,p[k]?=some ops:=⟨_,List.getElem?_eq_getElem aN⟩
  have J1:(p.map fun ops=>[A.r 6 (ops.map cC)])[((k:Int)).toNat]?=some [A.r 6 (ops.map cC)]:=by rw [Int.toNat_natCast,List.getElem?_map,ho];rfl
  obtain ⟨m1,m2⟩:=h2 ops (List.mem_of_getElem? ho)
  repeat (refine gn ?_)
  refine J.gB 58 6 ?_;refine J.loop (ι:={ q:Nat × Value // q.1≤ops.length }) (fun q=>[(18,.c (.r 6 (ops.map cC))),(19,.c (nI ops.length)),(20,.c (nI q.1.1)),(6,.c (.v q.1.2)),(12,.c (kN p)),(13,.c (nI p.length)),(14,.c (nI k)),(3,.c (.v v))]) (fun q=>[.row q.1.2 58 6 ((ops.take q.1.1).map cC),.row v 53 1 ((p.take k).map fun ops=>[.r 6 (ops.map cC)])]) (fun q=>ops.length - q.1.1) ⟨(0,.slice none 0 0),Nat.zero_le _⟩ (fun X h=>h.aQ ⟨rfl,rfl,rfl,rfl,rfl,rfl,rfl,rfl,trivial⟩) (fun q fF=>?_);obtain ⟨⟨j,u⟩,hj⟩:=q;simp only at hj fF ⊢
  by_cases dH:j < ops.length
  ·have t2:(decide ((j:Int) < (ops.length:Int)))=true:=by simpa using dH
   obtain ⟨o,kO⟩:∃ o,ops[j]?=some o:=⟨_,List.getElem?_eq_getElem dH⟩
   have J2:(ops.map cC)[((j:Int)).toNat]?=some (cC o):=by rw [Int.toNat_natCast,List.getElem?_map,kO];rfl
   have m3:=m2 o (List.mem_of_getElem? kO)
   repeat (first | (refine K.bi ?_;first | refine JO.ld (Ld.dO (qb rfl) rfl rfl .read (by (simp;omega))) rfl (fun _=>?_) | ((refine JO.ld (Ld.bH (qb rfl) rfl rfl .bV (by (simp;omega))) rfl (fun _=>?_)))) | refine av ?_ | intro _)
   refine J.eI 1 ?_;refine J.eI 1 ?_;refine J.dj ?_ ((fF ⟨(j + 1,_),by simp only;omega⟩ (by simp only;omega)).aQ ⟨rfl,rfl,rfl,rfl,rfl,rfl,rfl,rfl,trivial⟩);rw [List.take_add_one,kO,List.map_append];rfl
  ·have t2:(decide ((j:Int) < (ops.length:Int)))=false:=by simpa using dH
   obtain rfl:j=ops.length:=by omega
   refine J.gG 6 rfl ?_
   repeat (first | (refine K.bi ?_;refine JO.ld (Ld.bH (qb rfl) rfl rfl .bV (by (simp;omega))) rfl (fun _=>?_)) | refine av ?_ | intro _)
   refine J.eI 1 ?_;refine J.dj ?_ ((ih ⟨(k + 1,_),by simp only;omega⟩ (by simp only;omega)).aQ ⟨rfl,rfl,rfl,rfl,trivial⟩);rw [List.take_add_one,ho,List.map_append,List.take_of_length_le (Nat.le_refl _)];rfl
 ·have t1:(decide ((k:Int) < (p.length:Int)))=false:=by simpa using aN
  obtain rfl:k=p.length:=by omega
  rw [List.take_of_length_le (Nat.le_refl _)]
  repeat (refine gn ?_)
  refine J.gG 2 rfl ?_;exact aA func66
theorem Jf (L:List ak) (x:Gr) (v w:Value) {i j:Nat} (hi:L[i]?=some (.row v 3 1 (aU x.au))) (hj:L[j]?=some (.row w 3 1 (aU x.an)))
  (b1:x.ops.length≤100000) (b2:∀ o∈x.ops,o.cases.length≤1000) (b3:x.order.length≤1000) (b4:x.aC.length≤1000) (b5:x.au.length≤1000) (b6:x.an.length≤1000) :
  aq prog 35 [.agg (gW x v w)] L (fun _:Unit=>(.agg (eG { x with status:=0,token:=false }),L)):=by
 have C1:=zn [x.ops] (by simp) (by intro ops ho;obtain rfl:=List.mem_singleton.1 ho;exact ⟨b1,b2⟩);haveI xO:eY L v 3 1 (aU x.au) i:=⟨hi⟩
 haveI nj:eY L w 3 1 (aU x.an) j:=⟨hj⟩
 refine aq.intro func35 rfl rfl rfl (fun ok e=>?_);have l5:(aU x.au).length=x.au.length:=fA _;have l6:(aU x.an).length=x.an.length:=fA _
 repeat (first | (refine K.indexAddr ?_;refine jx rfl rfl rfl rfl (by omega) (rfl) ?_) | refine aI (C1) ?_ | (refine K.lit ?_;refine JO.ld (Ld.iZ (qb rfl) rfl rfl rfl rfl rfl) rfl (fun _=>?_)) | (refine K.bi ?_;first | refine JO.ld (Ld.dO (qb rfl) rfl rfl .read (by (simp;omega))) rfl (fun _=>?_) | refine JO.ld (Ld.dO (qb rfl) rfl rfl .bV (by (omega))) rfl (fun _=>?_)) | refine av ?_ | intro _)
 (exact J.rP [_,_] rfl func35 rfl (.cons (.cell 0 rfl rfl rfl) .nil) () la rfl)
end Fl
open Go.RowKit
namespace Fl
open Sx Go.Proofs.Tryz
set_option maxRecDepth 100000
structure Fw (s:ah):Prop where
 gs:s.gs.length≤8
 ch:s.ax.length≤8
 su:s.aD.length≤64
 dn:s.done.length≤100000
 dr:s.cD.length≤100000
 cl:s.cache.length=s.gs.length
 cb:∀ l∈s.cache,l.length≤1000
 mb:s.middle.length≤1000
 fr:0≤s.fresh
 cp:∀ c∈s.ax,0≤c.cap
 op:∀ x∈s.gs,x.ops.length≤100000∧∀ o∈x.ops,o.cases.length≤1000
 zo:∀ x∈s.gs,x.order.length≤1000∧x.aC.length≤1000∧x.au.length≤1000∧x.an.length≤1000
theorem zq (ch:Int) (h0:0≤ch) (h1:ch≤100000):Pure prog 47 [.c (nI ch)] (.c (nI (2 * ch - 2))):=by
 refine aq.intro func47 rfl rfl rfl (fun ok e=>?_)
 repeat (refine gn ?_)
 exact aA func47
theorem zu (ch:Int) (h0:0≤ch) (h1:ch≤100000):Pure prog 48 [.c (nI ch)] (.c (nI (2 * ch - 1))):=by
 refine aq.intro func48 rfl rfl rfl (fun ok e=>?_)
 repeat (refine gn ?_)
 exact aA func48
theorem CX {s:ah} {k:Nat} (hk:k < s.gs.length):Bc.status (s.gs.map fun x=>(x.status,x.token)) (k:Int)=(aa s k).status:=by
 have h:(aa s k)=s.gs[k]:=by unfold aa;rw [List.getD_eq_getElem?_getD,List.getElem?_eq_getElem hk];rfl
 unfold Bc.status Bc.has Bc.mem;simp [hk,h]
theorem CY {s:ah} {k:Nat} (hk:k < s.gs.length):Bc.token (s.gs.map fun x=>(x.status,x.token)) (k:Int)=(aa s k).token:=by
 have h:(aa s k)=s.gs[k]:=by unfold aa;rw [List.getD_eq_getElem?_getD,List.getElem?_eq_getElem hk];rfl
 unfold Bc.token Bc.has Bc.mem;simp [hk,h]
theorem rW {s:ah} {k:Nat} (hk:k < s.ax.length):s.ax[k]?=some (cn s ((k:Int) + 1)):=by
 unfold cn;rw [show ((k:Int) + 1 - 1).toNat=k by omega,List.getD_eq_getElem?_getD,List.getElem?_eq_getElem hk];rfl
theorem CZ {s:ah} {k:Nat} (hk:k < s.ax.length):Lt.owner (s.ax.map (·.lock)) (k:Int)=(cn s ((k:Int) + 1)).lock:=by
 have h:=rW hk;unfold Lt.owner Lt.has;rw [List.getElem?_eq_getElem hk] at h;simp at h;simp [hk,h]
theorem wB {u:U} {s:ah} {k:Nat} (hk:k < s.ax.length):(oq u s)[k]?=some (u.rs k,(cn s ((k:Int) + 1)).cap.toNat,(cn s ((k:Int) + 1)).buf):=by
 unfold oq;rw [List.getElem?_map,List.getElem?_range hk];rfl
theorem C7 {s:ah} {k:Nat} (hk:k < 8):Qu.row (qW s) (2 * ((k:Int) + 1) - 2)=(cn s ((k:Int) + 1)).recv:=by
 have e:2 * ((k:Int) + 1) - 2=((2 * k:Nat):Int):=by omega
 have l:(qW s).length=16:=by simp [qW]
 unfold Qu.row Qu.line;rw [e,l,if_pos (by simp;omega),Int.toNat_natCast];unfold qW;rw [List.getD_eq_getElem?_getD,List.getElem?_map,List.getElem?_range (by omega)];simp
theorem C8 {s:ah} {k:Nat} (hk:k < 8):Qu.row (qW s) (2 * ((k:Int) + 1) - 1)=(cn s ((k:Int) + 1)).send:=by
 have e:2 * ((k:Int) + 1) - 1=((2 * k + 1:Nat):Int):=by omega
 have l:(qW s).length=16:=by simp [qW]
 unfold Qu.row Qu.line;rw [e,l,if_pos (by simp;omega),Int.toNat_natCast];unfold qW;rw [List.getD_eq_getElem?_getD,List.getElem?_map,List.getElem?_range (by omega)];have h1:(2 * (k:Int) + 1) / 2=k:=by omega
 simp [h1]
theorem C9 {s:ah} {k:Nat} (hk:k < s.cache.length):s.cache[k]?=some (Po.cache s.cache (k:Int)):=by
 unfold Po.cache Po.vX;simp [hk]
def zw (s:ah) (g c k:A):List A:=[nI s.cY,nI s.bM,nI s.step,g,c,.r 7 (s.aD.map eS),k,ints s.middle,nI s.fresh,iu s.cD,nI s.drawn,.r 13 (s.done.map eM)]
theorem Da (b:Nat) (u:U) (s:ah) (F:Fw s) :
  aq prog 15 [.c (.v (pt b))] (wd b u s) (fun _:Unit=>(.agg (az s),wd b u s)):=by
 have f1:=F.su;have f2:=F.dn;have f3:=F.dr;have f4:=F.fr;have z:((s.fresh.toNat:Nat):Int)=s.fresh:=by omega
 have CM:=Cw u.pP s.cY.toNat s.bM.toNat (iI u s) u.TP F.mb;have CF:=Cy u.pP s.cY.toNat s.bM.toNat (iI u s) u.TP;rw [show (((iI u s).f:Nat):Int)=s.fresh from z] at CF;have CD:aq prog 39 [.c (.v (pt u.bD))] [.box u.bD 132 [dW s,nI s.drawn]] (fun _:Unit=>(.c (nI s.drawn),[.box u.bD 132 [dW s,nI s.drawn]])):=CU u.bD s.cD s.drawn;refine aq.intro func15 rfl rfl rfl (fun ok e=>?_)
 repeat (first | refine J.seq ?_ | (refine J.region ?_;refine JO.alloc rfl (qb rfl) ?_;intro b2;refine JO.nil ?_))
 refine J.join (ι:=Nat) (fun b3=>[(3,.c (.v (pt b3))),(2,.c (.v (pt b2))),(0,.c (.v (pt b)))]) (fun b3=>.box b3 36 (zw s (.v (.slice none 0 0)) (.v (.slice none 0 0)) (.v (.slice none 0 0))) :: .box b2 36 kK :: wd b u s) (fun b3=>?rest) (fun rest=>?_)
 case rest =>
  repeat (first | (refine K.bi ?_;refine jq rfl rfl rfl (Qt.ot 3 rfl rfl (qD u s)) ?_) | refine gn ?_)
  refine J.gB 55 25 ?_;refine J.gB 28 1 ?_;refine J.loop (ι:={ q:Nat × Value × Value // q.1≤s.gs.length }) (fun q=>[(52,.c (nI q.1.1)),(51,.c (nI s.gs.length)),(50,.c (.v u.vG)),(3,.c (.v (pt b3))),(2,.c (.v (pt b2))),(0,.c (.v (pt b)))]) (fun q=>.row q.1.2.1 28 1 ((s.cache.take q.1.1).map fun l=>[ints l]) :: .row q.1.2.2 55 25 ((s.gs.take q.1.1).map eG) :: .box b3 36 (zw s (.v q.1.2.2) (.v (.slice none 0 0)) (.v q.1.2.1)) :: .box b2 36 kK :: wd b u s) (fun q=>s.gs.length - q.1.1) ⟨(0,.slice none 0 0,.slice none 0 0),Nat.zero_le _⟩ (fun X h=>h.aQ ⟨rfl,rfl,rfl,rfl,rfl,rfl,trivial⟩) (fun q ih=>?_);obtain ⟨⟨k,vc,vg⟩,hk⟩:=q;simp only at hk ih ⊢
  by_cases aN:k < s.gs.length
  ·have t1:(decide ((k:Int) < (s.gs.length:Int)))=true:=by simpa using aN
   have OW:∀ x:Int,x=k→0≤x∧x < (fB u s).length:=fun x hx=>by rw [qD];omega
   have hx:s.gs[k]?=some (aa s k):=by unfold aa;rw [List.getD_eq_getElem?_getD,List.getElem?_eq_getElem aN];rfl
   have hm:=List.mem_of_getElem? hx;have BS:=Ci u.pB (s.gs.map fun x=>(x.status,x.token)) u.TB (k:Int);have BT:=Cj u.pB (s.gs.map fun x=>(x.status,x.token)) u.TB (k:Int);rw [CX aN] at BS;rw [CY aN] at BT;have CC:=Cz u.pP s.cY.toNat s.bM.toNat (iI u s) u.TP k (by show k < s.cache.length;rw [F.cl];omega) F.cb;obtain ⟨o1,o2⟩:=F.op _ hm;obtain ⟨o3,o4,o5,o6⟩:=F.zo _ hm;have bU:(s.cache.take k).length=k:=by rw [List.length_take,F.cl];omega
   have tj:(s.gs.take k).length=k:=by rw [List.length_take];omega
   have g8:=F.gs
   repeat (first | (refine K.load ?_;((refine jq rfl rfl rfl (Qt.Bk rfl ((zm aN)) (by exact rfl)) ?_))) | (refine K.store ?_;refine JO.ld (Ld.aT rfl rfl rfl (by exact rfl) (by exact rfl)) rfl (fun _=>?_)) | (refine K.indexAddr ?_;refine jq rfl rfl rfl (Qt.cB rfl rfl (OW _ rfl).1 (OW _ rfl).2) ?_) | (refine K.call ?_;refine JO.ld (Ld.gy (Jf _ (aa s k) (u.sg k) (u.wk k) (i:=k + 17) (j:=s.gs.length + k + 17) (CH aN) (CI aN) o1 o2 o3 o4 o5 o6) (qb rfl) rfl (br.cons .refl .nil)) rfl ?_;intro _) | refine av ?_ | intro _)
   refine J.draw (by kernel_rfl) rfl ?_;refine JW.gw [12] (some 13) ?_;refine tk 0 ?_;refine tk 1 ?_;refine tk 2 ?_;refine tk 3 ?_;refine tk 4 ?_;refine JD.j7 6 rfl rfl (by kernel_rfl) rfl (qb rfl) (Qt.move rfl) rfl ?_;refine JD.j7 7 rfl rfl (by kernel_rfl) rfl (qb rfl) (Qt.nilCheck rfl rfl) rfl ?_;refine JD.j7 8 rfl rfl (by kernel_rfl) rfl (qb rfl) (Qt.fieldAddr rfl rfl) rfl ?_
   (refine JD.j7 9 rfl rfl (by kernel_rfl) rfl (qb rfl) (Qt.kE rfl (by exact rfl)) rfl ?_)
   refine JD.j7 10 rfl rfl (by kernel_rfl) rfl (qb rfl) (Qt.move rfl) rfl ?_;refine jl 5 rfl rfl rfl rfl (Ld.cT BS (qb rfl) rfl (.cons .refl (.cons .refl .nil))) (.dS rfl) (fun _=>?_);refine tk 12 ?_;refine jl 11 rfl rfl rfl rfl (Ld.cT BT (qb rfl) rfl (.cons .refl (.cons .refl .nil))) (.dS rfl) (fun _=>?_);refine jt 13 rfl rfl (Ld.cr rfl rfl (by exact rfl)) (fun _=>?_);refine JW.gw [12] (some 15) ?_;refine jk 14 rfl rfl rfl rfl (Qt.fieldAddr rfl rfl) ?_;refine jt 15 rfl rfl (Ld.cr rfl rfl (by exact rfl)) (fun _=>?_);refine bz ?_
   repeat (first | (refine K.store ?_;refine JO.ld (Ld.cr rfl rfl (by exact rfl)) rfl (fun _=>?_)) | (refine K.bi ?_;refine JO.ld (Ld.bH (qb rfl) rfl rfl .bV (by (simp;omega))) rfl (fun _=>?_)) | refine av ?_ | intro _)
   refine J.eI 1 ?_;refine J.eI 1 ?_;refine J.draw (by kernel_rfl) rfl ?_;refine JW.gw [14,1] (some 11) ?_;refine tk 0 ?_;refine tk 1 ?_;refine tk 2 ?_;refine tk 3 ?_;refine tk 4 ?_;refine tk 5 ?_;refine tk 6 ?_;refine jl 7 rfl rfl rfl rfl (Ld.cT CC (qb rfl) rfl (.cons .refl (.cons .refl .nil))) (.dS rfl) (fun _=>?_);refine jl 8 rfl rfl rfl rfl (Ld.iZ (qb rfl) rfl rfl rfl rfl rfl) .none (fun _=>?_);refine jl 9 rfl rfl rfl rfl (Ld.bH (qb rfl) rfl rfl .read (by (simp;omega))) (.oU rfl) (fun _=>?_);refine jk 10 rfl rfl rfl rfl (Qt.fieldAddr rfl rfl) ?_;refine jt 11 rfl rfl (Ld.cr rfl rfl (by exact rfl)) (fun _=>?_);refine bz ?_
   repeat (refine gn ?_)
   rename_i uh _ _ _ uj _;refine J.dj ?_ ((ih ⟨(k + 1,uj,uh),by simp only;omega⟩ (by simp only;omega)).aQ ⟨rfl,rfl,rfl,rfl,rfl,rfl,trivial⟩);have bX:=C9 (s:=s) (k:=k) (by rw [F.cl];exact aN);rw [List.take_add_one,List.take_add_one,hx,bX,List.map_append,List.map_append];rfl
  ·have t1:(decide ((k:Int) < (s.gs.length:Int)))=false:=by simpa using aN
   obtain rfl:k=s.gs.length:=by omega
   refine J.jR 0 2 6 rfl rfl rfl ?_;refine J.jR 0 1 3 rfl rfl rfl ?_
   repeat (first | (refine K.bi ?_;refine jq rfl rfl rfl (Qt.ot 4 (n:=s.ax.length) rfl rfl (by simp)) ?_) | refine gn ?_)
   refine J.gB 97 6 ?_;rw [List.take_of_length_le (by rw [F.cl];exact Nat.le_refl _),List.take_of_length_le (Nat.le_refl _)];refine J.loop (ι:={ q:Nat × Value // q.1≤s.ax.length }) (fun q=>[(96,.c (nI q.1.1)),(95,.c (nI s.ax.length)),(94,.c (.v u.vR)),(3,.c (.v (pt b3))),(2,.c (.v (pt b2))),(0,.c (.v (pt b)))]) (fun q=>.row q.1.2 97 6 ((s.ax.take q.1.1).map eC) :: .box b3 36 (zw s (.r 25 (s.gs.map eG)) (.v q.1.2) (.r 1 (s.cache.map fun l=>[ints l]))) :: .box b2 36 kK :: wd b u s) (fun q=>s.ax.length - q.1.1) ⟨(0,.slice none 0 0),Nat.zero_le _⟩ (fun X h=>h.aQ ⟨rfl,rfl,rfl,rfl,rfl,rfl,trivial⟩) (fun q ih=>?_);obtain ⟨⟨k,vh⟩,hk⟩:=q;simp only at hk ih ⊢
   by_cases aN:k < s.ax.length
   ·have t1:(decide ((k:Int) < (s.ax.length:Int)))=true:=by simpa using aN
    have hx:=rW aN;have hm:=List.mem_of_getElem? hx;have c8:=F.ch;have uk:=F.cp _ hm;have bU:(s.ax.take k).length=k:=by rw [List.length_take];omega
    have RR:=Cm (oq u s) u.TR (wB (u:=u) aN);rw [show (((cn s ((k:Int) + 1)).cap.toNat:Nat):Int)=(cn s ((k:Int) + 1)).cap by omega] at RR;have RA:=Co (oq u s) u.TR (wB (u:=u) aN);have LO:=BZ u.pL (s.ax.map (·.lock)) u.TL (k:Int);rw [CZ aN] at LO;have QR:=wq u.pQ s.aD.length (qW s) u.TQ (2 * ((k:Int) + 1) - 2);rw [C7 (by omega)] at QR;have QS:=wq u.pQ s.aD.length (qW s) u.TQ (2 * ((k:Int) + 1) - 1);rw [C8 (by omega)] at QS;have w1:IntKind.i64.wrap ((k:Int) + 1)=(k:Int) + 1:=fq (by omega) (by omega);have OR:∀ x:Int,x=k→0≤x∧x < ((List.range s.ax.length).map fun i=>[A.v (u.rs i)]).length:=fun x hx=>by simp;omega
    have OC:∀ x:Int,x=k→0≤x∧x < (s.ax.map fun c=>[bI c.closed]).length:=fun x hx=>by simp;omega
    have AR:((List.range s.ax.length).map fun i=>[A.v (u.rs i)])[((k:Int)).toNat]?=some [A.v (u.rs k)]:=by rw [Int.toNat_natCast,List.getElem?_map,List.getElem?_range aN];rfl
    have AC:(s.ax.map fun c=>[bI c.closed])[((k:Int)).toNat]?=some [bI (cn s ((k:Int) + 1)).closed]:=by rw [Int.toNat_natCast,List.getElem?_map,hx];rfl
    repeat (first | (refine K.load ?_;refine jq rfl rfl rfl (Qt.dx rfl (AR) (by exact rfl)) ?_) | (refine K.indexAddr ?_;refine jq rfl rfl rfl (Qt.cB rfl rfl (OR _ rfl).1 (OR _ rfl).2) ?_) | refine gn ?_)
    refine J.draw (by kernel_rfl) rfl ?_;refine JW.gw [0,11,12,14] (some 39) ?_;refine tk 0 ?_;refine tk 1 ?_;refine tk 2 ?_;refine tk 4 ?_;refine tk 6 ?_;refine tk 7 ?_;refine tk 8 ?_;refine tk 9 ?_;refine tk 10 ?_;refine JD.take 11 rfl rfl (by kernel_rfl) rfl (qb rfl) (Qt.cB rfl rfl (OC _ rfl).1 (OC _ rfl).2) rfl ?_;refine JD.take 12 rfl rfl (by kernel_rfl) rfl (qb rfl) (Qt.dx rfl AC rfl) rfl ?_;refine tk 13 ?_;refine tk 14 ?_;refine tk 15 ?_;refine tk 16 ?_;refine tk 17 ?_;refine tk 19 ?_;refine tk 20 ?_;refine tk 21 ?_;refine tk 22 ?_;refine tk 23 ?_;refine JD.take 24 rfl rfl (by kernel_rfl) rfl (qb rfl) (Qt.dy rfl rfl rfl w1) rfl ?_;refine tk 27 ?_;refine tk 28 ?_;refine tk 29 ?_;refine tk 30 ?_;refine tk 31 ?_;refine JD.take 32 rfl rfl (by kernel_rfl) rfl (qb rfl) (Qt.dy rfl rfl rfl w1) rfl ?_;refine jl 3 rfl rfl rfl rfl (Ld.cT RR (qb rfl) rfl (.cons .refl .nil)) (.dS rfl) (fun _=>?_);refine jl 5 rfl rfl rfl rfl (Ld.cT RA (qb rfl) rfl (.cons .refl .nil)) (.dS rfl) (fun _=>?_);refine jl 18 rfl rfl rfl rfl (Ld.cT LO (qb rfl) rfl (.cons .refl (.cons .refl .nil))) (.dS rfl) (fun _=>?_);refine jl 25 rfl rfl rfl rfl (Ld.pure (zq ((k:Int) + 1) (by omega) (by omega)) (qb rfl) rfl lq) .none (fun _=>?_);refine jl 26 rfl rfl rfl rfl (Ld.cT QR (qb rfl) rfl (.cons .refl (.cons .refl .nil))) (.dS rfl) (fun _=>?_);refine jl 33 rfl rfl rfl rfl (Ld.pure (zu ((k:Int) + 1) (by omega) (by omega)) (qb rfl) rfl lq) .none (fun _=>?_);refine jl 34 rfl rfl rfl rfl (Ld.cT QS (qb rfl) rfl (.cons .refl (.cons .refl .nil))) (.dS rfl) (fun _=>?_);refine jk 35 rfl rfl rfl rfl (Qt.build rfl (by kernel_rfl)) ?_;refine jl 36 rfl rfl rfl rfl (Ld.iZ (qb rfl) rfl rfl rfl rfl rfl) .none (fun _=>?_);refine jl 37 rfl rfl rfl rfl (Ld.bH (qb rfl) rfl rfl .read (by (simp;omega))) (.oU rfl) (fun _=>?_);refine jk 38 rfl rfl rfl rfl (Qt.fieldAddr rfl rfl) ?_;refine jt 39 rfl rfl (Ld.cr rfl rfl (by exact rfl)) (fun _=>?_);refine bz ?_
    repeat (refine gn ?_)
    rename_i zy _;refine J.dj ?_ ((ih ⟨(k + 1,zy),by simp only;omega⟩ (by simp only;omega)).aQ ⟨rfl,rfl,rfl,rfl,rfl,rfl,trivial⟩);rw [List.take_add_one,hx,List.map_append];rfl
   ·have t1:(decide ((k:Int) < (s.ax.length:Int)))=false:=by simpa using aN
    obtain rfl:k=s.ax.length:=by omega
    rw [List.take_of_length_le (Nat.le_refl _)];refine J.jR 0 1 4 rfl rfl rfl ?_
    repeat (first | (refine K.store ?_;refine JO.ld (Ld.aT rfl rfl rfl (by exact rfl) (by exact rfl)) rfl (fun _=>?_)) | refine gn ?_)
    (exact J.rP [_,_] rfl func15 rfl (.cons (.cell 1 rfl rfl rfl) .nil) () la rfl)
 refine J.draw (by kernel_rfl) rfl ?_;refine JW.gw [11,7] (some 40) ?_;refine tk 0 ?_;refine tk 1 ?_;refine tk 2 ?_;refine tk 3 ?_;refine tk 4 ?_;refine tk 5 ?_;refine tk 6 ?_;refine tk 7 ?_;refine tk 8 ?_;refine tk 9 ?_;refine tk 10 ?_;refine tk 11 ?_;refine tk 13 ?_;refine tk 14 ?_;refine tk 15 ?_;refine tk 16 ?_;refine tk 18 ?_;refine tk 19 ?_;refine tk 20 ?_;refine tk 21 ?_;refine tk 23 ?_;refine tk 24 ?_;refine tk 25 ?_;refine tk 26 ?_;refine tk 28 ?_;refine tk 29 ?_;refine tk 30 ?_;refine tk 31 ?_;refine tk 33 ?_;refine tk 34 ?_;refine tk 35 ?_;refine tk 36 ?_;refine JD.cy (i:=12) (j:=39) (by kernel_rfl) ?_ ?_;refine JS.bt rfl rfl rfl (qb rfl) (Ld.dO (qb rfl) rfl rfl .bV (by (simp;omega))) .none (fun _=>?_);refine JD.cy (i:=17) (j:=39) (by kernel_rfl) ?_ ?_;refine JS.bt rfl rfl rfl (qb rfl) (Ld.cT CM (qb rfl) rfl (.cons .refl .nil)) (.dS rfl) (fun _=>?_);refine JD.cy (i:=22) (j:=39) (by kernel_rfl) ?_ ?_;refine JS.bt rfl rfl rfl (qb rfl) (Ld.cT CF (qb rfl) rfl (.cons .refl .nil)) (.dS rfl) (fun _=>?_);refine JD.cy (i:=27) (j:=39) (by kernel_rfl) ?_ ?_;refine JS.bt rfl rfl rfl (qb rfl) (Ld.dO (qb rfl) rfl rfl .read (by (simp;omega))) .none (fun _=>?_);refine JD.cy (i:=32) (j:=39) (by kernel_rfl) ?_ ?_;refine JS.bt rfl rfl rfl (qb rfl) (Ld.cT CD (qb rfl) rfl (.cons .refl .nil)) (.ig rfl) (fun _=>?_);refine JD.cy (i:=37) (j:=39) (by kernel_rfl) ?_ ?_;refine JS.bt rfl rfl rfl (qb rfl) (Ld.dO (qb rfl) rfl rfl .bV (by (simp;omega))) .none (fun _=>?_);refine JD.jN ?_;refine tk 38 ?_;refine jl 39 rfl rfl rfl rfl (Ld.alloc (qb rfl)) .none (fun _=>?_);refine jt 40 rfl rfl (Ld.aT rfl rfl rfl (by exact rfl) (by exact rfl)) (fun _=>?_);refine bz ?_
 rotate_left
 refine JS.bt rfl rfl rfl (qb rfl) (Ld.alloc (qb rfl)) .none (fun _=>?_);refine jl 37 rfl rfl rfl rfl (Ld.dO (qb rfl) rfl rfl .bV (by (simp;omega))) .none (fun _=>?_);refine jk 38 rfl rfl rfl rfl (Qt.build rfl (by kernel_rfl)) ?_;refine jt 40 rfl rfl (Ld.aT rfl rfl rfl (by exact rfl) (by exact rfl)) (fun _=>?_);refine bz ?_
 rotate_left
 refine JS.bt rfl rfl rfl (qb rfl) (Ld.alloc (qb rfl)) .none (fun _=>?_);refine jl 32 rfl rfl rfl rfl (Ld.cT CD (qb rfl) rfl (.cons .refl .nil)) (.ig rfl) (fun _=>?_);refine jl 37 rfl rfl rfl rfl (Ld.dO (qb rfl) rfl rfl .bV (by (simp;omega))) .none (fun _=>?_);refine jk 38 rfl rfl rfl rfl (Qt.build rfl (by kernel_rfl)) ?_;refine jt 40 rfl rfl (Ld.aT rfl rfl rfl (by exact rfl) (by exact rfl)) (fun _=>?_);refine bz ?_
 rotate_left
 refine JS.bt rfl rfl rfl (qb rfl) (Ld.alloc (qb rfl)) .none (fun _=>?_);refine jl 27 rfl rfl rfl rfl (Ld.dO (qb rfl) rfl rfl .read (by (simp;omega))) .none (fun _=>?_);refine jl 32 rfl rfl rfl rfl (Ld.cT CD (qb rfl) rfl (.cons .refl .nil)) (.ig rfl) (fun _=>?_);refine jl 37 rfl rfl rfl rfl (Ld.dO (qb rfl) rfl rfl .bV (by (simp;omega))) .none (fun _=>?_);refine jk 38 rfl rfl rfl rfl (Qt.build rfl (by kernel_rfl)) ?_;refine jt 40 rfl rfl (Ld.aT rfl rfl rfl (by exact rfl) (by exact rfl)) (fun _=>?_);refine bz ?_
 rotate_left
 refine JS.bt rfl rfl rfl (qb rfl) (Ld.alloc (qb rfl)) .none (fun _=>?_);refine jl 22 rfl rfl rfl rfl (Ld.cT CF (qb rfl) rfl (.cons .refl .nil)) (.dS rfl) (fun _=>?_);refine jl 27 rfl rfl rfl rfl (Ld.dO (qb rfl) rfl rfl .read (by (simp;omega))) .none (fun _=>?_);refine jl 32 rfl rfl rfl rfl (Ld.cT CD (qb rfl) rfl (.cons .refl .nil)) (.ig rfl) (fun _=>?_);refine jl 37 rfl rfl rfl rfl (Ld.dO (qb rfl) rfl rfl .bV (by (simp;omega))) .none (fun _=>?_);refine jk 38 rfl rfl rfl rfl (Qt.build rfl (by kernel_rfl)) ?_;refine jt 40 rfl rfl (Ld.aT rfl rfl rfl (by exact rfl) (by exact rfl)) (fun _=>?_);refine bz ?_
 rotate_left
 refine JS.bt rfl rfl rfl (qb rfl) (Ld.alloc (qb rfl)) .none (fun _=>?_);refine jl 17 rfl rfl rfl rfl (Ld.cT CM (qb rfl) rfl (.cons .refl .nil)) (.dS rfl) (fun _=>?_);refine jl 22 rfl rfl rfl rfl (Ld.cT CF (qb rfl) rfl (.cons .refl .nil)) (.dS rfl) (fun _=>?_);refine jl 27 rfl rfl rfl rfl (Ld.dO (qb rfl) rfl rfl .read (by (simp;omega))) .none (fun _=>?_);refine jl 32 rfl rfl rfl rfl (Ld.cT CD (qb rfl) rfl (.cons .refl .nil)) (.ig rfl) (fun _=>?_);refine jl 37 rfl rfl rfl rfl (Ld.dO (qb rfl) rfl rfl .bV (by (simp;omega))) .none (fun _=>?_);refine jk 38 rfl rfl rfl rfl (Qt.build rfl (by kernel_rfl)) ?_;refine jt 40 rfl rfl (Ld.aT rfl rfl rfl (by exact rfl) (by exact rfl)) (fun _=>?_);refine bz ?_
 rotate_left
 refine JS.bt rfl rfl rfl (qb rfl) (Ld.alloc (qb rfl)) .none (fun _=>?_);refine jl 12 rfl rfl rfl rfl (Ld.dO (qb rfl) rfl rfl .bV (by (simp;omega))) .none (fun _=>?_);refine jl 17 rfl rfl rfl rfl (Ld.cT CM (qb rfl) rfl (.cons .refl .nil)) (.dS rfl) (fun _=>?_);refine jl 22 rfl rfl rfl rfl (Ld.cT CF (qb rfl) rfl (.cons .refl .nil)) (.dS rfl) (fun _=>?_);refine jl 27 rfl rfl rfl rfl (Ld.dO (qb rfl) rfl rfl .read (by (simp;omega))) .none (fun _=>?_);refine jl 32 rfl rfl rfl rfl (Ld.cT CD (qb rfl) rfl (.cons .refl .nil)) (.ig rfl) (fun _=>?_);refine jl 37 rfl rfl rfl rfl (Ld.dO (qb rfl) rfl rfl .bV (by (simp;omega))) .none (fun _=>?_);refine jk 38 rfl rfl rfl rfl (Qt.build rfl (by kernel_rfl)) ?_;refine jt 40 rfl rfl (Ld.aT rfl rfl rfl (by exact rfl) (by exact rfl)) (fun _=>?_);refine bz ?_
 rotate_left
 all_goals
  exact (rest _).aQ ⟨rfl,rfl,rfl,trivial⟩
end Fl
end Go.Proofs.YtgjpdogjekmemaaGreat
