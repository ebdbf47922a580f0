/-
  What the laws need, part Q9.
  Conditions: none.
-/
import Derived.Test.YtdibmkjoaghafaaQ8
import Derived.Deep.DrawnRows
set_option linter.unusedVariables false
set_option linter.unusedSimpArgs false
set_option linter.unnecessarySimpa false
set_option maxHeartbeats 2000000
namespace Go.Proofs.Ytdibmkjoaghafaa
open Go.RowKit
namespace Fl
set_option maxRecDepth 100000
theorem t_sortPt (v:Value) (l:List Ta.Pt) (hs:l.length≤100000):Con Try.prog 33 [.c (.v v),.c (.v (.func (.func 34) #[] #[]))] [.row v 58 3 (l.map ePt)] (fun _:Unit=>(.tup [],[.row v 58 3 ((Ss.srt (fun e:Ta.Pt=>e.step) l).map ePt)])):=by
 refine Con.intro Try.func33 rfl rfl rfl (fun ok e=>?_)
 repeat (first | refine gmQ ?_ | intro _)
 rename_i b;refine jq rfl rfl rfl (Qt.mkFun rfl) ?_;have CS:=s_sortPt (CmpFn.box (t_cmpPt b)) (fun _=>rfl) v l hs
 repeat (first | (refine K.call ?_;refine JO.ld (Ld.callF [] (fun _=>[.box b 89 (vs [.func (.func 34) #[] #[]]),.row v 58 3 ((Ss.srt (fun e:Ta.Pt=>e.step) l).map ePt)]) CS (List.Perm.swap _ _ _) (fun _=>List.Perm.swap _ _ _) (qb rfl) rfl (.cons .refl (.cons .refl .nil))) rfl (fun _=>?_)) | refine gn ?_)
 (exact J.finE [_] rfl Try.func33 rfl .nil () (by exact .refl) rfl)
theorem t_putPt (l:List Ta.Pt) (e:Ta.Pt) (hs:l.length≤1000):Pure Try.prog 44 [.c (.r 3 (l.map ePt)),.agg (ePt e)] (.c (.r 3 ((Ss.ins (fun e:Ta.Pt=>e.step) l e).map ePt))):=by
 refine Con.intro Try.func44 rfl rfl rfl (fun ok e0=>?_)
 repeat (first | refine gmQ ?_ | intro _)
 rename_i b;refine J.joinS2 (ι:={ q:List Ta.Pt × List Ta.Pt // l=q.1 ++ q.2∧(∀ y∈q.2,e.step < y.step)∧(q.1=[]∨∃ A' a,q.1=A' ++ [a]∧a.step≤e.step) }) (fun q=>[(5,.c (nI q.1.1.length)),(0,.c (.r 3 (l.map ePt))),(3,.c (.v (.pointer (some ⟨b,0,none⟩))))]) (fun q=>[.box b 64 (ePt e)]) (fun q=>?_) (fun KK rest=>?_)
 ·obtain ⟨⟨A1,B1⟩,e1,e2,e3⟩:=q;simp only at e1 e2 e3 ⊢;have ei:=Ss.ins_app (key:=fun e:Ta.Pt=>e.step) e A1 B1 e2 e3;rw [← e1] at ei;have ll:l.length=A1.length + B1.length:=by rw [e1];simp
  have lm:(l.map ePt).length=l.length:=List.length_map ..;have h1:((l.map ePt).take ((A1.length:Int)).toNat).drop (0:Int).toNat=A1.map ePt:=by rw [Int.toNat_natCast,e1];simp
  have h2:((l.map ePt).take (((l.map ePt).length:Int)).toNat).drop ((A1.length:Int)).toNat=B1.map ePt:=by rw [Int.toNat_natCast,Int.toNat_natCast,List.take_length,e1];simp
  rw [ei];have la:(A1.map ePt).length=A1.length:=List.length_map ..;have lb:(B1.map ePt).length=B1.length:=List.length_map ..
  repeat ((refine J.seq ?_))
  refine J.draw (by kernel_rfl) rfl ?_;refine JW.base none ?_;refine tk 1 ?_;refine tk 2 ?_;refine JD.take 3 rfl rfl (by kernel_rfl) rfl (qb rfl) ((Qt.sliceR rfl rfl rfl (by omega) (by omega) (by omega)).eq (congrArg (fun z=>D.c (A.r 3 z)) h1)) rfl ?_;refine tk 5 ?_;refine JD.each2 (i:=0) (j:=6) (by kernel_rfl) ?_ ?_;refine JS.loud rfl rfl rfl (qb rfl) (Ld.lit0 (qb rfl)) .none (fun _=>?_);refine JD.each2 (i:=4) (j:=6) (by kernel_rfl) ?_ ?_;refine JS.loud rfl rfl rfl (qb rfl) (Ld.appOw (qb rfl) rfl rfl .read (by (simp;omega))) (by (exact .row (by repeat ((exact .refl))))) (fun _=>?_);refine jl 6 rfl rfl rfl rfl (Ld.lit1 (qb rfl) rfl rfl rfl rfl rfl) .none (fun _=>?_);refine jl 7 rfl rfl rfl rfl (Ld.appOw (qb rfl) rfl rfl .ownC (by (simp;omega))) (by (exact .row (by repeat (first | exact .refl | refine .cons ?_)))) (fun _=>?_);refine jk 8 rfl rfl rfl rfl (Qt.assign rfl) ?_;refine dnQ ?_
  rotate_left
  refine JS.loud rfl rfl rfl (qb rfl) (Ld.lit1 (qb rfl) rfl rfl rfl rfl rfl) .none (fun _=>?_);refine jl 4 rfl rfl rfl rfl (Ld.appOw (qb rfl) rfl rfl .read (by (simp;omega))) (by (exact .row (by repeat (first | exact .refl | refine .cons ?_)))) (fun _=>?_);refine jl 7 rfl rfl rfl rfl (Ld.appOw (qb rfl) rfl rfl .ownC (by (simp;omega))) (by (exact .row (by repeat (first | exact .refl | refine .cons ?_)))) (fun _=>?_);refine jk 8 rfl rfl rfl rfl (Qt.assign rfl) ?_;refine dnQ ?_
  rotate_left
  refine JS.loud rfl rfl rfl (qb rfl) (Ld.lit1 (qb rfl) rfl rfl rfl rfl rfl) .none (fun _=>?_);refine jl 0 rfl rfl rfl rfl (Ld.lit0 (qb rfl)) .none (fun _=>?_);refine jl 4 rfl rfl rfl rfl (Ld.appOw (qb rfl) rfl rfl .read (by (simp;omega))) (by (exact .row (by repeat (first | exact .refl | refine .cons ?_)))) (fun _=>?_);refine jl 7 rfl rfl rfl rfl (Ld.appOw (qb rfl) rfl rfl .ownC (by (simp;omega))) (by (exact .row (by repeat (first | exact .refl | refine .cons ?_)))) (fun _=>?_);refine jk 8 rfl rfl rfl rfl (Qt.assign rfl) ?_;refine dnQ ?_
  rotate_left
  all_goals
   repeat (first | (refine K.slice ?_;refine jq rfl rfl rfl ((Qt.sliceR rfl rfl rfl (by omega) (by omega) (by omega)).eq (congrArg (fun z=>D.c (A.r 3 z)) h2)) ?_) | (refine K.bi ?_;refine JO.ld (Ld.appRw (qb rfl) rfl rfl .read (by (simp;omega))) rfl (fun _=>?_)) | refine gn ?_)
   refine J.ret Try.func44 rfl (.cons (.tmp rfl) .nil) () (.of_eq ?_) [] .nil rfl rfl;simp;rfl
 ·refine J.loop (ι:={ q:List Ta.Pt × List Ta.Pt // l=q.1 ++ q.2∧∀ y∈q.2,e.step < y.step }) (fun q=>[(5,.c (nI q.1.1.length)),(0,.c (.r 3 (l.map ePt))),(3,.c (.v (.pointer (some ⟨b,0,none⟩))))]) (fun q=>[.box b 64 (ePt e)]) (fun q=>q.1.1.length) ⟨(l,[]),by simp,by simp⟩ (fun X h=>h.weak ⟨rfl,rfl,rfl,trivial⟩) (fun q ih=>?_);obtain ⟨⟨S1,S2⟩,qS,qx⟩:=q;simp only at qS qx ih ⊢;rcases List.eq_nil_or_concat S1 with h | ⟨S1',z,h⟩
  ·have t2:decide ((S1.length:Int) > 0)=false:=decide_eq_false (by rw [h];simp)
   repeat ((refine J.seq ?_))
   refine J.draw (by kernel_rfl) rfl ?_;refine JW.base none ?_;refine tk 0 ?_;refine JD.take 1 rfl rfl (by kernel_rfl) rfl (qb rfl) (Qt.cmp rfl rfl (congrArg some t2)) rfl ?_;refine tk 2 ?_
   (refine JD.skip 3 rfl rfl (by kernel_rfl) rfl (qb rfl) ?_)
   (refine JD.skip 4 rfl rfl (by kernel_rfl) rfl (qb rfl) ?_)
   (refine JD.skip 5 rfl rfl (by kernel_rfl) rfl (qb rfl) ?_)
   refine JD.skip 6 rfl rfl (by kernel_rfl) rfl (qb rfl) ?_
   (refine JD.skip 7 rfl rfl (by kernel_rfl) rfl (qb rfl) ?_)
   (refine JD.skip 8 rfl rfl (by kernel_rfl) rfl (qb rfl) ?_)
   (refine JD.skip 9 rfl rfl (by kernel_rfl) rfl (qb rfl) ?_)
   (refine JD.skip 10 rfl rfl (by kernel_rfl) rfl (qb rfl) ?_)
   (refine JD.skip 11 rfl rfl (by kernel_rfl) rfl (qb rfl) ?_)
   refine tk 12 ?_;refine dnQ ?_
   repeat (refine gn ?_)
   exact (rest ⟨(S1,S2),qS,qx,.inl h⟩).weak ⟨rfl,rfl,rfl,trivial⟩
  ·rw [List.concat_eq_append] at h;subst h;have l1:(S1' ++ [z]).length=S1'.length + 1:=by simp
   rw [l1];have ll:l.length=S1'.length + 1 + S2.length:=by rw [qS];simp;omega
   have t2:decide (((S1'.length + 1:Nat):Int) > 0)=true:=decide_eq_true (by omega);have w2:IntKind.i64.wrap (((S1'.length + 1:Nat):Int) - 1)=((S1'.length:Nat):Int):=by rw [w64 (by omega) (by omega)];omega
   have a1:l[S1'.length]?=some z:=by rw [qS,show S1' ++ [z] ++ S2=S1' ++ z :: S2 by simp];exact Ss.at_app _ _ _
   have b1:=s_at (enc:=ePt) a1;have z1:(0:Int)≤((S1'.length:Nat):Int):=Int.natCast_nonneg _
   cases t3:decide (z.step > e.step) with
   | true =>
    repeat ((refine J.seq ?_))
    refine J.draw (by kernel_rfl) rfl ?_;refine JW.base none ?_;refine tk 0 ?_;refine JD.take 1 rfl rfl (by kernel_rfl) rfl (qb rfl) (Qt.cmp rfl rfl (congrArg some t2)) rfl ?_;refine tk 2 ?_;refine tk 3 ?_;refine tk 4 ?_
    (refine JD.take 5 rfl rfl (by kernel_rfl) rfl (qb rfl) (Qt.ari rfl rfl rfl w2) rfl ?_)
    (refine JD.take 6 rfl rfl (by kernel_rfl) rfl (qb rfl) (Qt.indexR rfl rfl z1 b1) rfl ?_)
    refine tk 7 ?_;refine tk 8 ?_;refine tk 9 ?_;refine tk 10 ?_
    (refine JD.take 11 rfl rfl (by kernel_rfl) rfl (qb rfl) (Qt.cmp rfl rfl (congrArg some t3)) rfl ?_)
    refine tk 12 ?_;refine dnQ ?_
    repeat (first | (refine K.binOp ?_;refine jq rfl rfl rfl ((Qt.ari rfl rfl rfl w2)) ?_) | refine gn ?_)
    exact (ih ⟨(S1',z :: S2),by rw [qS];simp,by simp only [List.mem_cons];rintro y (rfl | hy);exact of_decide_eq_true t3;exact qx y hy⟩ (by simp)).weak ⟨rfl,rfl,rfl,trivial⟩
   | false =>
    repeat ((refine J.seq ?_))
    refine J.draw (by kernel_rfl) rfl ?_;refine JW.base none ?_;refine tk 0 ?_;refine JD.take 1 rfl rfl (by kernel_rfl) rfl (qb rfl) (Qt.cmp rfl rfl (congrArg some t2)) rfl ?_;refine tk 2 ?_;refine tk 3 ?_;refine tk 4 ?_
    (refine JD.take 5 rfl rfl (by kernel_rfl) rfl (qb rfl) (Qt.ari rfl rfl rfl w2) rfl ?_)
    (refine JD.take 6 rfl rfl (by kernel_rfl) rfl (qb rfl) (Qt.indexR rfl rfl z1 b1) rfl ?_)
    refine tk 7 ?_;refine tk 8 ?_;refine tk 9 ?_;refine tk 10 ?_
    (refine JD.take 11 rfl rfl (by kernel_rfl) rfl (qb rfl) (Qt.cmp rfl rfl (congrArg some t3)) rfl ?_)
    refine tk 12 ?_;refine dnQ ?_
    repeat (refine gn ?_)
    exact (rest ⟨(S1' ++ [z],S2),qS,qx,.inr ⟨S1',z,rfl,by have:=of_decide_eq_false t3;omega⟩⟩).weak ⟨by rw [l1];rfl,rfl,rfl,trivial⟩
end Fl
open Go.RowKit
namespace Ta
def pt1 (k:Nat) (m:Sx.Mk):Pt:=⟨m.arrive,1,k⟩
def pt2 (k:Nat) (m:Sx.Mk):Pt:=⟨m.point,2,k⟩
def ptOf (k:Nat) (m:Sx.Mk):List Pt:=(if (m.arrive != 0)=true then [pt1 k m] else []) ++ (if (m.point != 0)=true then [pt2 k m] else [])
def ptAt (l:List Sx.Mk) (k:Nat):List Pt:=match l[k]? with
 | some m=>ptOf k m
 | none=>[]
def ptsTo (l:List Sx.Mk):Nat→List Pt
 | 0=>[]
 | k + 1=>ptsTo l k ++ ptAt l k
def points (l:List Sx.Mk):List Pt:=Ss.srt (fun e:Pt=>e.step) (ptsTo l l.length)
theorem ptsTo_snoc {l:List Sx.Mk} {k:Nat} {m:Sx.Mk} (h:l[k]?=some m):ptsTo l (k + 1)=ptsTo l k ++ ptOf k m:=by
 rw [ptsTo];unfold ptAt;rw [h]
theorem ptOf_len (k:Nat) (m:Sx.Mk):(ptOf k m).length≤2:=by unfold ptOf;split <;> split <;> simp
theorem ptsTo_len (l:List Sx.Mk):∀ k,(ptsTo l k).length≤2 * k
 | 0=>Nat.le_refl _
 | k + 1=>by
  have:=ptsTo_len l k;have h:(ptAt l k).length≤2:=by unfold ptAt;split;exact ptOf_len _ _;simp
  rw [ptsTo,List.length_append];omega
end Ta
namespace Fl
set_option maxRecDepth 100000
set_option maxHeartbeats 4000000
theorem t_points (l:List Sx.Mk) (hs:l.length≤400):Pure Try.prog 16 [.c (.r 13 (l.map eM))] (.c (.r 3 ((Ta.points l).map ePt))):=by
 refine Con.intro Try.func16 rfl rfl rfl (fun ok e=>?_)
 repeat (refine gn ?_)
 refine J.nilR 58 3 ?_;refine J.loop (ι:={ q:Nat × Value // q.1≤l.length }) (fun q=>[(8,.c (nI q.1.1)),(7,.c (nI l.length)),(6,.c (.r 13 (l.map eM))),(3,.c (.v q.1.2))]) (fun q=>[.row q.1.2 58 3 ((Ta.ptsTo l q.1.1).map ePt)]) (fun q=>l.length - q.1.1) ⟨(0,.slice none 0 0),Nat.zero_le _⟩ (fun X h=>h.weak ⟨rfl,rfl,rfl,rfl,trivial⟩) (fun q ih=>?_);obtain ⟨⟨k,v⟩,hk'⟩:=q;simp only at hk' ih ⊢
 by_cases hk:k < l.length
 ·have t1:decide ((k:Int) < (l.length:Int))=true:=decide_eq_true (by omega);obtain ⟨m,hm⟩:∃ m,l[k]?=some m:=⟨_,List.getElem?_eq_getElem hk⟩
  have AX:=s_at (enc:=eM) hm;have fe:=Ta.ptsTo_len l k;have n1:((Ta.ptsTo l k).map ePt).length=(Ta.ptsTo l k).length:=List.length_map ..;generalize hE:(Ta.ptsTo l k).map ePt=E at n1 ⊢;have fs:=Ta.ptsTo_snoc hm;have ev:Ta.ptOf k m=(if (m.arrive != 0)=true then [Ta.pt1 k m] else []) ++ (if (m.point != 0)=true then [Ta.pt2 k m] else []):=rfl
  cases t2:(m.arrive != 0) <;> cases t3:(m.point != 0)
  all_goals
   rw [ev,t2,t3] at fs
   repeat (first | (refine K.build ?_;first | refine jq rfl rfl rfl (((Qt.build rfl (by kernel_rfl)).eq (show _=D.agg (ePt (Ta.pt1 k m)) from rfl))) ?_ | refine jq rfl rfl rfl (((Qt.build rfl (by kernel_rfl)).eq (show _=D.agg (ePt (Ta.pt2 k m)) from rfl))) ?_) | (refine K.lit ?_;refine JO.ld (Ld.lit1R (qb rfl) rfl rfl rfl rfl rfl) rfl (fun _=>?_)) | (refine K.bi ?_;refine JO.ld (Ld.appOw (qb rfl) rfl rfl .read (by (simp;omega))) rfl (fun _=>?_)) | refine gmQ ?_ | intro _)
   refine J.pullS 3 rfl ?_;refine J.dropN 1 ?_;refine J.congL ?_ ((ih ⟨(k + 1,_),by simp only;omega⟩ (by simp only;omega)).weak ⟨rfl,rfl,rfl,rfl,trivial⟩);simp only;rw [fs,List.map_append,hE];simp
   try rfl
 ·obtain rfl:k=l.length:=by omega
  have t1:decide ((l.length:Int) < (l.length:Int))=false:=decide_eq_false (by omega);have fe:=Ta.ptsTo_len l l.length
  repeat (first | (refine K.call ?_;refine JO.ld (Ld.callA ((t_sortPt v (Ta.ptsTo l l.length) (by omega))) (qb rfl) rfl (by (exact LeDs.cons .refl (.cons .refl .nil)))) rfl ?_;intro _) | refine gn ?_)
  refine J.frzS 2 rfl ?_;exact rtQ Try.func16
theorem t_refPoints (l:List Sx.Mk) (hs:l.length≤400):Pure Try.prog 20 [.c (.r 13 (l.map eM))] (.c (.r 3 ((Ta.points l).map ePt))):=by
 refine Con.intro Try.func20 rfl rfl rfl (fun ok e=>?_)
 repeat (first | (refine K.lit ?_;refine JO.ld (Ld.lit0R (qb rfl)) rfl (fun _=>?_)) | refine gn ?_)
 refine J.loop (ι:={ k:Nat // k≤l.length }) (fun q=>[(9,.c (nI q.1)),(8,.c (nI l.length)),(7,.c (.r 13 (l.map eM))),(3,.c (.r 3 ((Ss.srt (fun e:Ta.Pt=>e.step) (Ta.ptsTo l q.1)).map ePt)))]) (fun q=>[]) (fun q=>l.length - q.1) ⟨0,Nat.zero_le _⟩ (fun X h=>h.weak ⟨rfl,rfl,rfl,rfl,trivial⟩) (fun q ih=>?_);obtain ⟨k,hk'⟩:=q;simp only at hk' ih ⊢
 by_cases hk:k < l.length
 ·have t1:decide ((k:Int) < (l.length:Int))=true:=decide_eq_true (by omega);obtain ⟨m,hm⟩:∃ m,l[k]?=some m:=⟨_,List.getElem?_eq_getElem hk⟩
  have AX:=s_at (enc:=eM) hm;have fe:=Ta.ptsTo_len l k;have fs:=Ta.ptsTo_snoc hm;have ev:Ta.ptOf k m=(if (m.arrive != 0)=true then [Ta.pt1 k m] else []) ++ (if (m.point != 0)=true then [Ta.pt2 k m] else []):=rfl;have hl:(Ss.srt (fun e:Ta.Pt=>e.step) (Ta.ptsTo l k)).length=(Ta.ptsTo l k).length:=Ss.srt_len _;have ih1:=ih ⟨k + 1,by omega⟩ (by simp only;omega);clear ih;simp only at ih1;have C1:=t_putPt (Ss.srt (fun e:Ta.Pt=>e.step) (Ta.ptsTo l k)) (Ta.pt1 k m) (by omega);have C3:=t_putPt (Ss.srt (fun e:Ta.Pt=>e.step) (Ta.ptsTo l k)) (Ta.pt2 k m) (by omega);have hi:=Ss.ins_len (key:=fun e:Ta.Pt=>e.step) (Ta.pt1 k m) (Ss.srt (fun e:Ta.Pt=>e.step) (Ta.ptsTo l k));have C2:=t_putPt (Ss.ins (fun e:Ta.Pt=>e.step) (Ss.srt (fun e:Ta.Pt=>e.step) (Ta.ptsTo l k)) (Ta.pt1 k m)) (Ta.pt2 k m) (by omega)
  cases t2:(m.arrive != 0) <;> cases t3:(m.point != 0)
  ·rw [fs,ev,t2,t3,if_neg (by simp),if_neg (by simp),List.append_nil,List.append_nil] at ih1
   repeat (first | (refine K.indexAddr ?_;refine jx rfl rfl rfl rfl (by omega) (AX) ?_) | (refine K.binOp ?_;first | refine jCQ t1 ?_ | refine jCQ t2 ?_ | refine jCQ t3 ?_ | refine jq rfl rfl rfl (Qt.ari rfl rfl rfl (w64 (by omega) (by omega))) ?_) | refine gmQ ?_ | intro _)
   refine J.dropN 0 ?_;exact ih1.weak ⟨rfl,rfl,rfl,rfl,trivial⟩
  ·rw [fs,ev,t2,t3,if_neg (by simp),if_pos rfl,List.nil_append,Ss.srt_snoc] at ih1
   repeat (first | (refine K.indexAddr ?_;refine jx rfl rfl rfl rfl (by omega) (AX) ?_) | (refine K.binOp ?_;first | refine jCQ t1 ?_ | refine jCQ t2 ?_ | refine jCQ t3 ?_ | refine jq rfl rfl rfl (Qt.ari rfl rfl rfl (w64 (by omega) (by omega))) ?_) | refine jPQ (C3) ?_ | (refine K.build ?_;refine jq rfl rfl rfl (((Qt.build rfl (by kernel_rfl)).eq (show _=D.agg (ePt (Ta.pt2 k m)) from rfl))) ?_) | refine gmQ ?_ | intro _)
   refine J.dropN 0 ?_;exact ih1.weak ⟨rfl,rfl,rfl,rfl,trivial⟩
  ·rw [fs,ev,t2,t3,if_pos rfl,if_neg (by simp),List.append_nil,Ss.srt_snoc] at ih1
   repeat (first | (refine K.indexAddr ?_;refine jx rfl rfl rfl rfl (by omega) (AX) ?_) | (refine K.binOp ?_;first | refine jCQ t1 ?_ | refine jCQ t2 ?_ | refine jCQ t3 ?_ | refine jq rfl rfl rfl (Qt.ari rfl rfl rfl (w64 (by omega) (by omega))) ?_) | refine jPQ (C1) ?_ | (refine K.build ?_;refine jq rfl rfl rfl (((Qt.build rfl (by kernel_rfl)).eq (show _=D.agg (ePt (Ta.pt1 k m)) from rfl))) ?_) | refine gmQ ?_ | intro _)
   refine J.dropN 0 ?_;exact ih1.weak ⟨rfl,rfl,rfl,rfl,trivial⟩
  ·rw [fs,ev,t2,t3,if_pos rfl,if_pos rfl,← List.append_assoc,Ss.srt_snoc,Ss.srt_snoc] at ih1
   repeat (first | (refine K.indexAddr ?_;refine jx rfl rfl rfl rfl (by omega) (AX) ?_) | (refine K.binOp ?_;first | refine jCQ t1 ?_ | refine jCQ t2 ?_ | refine jCQ t3 ?_ | refine jq rfl rfl rfl (Qt.ari rfl rfl rfl (w64 (by omega) (by omega))) ?_) | refine jPQ (C1) ?_ | refine jPQ (C2) ?_ | (refine K.build ?_;first | refine jq rfl rfl rfl (((Qt.build rfl (by kernel_rfl)).eq (show _=D.agg (ePt (Ta.pt1 k m)) from rfl))) ?_ | refine jq rfl rfl rfl (((Qt.build rfl (by kernel_rfl)).eq (show _=D.agg (ePt (Ta.pt2 k m)) from rfl))) ?_) | refine gmQ ?_ | intro _)
   refine J.dropN 0 ?_;exact ih1.weak ⟨rfl,rfl,rfl,rfl,trivial⟩
 ·obtain rfl:k=l.length:=by omega
  have t1:decide ((l.length:Int) < (l.length:Int))=false:=decide_eq_false (by omega)
  repeat (first | refine jCQ t1 ?_ | refine gn ?_)
  exact rtQ Try.func20
end Fl
open Go.RowKit
namespace Fl
set_option maxRecDepth 100000
set_option maxHeartbeats 4000000
theorem t_before (a b:Sx.Mk):Pure Try.prog 54 [.agg (eM a),.agg (eM b)] (.c (bI ((a.re != 0) && decide (a.re < b.call)))):=by
 refine Con.intro Try.func54 rfl rfl rfl (fun ok e=>?_)
 cases t2:(a.re != 0) <;> cases t3:decide (a.re < b.call)
 all_goals
  repeat (first | refine gmQ ?_ | intro _)
  (exact J.retE [_,_] rfl Try.func54 rfl (.cons (.tmp rfl) .nil) () (by exact .refl) rfl)
end Fl
open Go.RowKit Go.ChangeShapes Go.WideShapes Go.Deep
def caseE (w:World) (cs:List Value) (c:Pn.Cs) (U:List Nat):Prop:=cs=[.bool c.send,.int .i64 c.ch,.int .i64 c.v]∧U=[]
def opE (w:World) (cs:List Value) (o:Pn.Op) (U:List Nat):Prop :=
 ∃ vc,cs=[.int .i64 o.kind,.int .i64 o.ch,.int .i64 o.n,.int .i64 o.v,vc,.bool o.els]∧GV caseE 3 w vc o.cases U
theorem caseE_kept:Kept caseE:=⟨fun h _ _=>h,fun h x hx=>by obtain ⟨_,rfl⟩:=h;simp at hx⟩
theorem opE_kept:Kept opE :=
 ⟨fun h k hn=>by obtain ⟨vc,h1,h2⟩:=h;exact ⟨vc,h1,h2.keep caseE_kept k hn⟩,fun h=>by obtain ⟨vc,h1,h2⟩:=h;exact h2.lt⟩
def opsE:World→List Value→List Pn.Op→List Nat→Prop:=rowE opE 6
theorem opsE_kept:Kept opsE:=rowE_kept opE_kept
section
variable {w:World} {ao:Option Addr} {m cap k:Nat} {S:List Nat}
theorem GV.case {l:List Pn.Cs} {c:Pn.Cs} (h:GV caseE 3 w (.slice ao m cap) l S) (hk:l[k]?=some c) :
  ∃ g off,ao=some ⟨g,off,none⟩∧g∈S∧g < w.heap.size∧w.cell? ⟨g,off + k * 3,none⟩=some (.bool c.send)∧w.cell? ⟨g,off + k * 3 + 1,none⟩=some (.int .i64 c.ch)∧w.cell? ⟨g,off + k * 3 + 2,none⟩=some (.int .i64 c.v):=by
 obtain ⟨g,off,cs,U,h1,h2,h3,h4,h5,⟨rfl,_⟩,_⟩:=h.get hk;exact ⟨g,off,h1,h2,h3,h5 0 (by omega),h5 1 (by omega),h5 2 (by omega)⟩
theorem GV.op {l:List Pn.Op} {o:Pn.Op} (h:GV opE 6 w (.slice ao m cap) l S) (hk:l[k]?=some o) :
  ∃ g off vc U,ao=some ⟨g,off,none⟩∧g∈S∧g < w.heap.size∧(w.cell? ⟨g,off + k * 6,none⟩=some (.int .i64 o.kind)∧w.cell? ⟨g,off + k * 6 + 1,none⟩=some (.int .i64 o.ch)∧w.cell? ⟨g,off + k * 6 + 2,none⟩=some (.int .i64 o.n) ∧
   w.cell? ⟨g,off + k * 6 + 3,none⟩=some (.int .i64 o.v)∧w.cell? ⟨g,off + k * 6 + 4,none⟩=some vc∧w.cell? ⟨g,off + k * 6 + 5,none⟩=some (.bool o.els))∧GV caseE 3 w vc o.cases U∧∀ x∈U,x∈S:=by
 obtain ⟨g,off,cs,U,h1,h2,h3,h4,h5,⟨vc,rfl,h6⟩,h7⟩:=h.get hk;exact ⟨g,off,vc,U,h1,h2,h3,⟨h5 0 (by omega),h5 1 (by omega),h5 2 (by omega),h5 3 (by omega),h5 4 (by omega),h5 5 (by omega)⟩,h6,h7⟩
theorem GV.one {α:Type} {E:World→List Value→α→List Nat→Prop} {l:List α} {a:α} (h:GV E 1 w (.slice ao m cap) l S) (hk:l[k]?=some a) :
  ∃ g off v U,ao=some ⟨g,off,none⟩∧g∈S∧g < w.heap.size∧w.cell? ⟨g,off + k,none⟩=some v∧E w [v] a U∧∀ x∈U,x∈S:=by
 obtain ⟨g,off,cs,U,h1,h2,h3,h4,h5,h6,h7⟩:=h.get hk;obtain ⟨v,rfl⟩:=list1 h4;exact ⟨g,off,v,U,h1,h2,h3,by have:=h5 0 (by omega);simpa using this,h6,h7⟩
end
theorem opens_i64:Opens Try.prog 3 (numE .i64) 1:=opens_num Try.underlying3 (by kernel_rfl)
theorem opens_int64:Opens Try.prog 2 (numE .i64) 1:=opens_num Try.underlying2 (by kernel_rfl)
theorem opens_bool:Opens Try.prog 4 bitE 1:=opens_bit Try.underlying4 (by kernel_rfl)
theorem opens_case:Opens Try.prog 87 caseE 3:=by
 refine ⟨by omega,caseE_kept,by kernel_rfl,?_⟩;intro H enc W fuel cs x h;obtain ⟨xs,n,_,_,hl,hxl,hf⟩:=DataW.trod_struct Try.underlying87 h;have hl3:cs.length=3:=hl.trans (by kernel_rfl);obtain ⟨v0,v1,v2,rfl⟩:=list3 hl3;have hx3:xs.length=3:=hxl.trans (by kernel_rfl);have hs:∀ i,i < 3→(xs[i]?).isSome=true:=fun i hi=>by simp [hx3,hi]
 obtain ⟨_,_,a0,U0,e0,_⟩:=opens_bool.field rfl rfl (hs 0 (by omega)) (hf 0 _ rfl);obtain ⟨_,_,a1,U1,e1,_⟩:=opens_i64.field rfl rfl (hs 1 (by omega)) (hf 1 _ rfl);obtain ⟨_,_,a2,U2,e2,_⟩:=opens_int64.field rfl rfl (hs 2 (by omega)) (hf 2 _ rfl);simp at e0 e1 e2;subst e0 e1 e2;exact ⟨rfl,(by intro y hy;simp at hy;rcases hy with rfl | rfl | rfl <;> rfl),⟨a0,a1,a2⟩,[],rfl,rfl⟩
theorem opens_cases:Opens Try.prog 26 (rowE caseE 3) 1:=opens_row Try.underlying26 (by kernel_rfl) opens_case
theorem opens_op:Opens Try.prog 28 opE 6:=by
 refine ⟨by omega,opE_kept,by kernel_rfl,?_⟩;intro H enc W fuel cs x h;obtain ⟨xs,n,_,_,hl,hxl,hf⟩:=DataW.trod_struct Try.underlying28 h;have hl6:cs.length=6:=hl.trans (by kernel_rfl);obtain ⟨v0,v1,v2,v3,v4,v5,rfl⟩:=list6 hl6;have hx6:xs.length=6:=hxl.trans (by kernel_rfl);have hs:∀ i,i < 6→(xs[i]?).isSome=true:=fun i hi=>by simp [hx6,hi]
 obtain ⟨_,_,a0,U0,e0,_⟩:=opens_i64.field rfl rfl (hs 0 (by omega)) (hf 0 _ rfl);obtain ⟨_,_,a1,U1,e1,_⟩:=opens_i64.field rfl rfl (hs 1 (by omega)) (hf 1 _ rfl);obtain ⟨_,_,a2,U2,e2,_⟩:=opens_i64.field rfl rfl (hs 2 (by omega)) (hf 2 _ rfl);obtain ⟨_,_,a3,U3,e3,_⟩:=opens_int64.field rfl rfl (hs 3 (by omega)) (hf 3 _ rfl);obtain ⟨o4,_,a4,U4,vc,e4,h4⟩:=opens_cases.field rfl rfl (hs 4 (by omega)) (hf 4 _ rfl);obtain ⟨_,_,a5,U5,e5,_⟩:=opens_bool.field rfl rfl (hs 5 (by omega)) (hf 5 _ rfl);simp at e0 e1 e2 e3 e4 e5 o4;subst e0 e1 e2 e3 e4 e5;exact ⟨rfl,(by intro y hy;simp at hy;rcases hy with rfl | rfl | rfl | rfl | rfl | rfl <;> first | rfl | assumption),⟨a0,a1,a2,a3,a4,a5⟩,U4,v4,rfl,h4⟩
theorem opens_ops:Opens Try.prog 25 opsE 1:=opens_row Try.underlying25 (by kernel_rfl) opens_op
theorem opens_plan:Opens Try.prog 22 (rowE opsE 1) 1:=opens_row Try.underlying22 (by kernel_rfl) opens_ops
theorem Blk.six {w:World} {g:Nat} {a b c d e f:Value} {t:TypeId} (h:Blk w g [a,b,c,d,e,f] t):(w.cell? ⟨g,0,none⟩=some a∧w.cell? ⟨g,1,none⟩=some b∧w.cell? ⟨g,2,none⟩=some c∧w.cell? ⟨g,3,none⟩=some d∧w.cell? ⟨g,4,none⟩=some e∧w.cell? ⟨g,5,none⟩=some f) ∧
  (w.frozen? ⟨g,0,none⟩=false∧w.frozen? ⟨g,1,none⟩=false∧w.frozen? ⟨g,2,none⟩=false∧w.frozen? ⟨g,3,none⟩=false∧w.frozen? ⟨g,4,none⟩=false∧w.frozen? ⟨g,5,none⟩=false) :=
 ⟨⟨h.cell 0,h.cell 1,h.cell 2,h.cell 3,h.cell 4,h.cell 5⟩,⟨h.free 0,h.free 1,h.free 2,h.free 3,h.free 4,h.free 5⟩⟩
theorem Blk.three {w:World} {g:Nat} {a b c:Value} {t:TypeId} (h:Blk w g [a,b,c] t):(w.cell? ⟨g,0,none⟩=some a∧w.cell? ⟨g,1,none⟩=some b∧w.cell? ⟨g,2,none⟩=some c)∧(w.frozen? ⟨g,0,none⟩=false∧w.frozen? ⟨g,1,none⟩=false∧w.frozen? ⟨g,2,none⟩=false) :=
 ⟨⟨h.cell 0,h.cell 1,h.cell 2⟩,⟨h.free 0,h.free 1,h.free 2⟩⟩
theorem Blk.fresh (w:World) (cs:List Value) (e:TypeId) (b:Nat) (hb:b=w.heap.size):Blk (w.alloc (.cells cs.toArray e)) b cs e:=by subst hb;exact Blk.new w cs e
open Go.RowKit
def resV (r:Md.Res):Array Value:=#[.int .i64 r.code,.int .i64 r.cs,.int .i64 r.v,.bool r.ok,.int .i64 r.n]
def sdV (s:Md.Sd):Array Value:=#[.int .i64 s.ch,.bool s.send,.int .i64 s.v]
def opV (o:Pn.Op) (vc:Value):Array Value:=#[.int .i64 o.kind,.int .i64 o.ch,.int .i64 o.n,.int .i64 o.v,vc,.bool o.els]
theorem Row.tail {w:World} {g off n cap:Nat} {e:TypeId} {xs:List Value} {S:List Nat} (h:Row w (.slice (some ⟨g,off,none⟩) n cap) e 1 n xs S) (hn:1≤n) (ao:Option Addr) (ha:ao=some ⟨g,off,none⟩∧cap=1∨ao=some ⟨g,off + 1,none⟩∧cap≠1) :
  Row w (.slice ao (n - 1) (cap - 1)) e 1 (n - 1) (xs.drop 1) S:=by
 obtain ⟨h0,ao',cap',h1,h2,h3,h4⟩:=h;obtain ⟨rfl,rfl⟩:=by simpa using h1
 rcases h4 with ⟨h4,_⟩ | ⟨g',off',cur,h4,rfl,hb,hl,hc⟩
 ·cases h4
 ·obtain ⟨rfl,rfl⟩:=by simpa using h4
  have hd:∀ j,j < (xs.drop 1).length→cur[off + 1 + j]?=(xs.drop 1)[j]?:=fun j hj=>by
   rw [List.length_drop] at hj;rw [List.getElem?_drop,show off + 1 + j=off + (1 + j) by omega];exact hc _ (by omega)
  rcases ha with ⟨rfl,hc1⟩ | ⟨rfl,hc1⟩
  ·refine ⟨by simp;omega,_,_,rfl,by omega,by omega,.inr ⟨g,off,cur,rfl,rfl,hb,by omega,fun j hj=>?_⟩⟩;rw [List.length_drop] at hj;omega
  ·exact ⟨by simp;omega,_,_,rfl,by omega,by omega,.inr ⟨g,off + 1,cur,rfl,rfl,hb,by omega,hd⟩⟩
def CR (w:World) (v:Value) (cs:List Md.Ch) (N:Nat) (T:List Nat) (Us:List (List Nat)) (col:Nat→Nat):Prop :=
 (∃ xs,Row w v 44 3 cs.length xs T ∧
  ∀ (k:Nat) c U,cs[k]?=some c→Us[k]?=some U→∃ bv,xs[k * 3]?=some (.int .i64 c.cap)∧xs[k * 3 + 1]?=some bv∧xs[k * 3 + 2]?=some (.bool c.closed)∧KR .i64 w bv 2 c.buf U∧c.buf.length≤N) ∧
 Us.length=cs.length∧(∀ x∈T,col x=2)∧∀ (k:Nat) U,Us[k]?=some U→∀ x∈U,col x=4 + k
section
variable {w w':World} {v:Value} {cs:List Md.Ch} {N M:Nat} {T S:List Nat} {Us:List (List Nat)} {col:Nat→Nat}
theorem CR.keep (h:CR w v cs N T Us col) (k:Keeps S w w') (h1:∀ x∈T,x∉S) (h2:∀ U∈Us,∀ x∈U,x∉S):CR w' v cs N T Us col:=by
 obtain ⟨⟨xs,hr,hp⟩,h3,h4,h5⟩:=h;refine ⟨⟨xs,hr.keep k h1,fun i c U a b=>?_⟩,h3,h4,h5⟩;obtain ⟨bv,x0,x1,x2,x3,x4⟩:=hp i c U a b;exact ⟨bv,x0,x1,x2,x3.keep k (h2 U (List.mem_of_getElem? b)),x4⟩
theorem CR.mono (h:CR w v cs N T Us col) (hN:N≤M):CR w v cs M T Us col:=by
 obtain ⟨⟨xs,hr,hp⟩,h3,h4,h5⟩:=h;refine ⟨⟨xs,hr,fun i c U a b=>?_⟩,h3,h4,h5⟩;obtain ⟨bv,x0,x1,x2,x3,x4⟩:=hp i c U a b;exact ⟨bv,x0,x1,x2,x3,by omega⟩
theorem CR.lt (h:CR w v cs N T Us col):(∀ x∈T,x < w.heap.size)∧∀ U∈Us,∀ x∈U,x < w.heap.size:=by
 obtain ⟨⟨xs,hr,hp⟩,h3,_⟩:=h;refine ⟨hr.lt,fun U hU x hx=>?_⟩;obtain ⟨k,hk⟩:=List.mem_iff_getElem?.1 hU;have hkl:k < cs.length:=by rw [← h3];exact (List.getElem?_eq_some_iff.1 hk).1
 obtain ⟨bv,_,_,_,x3,_⟩:=hp k _ U (List.getElem?_eq_getElem hkl) hk;exact x3.lt x hx
theorem CR.shape (h:CR w v cs N T Us col):∃ ao cap,v=.slice ao cs.length cap:=by obtain ⟨⟨xs,hr,_⟩,_⟩:=h;exact hr.shape
theorem CR.le (h:CR w v cs N T Us col):cs.length≤maxLen:=by obtain ⟨⟨xs,hr,_⟩,_⟩:=h;exact hr.le
theorem CR.ne (h:CR w v cs N T Us col):(∀ U∈Us,∀ x∈U,x∉T):=by
 obtain ⟨_,_,h4,h5⟩:=h;intro U hU x hx hT;obtain ⟨k,hk⟩:=List.mem_iff_getElem?.1 hU;have:=h5 k U hk x hx;have:=h4 x hT;omega
theorem CR.get {ao:Option Addr} {m cap k:Nat} {c:Md.Ch} (h:CR w (.slice ao m cap) cs N T Us col) (hk:cs[k]?=some c) :
  ∃ g off bv U,ao=some ⟨g,off,none⟩∧T=[g]∧g < w.heap.size∧w.cell? ⟨g,off + k * 3,none⟩=some (.int .i64 c.cap)∧w.cell? ⟨g,off + k * 3 + 1,none⟩=some bv∧w.cell? ⟨g,off + k * 3 + 2,none⟩=some (.bool c.closed) ∧
   (∀ j,w.frozen? ⟨g,off + j,none⟩=false)∧KR .i64 w bv 2 c.buf U∧Us[k]?=some U∧c.buf.length≤N:=by
 obtain ⟨⟨xs,hr,hp⟩,h3,h4,h5⟩:=h;have hkl:=(List.getElem?_eq_some_iff.1 hk).1;obtain ⟨g,off,rfl,rfl,hg,hc,hf⟩:=hr.cells (by omega);have hlen:=hr.len;have hU:Us[k]?=some Us[k]:=List.getElem?_eq_getElem (by omega);obtain ⟨bv,x0,x1,x2,x3,x4⟩:=hp k c _ hk hU;exact ⟨g,off,bv,Us[k],rfl,rfl,hg,(hc _ (by omega)).trans x0,by have:=(hc (k * 3 + 1) (by omega)).trans x1;rwa [← Nat.add_assoc] at this,by have:=(hc (k * 3 + 2) (by omega)).trans x2;rwa [← Nat.add_assoc] at this,hf,x3,hU,x4⟩
theorem CR.put {g off m cap k:Nat} {c:Md.Ch} {U U':List Nat} {bv':Value} {buf':List Int} (h:CR w (.slice (some ⟨g,off,none⟩) m cap) cs N T Us col) (hk:cs[k]?=some c) (hU:Us[k]?=some U)
  (kp:Keeps U w w') (hr':KR .i64 w' bv' 2 buf' U') (hn:∀ x∈U',x∈U∨w.heap.size≤x) (hM:N≤M) (hb:buf'.length≤M) :
  CR (w'.setCell ⟨g,off + k * 3 + 1,none⟩ bv') (.slice (some ⟨g,off,none⟩) m cap) (cs.set k ⟨c.cap,buf',c.closed⟩) M T (Us.set k U') (fun x=>if x < w.heap.size then col x else 4 + k)∧Keeps (T ++ U) w (w'.setCell ⟨g,off + k * 3 + 1,none⟩ bv'):=by
 have hlt:=h.lt;have hne:=h.ne;obtain ⟨⟨xs,hr,hp⟩,h3,h4,h5⟩:=h;have hkl:=(List.getElem?_eq_some_iff.1 hk).1;have hxl:=hr.len;have hTU:∀ x∈T,x∉U:=fun x hx hu=>hne U (List.mem_of_getElem? hU) x hu hx
 have hr2:=hr.keep kp hTU;obtain ⟨hs,hks⟩:=hr2.stored (k * 3 + 1) (by omega) bv';rw [← Nat.add_assoc] at hs hks;have hTU':∀ x∈U',x∉T:=fun x hx ht=>by
  rcases hn x hx with h | h
  ·exact hTU x ht h
  ·have:=hlt.1 x ht;omega
 have hcol:∀ i A,i≠k→Us[i]?=some A→∀ x∈A,x∉U:=fun i A hi hA x hx hx2=>by
  have:=h5 i A hA x hx;have:=h5 k U hU x hx2;omega
 refine ⟨⟨⟨xs.set (k * 3 + 1) bv',by rw [List.length_set];exact hs,fun i d A a b=>?_⟩,by simp [h3],fun x hx=>?_,fun i A b x hx=>?_⟩,?_⟩
 ·by_cases hi:k=i
  ·subst hi;rw [List.getElem?_set_self hkl] at a;rw [List.getElem?_set_self (by omega)] at b
   cases a;cases b;obtain ⟨bv,x0,x1,x2,x3,x4⟩:=hp k c U hk hU;exact ⟨bv',by rw [List.getElem?_set_ne (by omega)];exact x0,by rw [List.getElem?_set_self (by omega)],by rw [List.getElem?_set_ne (by omega)];exact x2,hr'.keep hks hTU',hb⟩
  ·rw [List.getElem?_set_ne hi] at a b;obtain ⟨bv,x0,x1,x2,x3,x4⟩:=hp i d A a b;exact ⟨bv,by rw [List.getElem?_set_ne (by omega)];exact x0,by rw [List.getElem?_set_ne (by omega)];exact x1,by rw [List.getElem?_set_ne (by omega)];exact x2,
    (x3.keep kp (hcol i A (fun e=>hi e.symm) b)).keep hks (hne A (List.mem_of_getElem? b)),by omega⟩
 ·have:=hlt.1 x hx;simp [this,h4 x hx]
 ·by_cases hi:k=i
  ·subst hi;rw [List.getElem?_set_self (by omega)] at b
   cases b
   by_cases hx2:x < w.heap.size
   ·rcases hn x hx with h | h
    ·simp [hx2,h5 k U hU x h]
    ·omega
   ·simp [hx2]
  ·rw [List.getElem?_set_ne hi] at b;have:=hlt.2 A (List.mem_of_getElem? b) x hx;simp [this,h5 i A b x hx]
 ·exact (kp.mono (T:=T ++ U) (fun x hx=>.inl (by simp [hx]))).trans (hks.mono (T:=T ++ U) (fun x hx=>.inl (by simp [hx]))) (fun x hx=>.inl hx)
theorem CR.shut {g off m cap k:Nat} {c:Md.Ch} (h:CR w (.slice (some ⟨g,off,none⟩) m cap) cs N T Us col) (hk:cs[k]?=some c) :
  CR (w.setCell ⟨g,off + k * 3 + 2,none⟩ (.bool true)) (.slice (some ⟨g,off,none⟩) m cap) (cs.set k ⟨c.cap,c.buf,true⟩) N T Us col∧Keeps T w (w.setCell ⟨g,off + k * 3 + 2,none⟩ (.bool true)):=by
 have hne:=h.ne;obtain ⟨⟨xs,hr,hp⟩,h3,h4,h5⟩:=h;have hkl:=(List.getElem?_eq_some_iff.1 hk).1;have hxl:=hr.len;obtain ⟨hs,hks⟩:=hr.stored (k * 3 + 2) (by omega) (.bool true);rw [← Nat.add_assoc] at hs hks;refine ⟨⟨⟨xs.set (k * 3 + 2) (.bool true),by rw [List.length_set];exact hs,fun i d A a b=>?_⟩,by simp [h3],h4,h5⟩,hks⟩
 by_cases hi:k=i
 ·subst hi;rw [List.getElem?_set_self hkl] at a
  cases a;obtain ⟨bv,x0,x1,x2,x3,x4⟩:=hp k c A hk b;exact ⟨bv,by rw [List.getElem?_set_ne (by omega)];exact x0,by rw [List.getElem?_set_ne (by omega)];exact x1,by rw [List.getElem?_set_self (by omega)],x3.keep hks (hne A (List.mem_of_getElem? b)),x4⟩
 ·rw [List.getElem?_set_ne hi] at a;obtain ⟨bv,x0,x1,x2,x3,x4⟩:=hp i d A a b;exact ⟨bv,by rw [List.getElem?_set_ne (by omega)];exact x0,by rw [List.getElem?_set_ne (by omega)];exact x1,by rw [List.getElem?_set_ne (by omega)];exact x2,x3.keep hks (hne A (List.mem_of_getElem? b)),x4⟩
theorem CR.more {xs:List Value} {v':Value} {T':List Nat} {room:Int} (h3:Us.length=cs.length) (h4:∀ x∈T,col x=2) (h5:∀ (k:Nat) U,Us[k]?=some U→∀ x∈U,col x=4 + k) (hlt:∀ U∈Us,∀ x∈U,x < w.heap.size) (hxl:xs.length=cs.length * 3)
  (hp:∀ (k:Nat) c U,cs[k]?=some c→Us[k]?=some U→∃ bv,xs[k * 3]?=some (.int .i64 c.cap)∧xs[k * 3 + 1]?=some bv∧xs[k * 3 + 2]?=some (.bool c.closed)∧KR .i64 w bv 2 c.buf U∧c.buf.length≤N)
  (hr:Row w' v' 44 3 (cs.length + 1) (xs ++ [.int .i64 room,.slice none 0 0,.bool false]) T') (kp:Keeps T w w') (hn:∀ x∈T',x∈T∨w.heap.size≤x) (hlT:∀ x∈T,x < w.heap.size) :
  CR w' v' (cs ++ [⟨room,[],false⟩]) N T' (Us ++ [[]]) (fun x=>if x < w.heap.size then col x else 2):=by
 refine ⟨⟨_,by rw [List.length_append];exact hr,fun i d A a b=>?_⟩,by simp [h3],fun x hx=>?_,fun i A b x hx=>?_⟩
 ·by_cases hi:i < cs.length
  ·rw [List.getElem?_append_left hi] at a;rw [List.getElem?_append_left (by omega)] at b;obtain ⟨bv,x0,x1,x2,x3,x4⟩:=hp i d A a b;exact ⟨bv,by rw [List.getElem?_append_left (by omega)];exact x0,by rw [List.getElem?_append_left (by omega)];exact x1,by rw [List.getElem?_append_left (by omega)];exact x2,
    x3.keep kp (fun x hx hT=>by have:=h5 i A b x hx;have:=h4 x hT;omega),x4⟩
  ·have hi2:i=cs.length:=by
    have:=(List.getElem?_eq_some_iff.1 a).1;simp at this;omega
   subst hi2;rw [List.getElem?_append_right (by omega)] at a b;simp [h3] at a b;subst a b;refine ⟨.slice none 0 0,?_,?_,?_,KR.nil _ _ _,by simp⟩
   ·rw [List.getElem?_append_right (by omega),hxl];simp
   ·rw [List.getElem?_append_right (by omega),hxl];simp
   ·rw [List.getElem?_append_right (by omega),hxl];simp
 ·by_cases hx2:x < w.heap.size
  ·rcases hn x hx with h | h
   ·simp [hx2,h4 x h]
   ·omega
  ·simp [hx2]
 ·by_cases hi:i < Us.length
  ·rw [List.getElem?_append_left hi] at b;have:=hlt A (List.mem_of_getElem? b) x hx;simp [this,h5 i A b x hx]
  ·rw [List.getElem?_append_right (by omega)] at b
   match i - Us.length,b with
   | 0,b=>simp at b;subst b;cases hx
   | j + 1,b=>simp at b
end
def WM (w:World) (f:Int→Option Value) (ws:Int→Option Pn.Op) (S:List Nat):Prop :=
 ∀ g,match ws g with
  | none=>f g=none
  | some o=>wf64L g∧∃ vc U,f g=some (.agg (opV o vc))∧GV caseE 3 w vc o.cases U∧∀ x∈U,x∈S
theorem WM.keep {w w':World} {f:Int→Option Value} {ws:Int→Option Pn.Op} {S T:List Nat} (h:WM w f ws S) (k:Keeps T w w') (hn:∀ x∈S,x∉T):WM w' f ws S:=by
 intro g;have hg:=h g
 cases hw:ws g with
 | none=>rw [hw] at hg;exact hg
 | some o =>
  rw [hw] at hg;obtain ⟨h0,vc,U,h1,h2,h3⟩:=hg;exact ⟨h0,vc,U,h1,h2.keep caseE_kept k (fun x hx=>hn x (h3 x hx)),h3⟩
theorem WM.none {w:World} {f:Int→Option Value} {ws:Int→Option Pn.Op} {S:List Nat} (h:WM w f ws S) {g:Int} (hg:ws g=.none):f g=.none:=by
 have:=h g;rw [hg] at this;exact this
theorem WM.some {w:World} {f:Int→Option Value} {ws:Int→Option Pn.Op} {S:List Nat} (h:WM w f ws S) {g:Int} {o:Pn.Op} (hg:ws g=.some o):wf64L g∧∃ vc U,f g=.some (.agg (opV o vc))∧GV caseE 3 w vc o.cases U∧∀ x∈U,x∈S:=by
 have:=h g;rw [hg] at this;exact this
theorem WM.inv {w:World} {f:Int→Option Value} {ws:Int→Option Pn.Op} {S:List Nat} (h:WM w f ws S) {g:Int} {v:Value} (hg:f g=.some v):∃ o vc U,ws g=.some o∧v=.agg (opV o vc)∧GV caseE 3 w vc o.cases U∧∀ x∈U,x∈S:=by
 cases hw:ws g with
 | none=>rw [h.none hw] at hg;cases hg
 | some o =>
  obtain ⟨_,vc,U,h1,h2,h3⟩:=h.some hw;rw [h1] at hg
  cases hg;exact ⟨o,vc,U,rfl,rfl,h2,h3⟩
theorem WM.drop {w:World} {f:Int→Option Value} {ws:Int→Option Pn.Op} {S:List Nat} (h:WM w f ws S) (g:Int):WM w (fun c=>if c=g then .none else f c) (Md.drops ws g) S:=by
 intro c;unfold Md.drops
 by_cases e:c=g
 ·simp [e]
 ·simp only [e,if_false];exact h c
theorem WM.add {w:World} {f:Int→Option Value} {ws:Int→Option Pn.Op} {S U:List Nat} (h:WM w f ws S) (g:Int) (hwg:wf64L g) (o:Pn.Op) (vc:Value) (hv:GV caseE 3 w vc o.cases U):WM w (fun c=>if c=g then .some (.agg (opV o vc)) else f c) (fun c=>if c=g then .some o else ws c) (S ++ U):=by
 intro c
 by_cases e:c=g
 ·simp only [e,if_true];exact ⟨hwg,vc,U,rfl,hv,fun x hx=>by simp [hx]⟩
 ·simp only [e,if_false];have hc:=h c
  cases hw:ws c with
  | none=>rw [hw] at hc;exact hc
  | some o'=>rw [hw] at hc;obtain ⟨h0,vc',U',h1,h2,h3⟩:=hc;exact ⟨h0,vc',U',h1,h2,fun x hx=>by simp [h3 x hx]⟩
structure MoAt (w:World) (b bm:Nat) (vc:Value) (st:Md.St) (N:Nat) (S T:List Nat) (Us:List (List Nat)) (SW:List Nat) (f:Int→Option Value) (col:Nat→Nat):Prop where
 blk:Blk w b [vc,.map (some bm)] 80
 chans:CR w vc st.chans N T Us col
 map:MapV Try.prog 3 w bm N f
 wm:WM w f st.waits SW
 cb:col b=0
 cm:col bm=1
 cw:∀ x∈SW,col x=3
 sb:b∈S
 sm:bm∈S
 st:∀ x∈T,x∈S
 su:∀ U∈Us,∀ x∈U,x∈S
 sw:∀ x∈SW,x∈S
 lt:∀ x∈S,x < w.heap.size
def Mo (w:World) (p:Value) (st:Md.St) (N:Nat) (S:List Nat):Prop :=
 ∃ b bm vc T Us SW f col,p=.pointer (some ⟨b,0,none⟩)∧MoAt w b bm vc st N S T Us SW f col
section
variable {w w':World} {b bm:Nat} {vc:Value} {st:Md.St} {N:Nat} {S T X SW:List Nat} {Us:List (List Nat)} {f:Int→Option Value} {col:Nat→Nat} {p:Value}
theorem MoAt.keep (h:MoAt w b bm vc st N S T Us SW f col) (k:Keeps X w w') (hX:∀ x∈S,x∉X):MoAt w' b bm vc st N S T Us SW f col :=
 ⟨h.blk.keep k (hX b h.sb),h.chans.keep k (fun x hx=>hX x (h.st x hx)) (fun U hU x hx=>hX x (h.su U hU x hx)),h.map.keep k (hX bm h.sm),h.wm.keep k (fun x hx=>hX x (h.sw x hx)),h.cb,h.cm,h.cw,h.sb,h.sm,h.st,h.su,h.sw,fun x hx=>Nat.lt_of_lt_of_le (h.lt x hx) k.size⟩
theorem MoAt.then (h:MoAt w b bm vc st N S T Us SW f col) (k:Keeps [] w w'):MoAt w' b bm vc st N S T Us SW f col:=h.keep k (by simp)
theorem Mo.keep (h:Mo w p st N S) (k:Keeps X w w') (hX:∀ x∈S,x∉X):Mo w' p st N S:=by
 obtain ⟨b,bm,vc,T,Us,SW,f,col,h1,h2⟩:=h;exact ⟨b,bm,vc,T,Us,SW,f,col,h1,h2.keep k hX⟩
theorem Mo.then (h:Mo w p st N S) (k:Keeps [] w w'):Mo w' p st N S:=h.keep k (by simp)
theorem Mo.lt (h:Mo w p st N S):∀ x∈S,x < w.heap.size:=by obtain ⟨_,_,_,_,_,_,_,_,_,h2⟩:=h;exact h2.lt
theorem MoAt.cells (h:MoAt w b bm vc st N S T Us SW f col):w.cell? ⟨b,0,none⟩=some vc∧w.cell? ⟨b,1,none⟩=some (.map (some bm))∧w.frozen? ⟨b,0,none⟩=false∧w.frozen? ⟨b,1,none⟩=false :=
 ⟨h.blk.cell 0,h.blk.cell 1,h.blk.free 0,h.blk.free 1⟩
theorem MoAt.nT (h:MoAt w b bm vc st N S T Us SW f col):b∉T∧bm∉T∧b≠bm∧(∀ x∈SW,x∉T∧x≠b∧x≠bm)∧∀ (k:Nat) U,Us[k]?=some U→b∉U∧bm∉U∧(∀ x∈SW,x∉U)∧∀ x∈U,x∉T:=by
 have h1:=h.cb;have h2:=h.cm;obtain ⟨_,_,h4,h5⟩:=h.chans;refine ⟨fun hm=>?_,fun hm=>?_,fun e=>?_,fun x hx=>⟨fun hm=>?_,fun e=>?_,fun e=>?_⟩,fun k U hU=>⟨fun hm=>?_,fun hm=>?_,fun x hx hm=>?_,fun x hx hm=>?_⟩⟩
 ·have:=h4 _ hm;omega
 ·have:=h4 _ hm;omega
 ·subst e;omega
 ·have:=h4 _ hm;have:=h.cw x hx;omega
 ·subst e;have:=h.cw _ hx;omega
 ·subst e;have:=h.cw _ hx;omega
 ·have:=h5 k U hU _ hm;omega
 ·have:=h5 k U hU _ hm;omega
 ·have:=h5 k U hU _ hm;have:=h.cw x hx;omega
 ·have:=h5 k U hU _ hx;have:=h4 x hm;omega
end
def MoTo (S:List Nat) (w w':World) (p:Value) (st:Md.St) (N:Nat):Prop:=∃ S',Mo w' p st N S'∧Keeps S w w'∧∀ x∈S',x∈S∨w.heap.size≤x
theorem MoTo.refl {w w':World} {p:Value} {st:Md.St} {N:Nat} {S:List Nat} (h:Mo w' p st N S) (k:Keeps [] w w'):MoTo S w w' p st N :=
 ⟨S,h,k.mono (by simp),fun x hx=>.inl hx⟩
open Go.RowKit
def SidePost (s:Option Md.Sd) (w:World) (e:Ending) (w':World):Prop:=e=.returned (.tuple #[.agg (sdV (s.getD Md.noSide)),.bool s.isSome])∧Keeps [] w w'
theorem side_ret {s:Option Md.Sd} {w w':World} {t:Md.Sd} (h:s=some t) (k:Keeps [] w w'):SidePost s w (.returned (.tuple #[.agg #[.int .i64 t.ch,.bool t.send,.int .i64 t.v],.bool true])) w':=by
 subst h;exact ⟨rfl,k⟩
theorem side_no {s:Option Md.Sd} {w w':World} (h:s=none) (k:Keeps [] w w'):SidePost s w (.returned (.tuple #[.agg #[.int .i64 0,.bool false,.int .i64 0],.bool false])) w':=by
 subst h;exact ⟨rfl,k⟩
set_option maxHeartbeats 1600000 in
theorem model_sideOf (w:World) (o:Pn.Op) (vc:Value) (U:List Nat) (i:Int) (h:GV caseE 3 w vc o.cases U) :
  Calls Try.prog 42 #[.agg (opV o vc),.int .i64 i] w (SidePost (Md.side o i) w):=by
 have hle:=h.le;unfold maxLen at hle;obtain ⟨ao,cap,rfl⟩:=h.shape;obtain ⟨s,hs⟩:∃ s,Md.side o i=s:=⟨_,rfl⟩
 rw [hs];have HS:=Lib.hid hs;have HO:=Lib.hid h;obtain ⟨kind,ch,n,v,cases,els⟩:=o;simp only [opV] at *;clear h hs
 by_cases h2:kind=2
 ·subst h2
  by_cases hi:i=-1
  ·subst hi
   go_enter Try.func42,Try.ntmps42
   go_wp2_with fail
   refine bodyPost_ret (v:=.tuple #[.agg #[.int .i64 ch,.bool true,.int .i64 v],.bool true]) (by simp [results,Try.results42,go_sem]) rfl ?_;exact side_ret (t:=⟨ch,true,v⟩) (by rw [← HS.out];rfl) (((Keeps.refl [] w).alloc _).alloc _)
  ·have hb:(i == -1)=false:=by simp [hi]
   go_enter Try.func42,Try.ntmps42
   go_wp2_with fail
   refine bodyPost_ret (v:=.tuple #[.agg #[.int .i64 0,.bool false,.int .i64 0],.bool false]) (by simp [results,Try.results42,go_sem]) rfl ?_;exact side_no (by rw [← HS.out];simp [Md.side, *]) (((Keeps.refl [] w).alloc _).alloc _)
 by_cases h4:kind=4
 ·subst h4
  by_cases hi:i=-1
  ·subst hi
   go_enter Try.func42,Try.ntmps42
   go_wp2_with fail
   refine bodyPost_ret (v:=.tuple #[.agg #[.int .i64 ch,.bool true,.int .i64 v],.bool true]) (by simp [results,Try.results42,go_sem]) rfl ?_;exact side_ret (t:=⟨ch,true,v⟩) (by rw [← HS.out];rfl) (((Keeps.refl [] w).alloc _).alloc _)
  ·have hb:(i == -1)=false:=by simp [hi]
   go_enter Try.func42,Try.ntmps42
   go_wp2_with fail
   refine bodyPost_ret (v:=.tuple #[.agg #[.int .i64 0,.bool false,.int .i64 0],.bool false]) (by simp [results,Try.results42,go_sem]) rfl ?_;exact side_no (by rw [← HS.out];simp [Md.side, *]) (((Keeps.refl [] w).alloc _).alloc _)
 by_cases h3:kind=3
 ·subst h3
  by_cases hi:i=-1
  ·subst hi
   go_enter Try.func42,Try.ntmps42
   go_wp2_with fail
   refine bodyPost_ret (v:=.tuple #[.agg #[.int .i64 ch,.bool false,.int .i64 0],.bool true]) (by simp [results,Try.results42,go_sem]) rfl ?_;exact side_ret (t:=⟨ch,false,0⟩) (by rw [← HS.out];rfl) (((Keeps.refl [] w).alloc _).alloc _)
  ·have hb:(i == -1)=false:=by simp [hi]
   go_enter Try.func42,Try.ntmps42
   go_wp2_with fail
   refine bodyPost_ret (v:=.tuple #[.agg #[.int .i64 0,.bool false,.int .i64 0],.bool false]) (by simp [results,Try.results42,go_sem]) rfl ?_;exact side_no (by rw [← HS.out];simp [Md.side, *]) (((Keeps.refl [] w).alloc _).alloc _)
 by_cases h5:kind=5
 ·subst h5
  by_cases hi:i=-1
  ·subst hi
   go_enter Try.func42,Try.ntmps42
   go_wp2_with fail
   refine bodyPost_ret (v:=.tuple #[.agg #[.int .i64 ch,.bool false,.int .i64 0],.bool true]) (by simp [results,Try.results42,go_sem]) rfl ?_;exact side_ret (t:=⟨ch,false,0⟩) (by rw [← HS.out];rfl) (((Keeps.refl [] w).alloc _).alloc _)
  ·have hb:(i == -1)=false:=by simp [hi]
   go_enter Try.func42,Try.ntmps42
   go_wp2_with fail
   refine bodyPost_ret (v:=.tuple #[.agg #[.int .i64 0,.bool false,.int .i64 0],.bool false]) (by simp [results,Try.results42,go_sem]) rfl ?_;exact side_no (by rw [← HS.out];simp [Md.side, *]) (((Keeps.refl [] w).alloc _).alloc _)
 have b2:(kind == 2)=false:=by simp [h2]
 have b4:(kind == 4)=false:=by simp [h4]
 have b3:(kind == 3)=false:=by simp [h3]
 have b5:(kind == 5)=false:=by simp [h5]
 by_cases h9:kind=9
 ·subst h9
  by_cases hi:0≤i
  ·obtain ⟨k,rfl⟩:∃ k:Nat,i=(k:Int):=⟨i.toNat,by omega⟩
   by_cases hk:k < cases.length
   ·obtain ⟨c,hc⟩:∃ c,cases[k]?=some c:=⟨_,List.getElem?_eq_getElem hk⟩
    obtain ⟨g,off,rfl,_,hg,a0,a1,a2⟩:=HO.out.case hc;have HE:Hid (s=some ⟨c.ch,c.send,c.v⟩):=Lib.hid (by rw [← HS.out,Md.side_case rfl (by omega)];simp [hc]);have i0:(0:Int)≤(k:Int):=by omega
    have i1:(k:Int) < (cases.length:Int):=by omega
    clear hc
    go_enter Try.func42,Try.ntmps42
    go_wp2_with fail
    refine bodyPost_ret (v:=.tuple #[.agg #[.int .i64 c.ch,.bool c.send,.int .i64 c.v],.bool true]) (by simp [results,Try.results42,go_sem]) rfl ?_;exact side_ret HE.out ((((Keeps.refl [] w).alloc _).alloc _).alloc _)
   ·have HE:Hid (s=none):=Lib.hid (by rw [← HS.out,Md.side_case rfl (by omega)];simp;omega)
    go_enter Try.func42,Try.ntmps42
    go_wp2_with fail
    refine bodyPost_ret (v:=.tuple #[.agg #[.int .i64 0,.bool false,.int .i64 0],.bool false]) (by simp [results,Try.results42,go_sem]) rfl ?_;exact side_no HE.out (((Keeps.refl [] w).alloc _).alloc _)
  ·have HE:Hid (s=none):=Lib.hid (by rw [← HS.out];simp [Md.side];omega)
   go_enter Try.func42,Try.ntmps42
   go_wp2_with fail
   refine bodyPost_ret (v:=.tuple #[.agg #[.int .i64 0,.bool false,.int .i64 0],.bool false]) (by simp [results,Try.results42,go_sem]) rfl ?_;exact side_no HE.out (((Keeps.refl [] w).alloc _).alloc _)
 ·have b9:(kind == 9)=false:=by simp [h9]
  have HE:Hid (s=none):=Lib.hid (by rw [← HS.out];simp [Md.side, *])
  go_enter Try.func42,Try.ntmps42
  go_wp2_with fail
  refine bodyPost_ret (v:=.tuple #[.agg #[.int .i64 0,.bool false,.int .i64 0],.bool false]) (by simp [results,Try.results42,go_sem]) rfl ?_;exact side_no HE.out (((Keeps.refl [] w).alloc _).alloc _)
open Go.RowKit
theorem model_channel_no (w:World) (b n cap:Nat) (ao:Option Addr) (mv:Value) (ch:Int) (hb:Blk w b [.slice ao n cap,mv] 80) (hn:n≤maxLen) (h:ch < 1∨(n:Int) < ch) :
  Calls Try.prog 36 #[.pointer (some ⟨b,0,none⟩),.int .i64 ch] w fun e w'=>e=.returned (.pointer none)∧w=w':=by
 unfold maxLen at hn;have c0:w.cell? ⟨b,0,none⟩=some (.slice ao n cap):=hb.cell 0
 by_cases h1:ch < 1
 ·go_enter Try.func36,Try.ntmps36
  go_wp2_with fail
  go_ret
  exact ⟨rfl,rfl⟩
 ·have h2:(n:Int) < ch:=by omega
  go_enter Try.func36,Try.ntmps36
  go_wp2_with fail
  go_ret
  exact ⟨rfl,rfl⟩
theorem model_channel (w:World) (b n cap g off k:Nat) (mv:Value) (hb:Blk w b [.slice (some ⟨g,off,none⟩) n cap,mv] 80) (hn:n≤maxLen) (h:k < n) :
  Calls Try.prog 36 #[.pointer (some ⟨b,0,none⟩),.int .i64 ((k:Int) + 1)] w fun e w'=>e=.returned (.pointer (some ⟨g,off + k * 3,none⟩))∧w=w':=by
 unfold maxLen at hn;have c0:w.cell? ⟨b,0,none⟩=some (.slice (some ⟨g,off,none⟩) n cap):=hb.cell 0;have h1:¬ ((k:Int) + 1 < 1):=by omega
 have h2:¬ ((n:Int) < (k:Int) + 1):=by omega
 have i0:(0:Int)≤(k:Int):=by omega
 have i1:(k:Int) < (n:Int):=by omega
 have e1:(k:Int) + 1 - 1=(k:Int):=by omega
 go_enter Try.func36,Try.ntmps36
 go_wp2_with fail
 go_ret
 exact ⟨rfl,rfl⟩
def ResPost (S:List Nat) (w:World) (p:Value) (st:Md.St) (N:Nat) (r:Md.Res) (e:Ending) (w':World):Prop:=e=.returned (.agg (resV r))∧MoTo S w w' p st N
theorem res_ret {S:List Nat} {w w':World} {p:Value} {st st':Md.St} {N:Nat} {r r':Md.Res} (hr:r=r') (hs:st=st') (h:MoTo S w w' p st' N):ResPost S w p st N r (.returned (.agg #[.int .i64 r'.code,.int .i64 r'.cs,.int .i64 r'.v,.bool r'.ok,.int .i64 r'.n])) w':=by
 subst hr hs;exact ⟨rfl,h⟩
set_option maxHeartbeats 1600000 in
theorem model_looks (w:World) (p:Value) (st:Md.St) (N:Nat) (S:List Nat) (o:Pn.Op) (vc:Value) (h:Mo w p st N S) :
  Calls Try.prog 62 #[p,.agg (opV o vc)] w (ResPost S w p st N (Md.looks st.chans o)):=by
 obtain ⟨b,bm,vh,T,Us,SW,f,col,rfl,hm⟩:=h;obtain ⟨ao,cap,rfl⟩:=hm.chans.shape;have hle:=hm.chans.le;obtain ⟨r,hr⟩:∃ r,Md.looks st.chans o=r:=⟨_,rfl⟩
 rw [hr];have HR:=Lib.hid hr;have HM:=Lib.hid hm;clear hr hm;obtain ⟨kind,ch,n,v,cases,els⟩:=o;simp only [opV] at *;have HK:Hid (∀ w',Keeps [] w w'→Mo w' (.pointer (some ⟨b,0,none⟩)) st N S):=Lib.hid (fun w' k=>⟨b,bm,_,T,Us,SW,f,col,rfl,HM.out.then k⟩)
 by_cases hin:1≤ch∧ch≤(st.chans.length:Int)
 ·obtain ⟨k,rfl⟩:∃ k:Nat,ch=(k:Int) + 1:=⟨(ch - 1).toNat,by omega⟩
  have hk:k < st.chans.length:=by omega
  obtain ⟨c,hc,hc2⟩:=Md.chan_some hin.1 hin.2;rw [show ((k:Int) + 1 - 1).toNat=k by omega] at hc2;obtain ⟨g,off,bv,U,rfl,_,hg,a0,a1,a2,_,hb,_,_⟩:=HM.out.chans.get hc2;have hlb:=hb.le;obtain ⟨ab,cb,rfl⟩:=hb.shape;have HC:=Lib.hid hc;clear hc hc2 hb;have hbk:=((HM.out.blk.alloc (.cells #[.int .i64 kind,.int .i64 ((k:Int) + 1),.int .i64 n,.int .i64 v,vc,.bool els] 28)).alloc (.cells #[.int .i64 0,.int .i64 0,.int .i64 0,.bool false,.int .i64 0] 50)).alloc (.cells #[.int .i64 1,.int .i64 (-1),.int .i64 0,.bool true,.int .i64 0] 50);have HBK:=Lib.hid hbk;clear hbk;unfold maxLen at hlb;have A0:∀ x y z:Obj,(((w.alloc x).alloc y).alloc z).cell? ⟨g,off + k * 3,none⟩=some (.int .i64 c.cap):=fun x y z=>((((Keeps.refl [] w).alloc x).alloc y).alloc z).cell a0 (by simp)
  have A1:∀ x y z:Obj,(((w.alloc x).alloc y).alloc z).cell? ⟨g,off + k * 3 + 1,none⟩=some (.slice ab c.buf.length cb):=fun x y z=>((((Keeps.refl [] w).alloc x).alloc y).alloc z).cell a1 (by simp)
  cases h7:(kind == 7) with
  | true =>
   have e7:kind=7:=by simpa using h7
   have HE:Hid (r=⟨1,-1,0,true,(c.buf.length:Int)⟩):=Lib.hid (by rw [← HR.out];simp [Md.looks,HC.out,e7]);clear e7
   go_enter Try.func62,Try.ntmps62
   go_wp2_with fail
   refine (model_channel _ b _ _ g off k _ HBK.out hle hk).mono ?_
   rintro e w1 ⟨rfl,rfl⟩
   go_wp2_with fail
   refine bodyPost_ret (v:=.agg #[.int .i64 1,.int .i64 (-1),.int .i64 0,.bool true,.int .i64 (c.buf.length:Int)]) (by simp [results,Try.results62,go_sem]) rfl ?_;exact res_ret HE.out rfl (MoTo.refl (HK.out _ (((Keeps.refl [] w).alloc _).alloc _ |>.alloc _)) (((Keeps.refl [] w).alloc _).alloc _ |>.alloc _))
  | false =>
   have e7:kind≠7:=by simpa using h7
   have HE:Hid (r=⟨1,-1,0,true,c.cap⟩):=Lib.hid (by rw [← HR.out];simp [Md.looks,HC.out,e7]);clear e7
   go_enter Try.func62,Try.ntmps62
   go_wp2_with fail
   refine (model_channel _ b _ _ g off k _ HBK.out hle hk).mono ?_
   rintro e w1 ⟨rfl,rfl⟩
   go_wp2_with fail
   refine bodyPost_ret (v:=.agg #[.int .i64 1,.int .i64 (-1),.int .i64 0,.bool true,.int .i64 c.cap]) (by simp [results,Try.results62,go_sem]) rfl ?_;exact res_ret HE.out rfl (MoTo.refl (HK.out _ (((Keeps.refl [] w).alloc _).alloc _ |>.alloc _)) (((Keeps.refl [] w).alloc _).alloc _ |>.alloc _))
 ·have hout:ch < 1∨(st.chans.length:Int) < ch:=by omega
  have HE:Hid (r=⟨1,-1,0,true,0⟩):=Lib.hid (by rw [← HR.out];simp [Md.looks,Md.chan_none hout]);have hbk:=((HM.out.blk.alloc (.cells #[.int .i64 kind,.int .i64 ch,.int .i64 n,.int .i64 v,vc,.bool els] 28)).alloc (.cells #[.int .i64 0,.int .i64 0,.int .i64 0,.bool false,.int .i64 0] 50)).alloc (.cells #[.int .i64 1,.int .i64 (-1),.int .i64 0,.bool true,.int .i64 0] 50);have HBK:=Lib.hid hbk;clear hbk
  go_enter Try.func62,Try.ntmps62
  go_wp2_with fail
  refine (model_channel_no _ b _ _ _ _ _ HBK.out hle hout).mono ?_
  rintro e w1 ⟨rfl,rfl⟩
  go_wp2_with fail
  refine bodyPost_ret (v:=.agg #[.int .i64 1,.int .i64 (-1),.int .i64 0,.bool true,.int .i64 0]) (by simp [results,Try.results62,go_sem]) rfl ?_;exact res_ret HE.out rfl (MoTo.refl (HK.out _ (((Keeps.refl [] w).alloc _).alloc _ |>.alloc _)) (((Keeps.refl [] w).alloc _).alloc _ |>.alloc _))
end Go.Proofs.Ytdibmkjoaghafaa
