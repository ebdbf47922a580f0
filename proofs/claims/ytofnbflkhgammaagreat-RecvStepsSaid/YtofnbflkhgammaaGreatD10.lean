/-
  What the laws need, part D10.
  Conditions: none.
-/
import Derived.Test.YtofnbflkhgammaaGreatD9
import Derived.Deep.OwnRows
set_option linter.unusedVariables false
set_option linter.unusedSimpArgs false
set_option linter.unnecessarySimpa false
set_option maxHeartbeats 2000000
namespace Go.Proofs.YtofnbflkhgammaaGreat
open Go.RowKit
namespace Po
def new (size cL:Nat):St:=⟨List.replicate cL [],[],0,List.replicate size false⟩
end Po
theorem KG (w:World) (size cL most:Int) :
  Calls Tryz.prog 175 #[.int .i64 size,.int .i64 cL,.int .i64 most] w fun e w'=>e=.returned (.bool (Po.fits size cL most))∧w=w':=by
 have zm:size < 0∨(0≤size∧64 < size)∨(0≤size∧size≤64∧cL < 0)∨(0≤size∧size≤64∧0≤cL∧8 < cL)∨(0≤size∧size≤64∧0≤cL∧cL≤8∧most < 1)∨(0≤size∧size≤64∧0≤cL∧cL≤8∧1≤most∧16 < most)∨(0≤size∧size≤64∧0≤cL∧cL≤8∧1≤most∧most≤16):=by omega
 obtain ⟨c,hc⟩:∃ c,c=Po.fits size cL most:=⟨_,rfl⟩
 have HC:=Lib.hid hc;rw [← hc];clear hc;rcases zm with h1 | ⟨h1,h2⟩ | ⟨h1,h2,h3⟩ | ⟨h1,h2,h3,h4⟩ | ⟨h1,h2,h3,h4,h5⟩ | ⟨h1,h2,h3,h4,h5,h6⟩ | ⟨h1,h2,h3,h4,h5,h6⟩
 all_goals go_enter Tryz.func175,Tryz.ntmps175
 all_goals go_wp2_with fail
 all_goals go_ret
 all_goals exact ⟨eI (by rw [HC.out,Bool.eq_iff_iff];simp [Po.fits];omega),rfl⟩
theorem NR.made {w:World} {v:Value} {es e:TypeId} {n:Nat} {T:List Nat} (h:Row w v es 1 n (List.replicate n (.slice none 0 0)) T):NR w v es e (List.replicate n []) T (List.replicate n []):=by
 refine ⟨List.replicate n (.slice none 0 0),by simpa using h,by simp,?_,?_,?_⟩
 ·intro k x U l a b c;obtain ⟨_,rfl⟩:=List.getElem?_eq_some_iff.1 a;obtain ⟨_,rfl⟩:=List.getElem?_eq_some_iff.1 b;obtain ⟨_,rfl⟩:=List.getElem?_eq_some_iff.1 c;simp only [List.getElem_replicate];exact IR.nil w e
 ·intro U hU x hx;rw [(List.mem_replicate.1 hU).2] at hx;cases hx
 ·intro i j A B _ hA hB x hx;obtain ⟨_,rfl⟩:=List.getElem?_eq_some_iff.1 hA;simp at hx
theorem KH (z:Value) (n:Nat):madeCells #[z] n=(List.replicate n z).toArray:=by
 apply Array.toList_inj.1;rw [toList_madeCells_one]
def KI (size cL most:Nat) (w:World) (e:Ending) (w':World):Prop :=
 ∃ p S,e=.returned (.tuple #[p,.int .i64 0])∧aq [] w w'∧PS w' p size most (Po.new size cL) S∧∀ k∈S,w.heap.size≤k
theorem KJ {w W:World} {b g h:Nat} {size cL most:Nat} (hw:aq [] w W) (hb:cJ W b [.int .i64 size,.int .i64 most,.slice (some ⟨g,0,none⟩) cL cL,.slice none 0 0,.int .i64 ((0:Nat):Int),.slice (some ⟨h,0,none⟩) size size] 155)
  (hg:Row W (.slice (some ⟨g,0,none⟩) cL cL) 28 1 cL (List.replicate cL (.slice none 0 0)) [g])
  (hh:Row W (.slice (some ⟨h,0,none⟩) size size) 4 1 size (List.replicate size (.bool false)) [h])
  (h1:b≠g) (h2:b≠h) (h3:g≠h) (k1:w.heap.size≤b) (k2:w.heap.size≤g) (k3:w.heap.size≤h) :
  KI size cL most w (.returned (.tuple #[.pointer (some ⟨b,0,none⟩),.int .i64 0])) W:=by
 have kR:(List.replicate cL ([]:List Nat)).flatten=[]:=by
  clear hb hg
  induction cL with
  | zero=>rfl
  | succ n ih=>rw [List.replicate_succ,List.flatten_cons,ih];rfl
 refine ⟨_,b :: ([g] ++ (List.replicate cL ([]:List Nat)).flatten ++ [] ++ [h]),rfl,hw,⟨b,.slice (some ⟨g,0,none⟩) cL cL,.slice none 0 0,.slice (some ⟨h,0,none⟩) size size,[g],List.replicate cL [],[],[h],rfl,hb,NR.made hg,IR.nil _ _,?_,?_,rfl⟩,?_⟩
 ·unfold BR Po.new;simpa using hh
 ·simp only [eY,kR,List.pairwise_cons,List.mem_cons,List.not_mem_nil,or_false,forall_eq_or_imp,forall_eq,List.Pairwise.nil,and_true,List.mem_singleton];simp [h1,h2,h3]
 ·rw [kR];intro k hk;simp at hk;rcases hk with rfl | rfl | rfl <;> assumption
theorem BD (w:World) (z:Value) (n:Nat) (e:TypeId) (b:Nat) (hn:n≤1000) (hb:b=w.heap.size):Row (w.alloc (.cells (Array.replicate n z) e)) (.slice (some ⟨b,0,none⟩) n n) e 1 n (List.replicate n z) [b]:=by
 subst hb;have:=Row.lit w (List.replicate n z) e 1 n (by simp) (by simp [maxLen];omega);simpa using this
theorem KK (w:World) (cs:List Value) (e:TypeId) (b:Nat) (hb:b=w.heap.size):cJ (w.alloc (.cells cs.toArray e)) b cs e:=by subst hb;exact cJ.new w cs e
set_option maxHeartbeats 800000 in
theorem Sv (w:World) (size cL most:Nat) (h1:size≤64) (h2:cL≤8) (h3:1≤most) (h4:most≤16) :
  Calls Tryz.prog 120 #[.int .i64 size,.int .i64 cL,.int .i64 most] w (KI size cL most w):=by
 have KL:∀ w:World,(Instr.makeSlice 33 (.int .i64 (cL:Int)) (.int .i64 (cL:Int))).run Tryz.prog w=.ok (.slice (some ⟨w.heap.size,0,none⟩) cL cL) (w.alloc (.cells (List.replicate cL (.slice none 0 0)).toArray 28)):=fun w=>by
  rw [← KH];exact run_make_row' 33 28 (.slice none 0 0) 24 Tryz.underlying33 (by kernel_rfl) rfl .i64 .i64 cL (by omega) (by omega) w
 have KM:∀ w:World,(Instr.makeSlice 75 (.int .i64 (size:Int)) (.int .i64 (size:Int))).run Tryz.prog w=.ok (.slice (some ⟨w.heap.size,0,none⟩) size size) (w.alloc (.cells (List.replicate size (.bool false)).toArray 4)):=fun w=>by
  rw [← KH];exact run_make_row' 75 4 (.bool false) 1 Tryz.underlying75 (by kernel_rfl) rfl .i64 .i64 size (by omega) (by omega) w
 have hf:Po.fits size cL most=true:=by simp [Po.fits];omega
 go_enter Tryz.func120,Tryz.ntmps120
 go_wp2_with fail
 refine (KG _ _ _ _).mono ?_
 rintro e w1 ⟨rfl,rfl⟩
 rw [hf]
 go_wp2_with fail
 go_region
 all_goals go_wp2_with fail
 all_goals go_ret2
 ·refine KJ (b:=w.heap.size + 1 + 1) (g:=w.heap.size) (h:=w.heap.size + 1) (((((aq.refl [] w).alloc _).alloc _).alloc _).drew) ?_ ?_ ?_ (by omega) (by omega) (by omega) (by omega) (by omega) (by omega)
  ·exact (KK _ _ _ _ (by simp)).drew
  ·exact Row.then (Row.alloc (Row.alloc (BD w _ _ _ _ (by omega) rfl) _) _) (aq.refl [] _).drew
  ·exact Row.then (Row.alloc (BD _ _ _ _ _ (by omega) (by simp)) _) (aq.refl [] _).drew
 ·refine KJ (b:=w.heap.size + 1 + 1) (h:=w.heap.size) (g:=w.heap.size + 1) (((((aq.refl [] w).alloc _).alloc _).alloc _).drew) ?_ ?_ ?_ (by omega) (by omega) (by omega) (by omega) (by omega) (by omega)
  ·exact (KK _ _ _ _ (by simp)).drew
  ·exact Row.then (Row.alloc (BD _ _ _ _ _ (by omega) (by simp)) _) (aq.refl [] _).drew
  ·exact Row.then (Row.alloc (Row.alloc (BD w _ _ _ _ (by omega) rfl) _) _) (aq.refl [] _).drew
def Sw (w:World) (e:Ending) (w':World):Prop:=e=.returned (.tuple #[.pointer none,.int .i64 1])∧w=w'
theorem Sy (w:World) (size cL most:Int) (h:Po.fits size cL most=false) :
  Calls Tryz.prog 120 #[.int .i64 size,.int .i64 cL,.int .i64 most] w (Sw w):=by
 go_enter Tryz.func120,Tryz.ntmps120
 go_wp2_with fail
 refine (KG _ _ _ _).mono ?_
 rintro e w1 ⟨rfl,rfl⟩
 rw [h]
 go_wp2_with fail
 go_ret2
 exact ⟨rfl,rfl⟩
open Go.RowKit
def KO (w w':World) (S:List Nat):Prop:=aq [] w w'∧∀ k∈S,w.heap.size≤k
open Go.RowKit
namespace Qu
theorem Sz {l:List Int} (h:∀ a,l.count a≤1) {i:Nat} (hi:i < l.length):eZ l (l.getD i (-1))=l.getD (i + 1) (-1):=by
 obtain ⟨x,hx⟩:∃ x,l[i]=x:=⟨_,rfl⟩
 have e0:l.getD i (-1)=x:=by rw [List.getD_eq_getElem?_getD,List.getElem?_eq_getElem hi,← hx];rfl
 have e1:l=l.take i ++ x :: l.drop (i + 1):=by rw [← hx,← List.drop_eq_getElem_cons hi,List.take_append_drop]
 have e2:l.getD (i + 1) (-1)=(l.drop (i + 1)).headD (-1):=by rw [List.getD_eq_getElem?_getD,List.headD_eq_head?_getD,List.head?_drop]
 have h3:l.count x=(l.take i).count x + (x :: l.drop (i + 1)).count x:=by
  rw [← List.count_append,← e1]
 have hn:x∉l.take i:=fun hm=>by
  have h1:=List.count_pos_iff.2 hm;have h2:=h x;rw [List.count_cons_self] at h3;omega
 rw [e0,e2];generalize l.take i=a at *;generalize l.drop (i + 1)=b at *;rw [e1,wF hn,eZ,if_pos rfl]
end Qu
set_option maxHeartbeats 1600000 in
theorem SB (w:World) (p:Value) (n:Nat) (R:List (List Int)) (S:List Nat) (k:Int) (h:Qq w p n R S) :
  Calls Tryz.prog 69 #[p,.int .i64 k] w (Eh (Qu.row R k) w):=by
 obtain ⟨b,rfl⟩:=h.shape;have H:=Lib.hid h
 cases hk:Qu.line R k with
 | false =>
  have HF:Hid (Qu.row R k=[]):=Lib.hid (by simp [Qu.row,hk]);clear h
  go_enter Tryz.func69,Tryz.ntmps69
  go_wp2_with fail
  refine (oq _ _ _ _ _ _ H.out).mono ?_
  rintro e w1 ⟨rfl,rfl⟩
  rw [hk]
  go_wp2_with fail
  go_ret
  exact ⟨_,[],rfl,aq.refl _ _,by rw [HF.out];exact IV.nil _,by simp⟩
 | true =>
  obtain ⟨j,rfl,hj⟩:=Qu.Bs hk;obtain ⟨g2,o2,c2,c1,d0,d2⟩:=h.Ey hj;have hv:=h.inv;have hr:=hv.tC;have RG:=hv.uN;have HF:Hid (Qu.row R j=R.getD j []):=Lib.hid (Qu.yU hj);have tq:=fun a=>Nat.le_trans (Qu.count_le hj (R:=R) a) (hv.one a)
  have kE:=fun z hz=>hv.bound z (Qu.qH hj (y:=z) hz)
  have vf:=fun z hz=>Qu.wI hv hj (y:=z) hz
  have hlen:=Qu.Br tq kE;obtain ⟨l,hl⟩:∃ l,R.getD j []=l:=⟨_,rfl⟩
  rw [hl] at tq kE vf hlen d0 d2;rw [hl] at HF;have HO:=Lib.hid tq;have EC:=Lib.hid kE;have SC:=Lib.hid vf;have BE:l.length≤64:=by omega
  have dP:b < w.heap.size:=block_lt_of_cell c1;have HH:Hid (l.headD (-1)=l.getD 0 (-1)):=Lib.hid (by cases l <;> rfl);rw [HH.out] at d0;clear h hv tq kE vf hl hlen
  go_enter Tryz.func69,Tryz.ntmps69
  go_wp2_with fail
  refine (oq _ _ _ _ _ _ H.out).mono ?_
  rintro e w1 ⟨rfl,rfl⟩
  rw [hk];obtain ⟨x0,qD⟩:∃ x,l.getD 0 (-1)=x:=⟨_,rfl⟩
  have SD:=Lib.hid qD;rw [qD] at d0;clear qD
  go_wp2_with (at_make;go_must (refine IZ rO l.length (by omega) ?_ (hC:=rfl));intro w1 r1 k1;have SF:=k1.cell c1 (by simp);have SG:=k1.cell d0 (by simp))
  have rX:=Lib.hid k1;have nv:Hid (IR w1 (.slice (some ⟨w.heap.size,0,none⟩) 0 l.length) 3 (l.take 0) [w.heap.size]):=Lib.hid (by simpa [IR] using r1);clear r1 k1 SF SG
  go_loopw [5,6] (fun v5 v6 wr=>∃ (i:Nat) (T:List Nat),i≤l.length∧v6=.int .i64 (l.getD i (-1))∧aq [] w wr∧IR wr v5 3 (l.take i) T∧∀ x∈T,w.heap.size≤x) (fun v5 _ _=>l.length - wM v5)
  case atStart=>exact ⟨0,[w.heap.size],Nat.zero_le _,by rw [SD.out],rX.out,nv.out,by simp⟩
  case round =>
   obtain ⟨i,T,hi,rfl,cR,fP,hT⟩:=hrel;obtain ⟨li,wP⟩:∃ li,l.take i=li:=⟨_,rfl⟩
   have E3:li.length=i:=by rw [← wP];simp;omega
   rw [wP] at fP;obtain ⟨ao,cap,rfl⟩:=fP.shape;have gQ:=Lib.hid cR;have oz:=Lib.hid fP;have HT:=Lib.hid hT;have KP:=Lib.hid wP;have HLl:=Lib.hid E3;have aaW:li.length≤64:=by omega
   clear fP hT wP
   by_cases ck:i < l.length
   ·have hm:l.getD i (-1)∈l:=by rw [List.getD_eq_getElem?_getD,List.getElem?_eq_getElem ck];simp
    have hb:=EC.out _ hm;obtain ⟨y,hy⟩:=Int.eq_ofNat_of_zero_le hb.1;have Bw:y < n:=by omega
    obtain ⟨g1,o1,c1,e0,sq,_,e2⟩:=(H.out.then gQ.out).Ez Bw;have E4:=Qu.Sz HO.out ck;have vf:=SC.out _ hm;rw [hy] at vf E4 ⊢;rw [vf,E4] at e2;have HS:Hid (l.take (i + 1)=li ++ [(y:Int)]):=Lib.hid (by
     rw [List.take_succ_eq_append_getElem ck,KP.out,← hy,List.getD_eq_getElem?_getD,List.getElem?_eq_getElem ck];rfl)
    obtain ⟨nx,E5⟩:∃ nx,l.getD (i + 1) (-1)=nx:=⟨_,rfl⟩
    have SH:=Lib.hid E5;simp only [E5] at e2;have JY:(y:Int) < (n:Int):=by omega
    have SI:((y:Int) != -1)=true:=by simp
    have aaX:li.length < l.length:=by rw [E3];exact ck
    clear hm hb hy E4 vf E5 cR E3
    go_wp2_with (at_builtin;go_must (refine I0 rO oz.out (by omega) ?_))
    intro kG kF w7 T7 r7 k7 s7;have f0:w7.cell? ⟨b,0,none⟩=some (.slice (some ⟨g1,o1,none⟩) n c1):=k7.cell e0 (fun hm=>by have:=HT.out b hm;omega);have f2:w7.cell? ⟨g1,o1 + y * 3 + 1,none⟩=some (.int .i64 nx):=k7.cell e2 (fun hm=>by have:=HT.out g1 hm;have:=H.out.lt g1 sq;omega);have E6:=Lib.hid (gQ.out.trans k7 (fun x hx=>.inr (HT.out x hx)));have SJ:Hid (IR w7 (.slice kG (li.length + 1) kF) 3 (l.take (i + 1)) T7):=Lib.hid (by rw [HS.out];exact r7);have SK:Hid (∀ x∈T7,w.heap.size≤x):=Lib.hid (fun x hx=>by
     rcases s7 x hx with h | h
     ·exact HT.out x h
     ·have:=gQ.out.size;omega)
    clear r7 k7 s7 e0 e2
    go_wp2_with fail
    go_roundw
    case rel=>exact ⟨i + 1,T7,by omega,by rw [SH.out],E6.out,SJ.out,SK.out⟩
    case measure=>simp [wM];omega
   ·obtain rfl:i=l.length:=by omega
    have tn:l.getD l.length (-1)=-1:=by simp
    rw [tn];have SL:Hid (IV wr (.slice ao li.length cap) l T):=Lib.hid (by have h1:=oz.out.iv;have h2:=KP.out;rw [List.take_length] at h2;rw [← h2] at h1 ⊢;exact h1);clear tn
    go_wp2_with fail
    go_ret
    exact ⟨_,T,rfl,gQ.out,by rw [HF.out];exact SL.out,HT.out⟩
open Go.RowKit
theorem KQ {P:Program} (t e:TypeId) (z:Value) (bytes:Nat) (ht:P.underlying t=some (.slice e)) (SM:(P.info? e).map (fun i=>(i.zero,i.size,i.bytes))=some (some z,3,bytes))
  (n:Nat) (aaY:bytes * n≤281474976710656) (IN:n≤1000) (w:World) :
  (Instr.makeSlice t (.int .i64 (n:Int)) (.int .i64 (n:Int))).run P w=.ok (.slice (some ⟨w.heap.size,0,none⟩) n n) (w.alloc (.cells (madeCells z.cells (n * 3)) e)):=by
 obtain ⟨i,hi,KS⟩:=Option.map_eq_some_iff.1 SM;simp only [Prod.mk.injEq] at KS;obtain ⟨hz,hs,hb⟩:=KS;have pe:(i.bytes:Int) * (n:Int)≤281474976710656:=by
  have h:((i.bytes * n:Nat):Int)≤281474976710656:=by rw [hb];omega
  rwa [Int.natCast_mul] at h
 have hr:=run_make (P:=P) w t e i z ht hi hz .i64 .i64 n n (by omega) (Int.le_refl _) pe (by omega);simp only [Int.toNat_natCast,hs] at hr;exact hr
theorem BF (w:World) (z:Array Value) (n:Nat) (e:TypeId) (b:Nat) (hn:n≤1000) (hb:b=w.heap.size):Row (w.alloc (.cells (madeCells z (n * 3)) e)) (.slice (some ⟨b,0,none⟩) n n) e 3 n (madeCells z (n * 3)).toList [b]:=by
 subst hb;have:=Row.lit w (madeCells z (n * 3)).toList e 3 n (by simp [size_madeCells]) (by simp [maxLen];omega)
 rwa [Array.toArray_toList] at this
theorem zn {α:Type} (a b:α) (N k:Nat) (h:k < N):(List.replicate k a ++ List.replicate (N - k) b).set k a=List.replicate (k + 1) a ++ List.replicate (N - (k + 1)) b:=by
 rw [List.set_append_right _ _ (by simp),List.replicate_succ',List.append_assoc]
 congr 1
 rw [show N - k=(N - (k + 1)) + 1 by omega,List.replicate_succ];simp
theorem c7.SN {w:World} {b g1 o1 c1 g2 o2 c2:Nat} {A B:List (Int × Int × Int)} (h:c7 w b g1 o1 c1 g2 o2 c2 A B) {x:Nat} (hx:x < B.length) (a c d:Int) :
  c7 (((w.setCell ⟨g2,o2 + x * 3,none⟩ (.int .i64 a)).setCell ⟨g2,o2 + x * 3 + 1,none⟩ (.int .i64 c)).setCell ⟨g2,o2 + x * 3 + 2,none⟩ (.int .i64 d)) b g1 o1 c1 g2 o2 c2 A (B.set x (a,c,d)):=by
 have e:=List.getElem?_eq_getElem hx;have h1:=h.l0 e a;have h2:=h1.l1 (x:=x) (t:=(a,B[x].2)) (by simp [hx]) c;have h3:=h2.l2 (x:=x) (t:=(a,c,B[x].2.2)) (by simp [hx]) d;simpa using h3
namespace Qu
theorem E7 (m:Nat):(List.replicate m ([]:List Int)).flatten=[]:=by
 induction m with
 | zero=>rfl
 | succ n ih=>rw [List.replicate_succ,List.flatten_cons,ih];rfl
theorem SO (n m:Nat) (h1:n≤64) (h2:m≤64):Inv n (List.replicate m []) :=
 ⟨h1,by simpa using h2,fun a=>by rw [E7];simp,fun a h=>by rw [E7] at h;simp at h⟩
theorem SQ (n m:Nat):th n (List.replicate m [])=List.replicate n (-1,-1,-1):=by
 symm
 refine Bp (by simp) (fun x hx=>?_);rw [Bq (qG.2 (by rw [E7];simp))];simp [hx]
theorem SS (m:Nat):ln (List.replicate m [])=List.replicate m (-1,-1,0):=by simp [ln,lc]
end Qu
def SU (n m:Nat) (w:World) (e:Ending) (w':World):Prop :=
 ∃ p S,e=.returned (.tuple #[p,.int .i64 0])∧KO w w' S∧Qq w' p n (List.replicate m []) S
def KT (n m:Nat) (w:World) (v:Value) (w':World):Prop :=
 ∃ b g1 g2,v=.pointer (some ⟨b,0,none⟩)∧c7 w' b g1 0 n g2 0 m (List.replicate n (0,0,0)) (List.replicate m (0,0,0))∧KO w w' [b,g1,g2]
theorem KU {w W:World} {n m b g1 g2:Nat} (hb:cJ W b [.slice (some ⟨g1,0,none⟩) n n,.slice (some ⟨g2,0,none⟩) m m] 149)
  (h1:Row W (.slice (some ⟨g1,0,none⟩) n n) 151 3 n (madeCells #[.int .i64 0,.int .i64 0,.int .i64 0] (n * 3)).toList [g1]) (h2:Row W (.slice (some ⟨g2,0,none⟩) m m) 153 3 m (madeCells #[.int .i64 0,.int .i64 0,.int .i64 0] (m * 3)).toList [g2])
  (hk:aq [] w W) (a1:w.heap.size≤b) (a2:w.heap.size≤g1) (a3:w.heap.size≤g2) (d1:b≠g1) (d2:b≠g2) (d3:g1≠g2):KT n m w (.pointer (some ⟨b,0,none⟩)) W:=by
 refine ⟨b,g1,g2,rfl,⟨?_,?_,?_,d1,d2,d3⟩,hk,fun k h=>?_⟩
 ·rw [List.length_replicate,List.length_replicate];exact hb
 ·have:=ER.made qM (x0:=(0,0,0)) rfl (by omega) h1;rw [List.length_replicate];exact this
 ·have:=ER.made qM (x0:=(0,0,0)) rfl (by omega) h2;rw [List.length_replicate];exact this
 ·simp at h;rcases h with rfl | rfl | rfl <;> assumption
set_option maxHeartbeats 1600000 in
theorem SV (w:World) (n m:Nat) (h1:n≤64) (h2:m≤64) :
  Calls Tryz.prog 54 #[.int .i64 n,.int .i64 m] w (SU n m w):=by
 have KL:∀ w:World,(Instr.makeSlice 146 (.int .i64 (n:Int)) (.int .i64 (n:Int))).run Tryz.prog w=.ok (.slice (some ⟨w.heap.size,0,none⟩) n n) (w.alloc (.cells (madeCells #[.int .i64 0,.int .i64 0,.int .i64 0] (n * 3)) 151)):=fun w =>
  KQ 146 151 (.agg #[.int .i64 0,.int .i64 0,.int .i64 0]) 24 Tryz.underlying146 (by kernel_rfl) n (by omega) (by omega) w
 have KM:∀ w:World,(Instr.makeSlice 147 (.int .i64 (m:Int)) (.int .i64 (m:Int))).run Tryz.prog w=.ok (.slice (some ⟨w.heap.size,0,none⟩) m m) (w.alloc (.cells (madeCells #[.int .i64 0,.int .i64 0,.int .i64 0] (m * 3)) 153)):=fun w =>
  KQ 147 153 (.agg #[.int .i64 0,.int .i64 0,.int .i64 0]) 24 Tryz.underlying147 (by kernel_rfl) m (by omega) (by omega) w
 have b1:(n:Int)≤64:=by omega
 have b2:(m:Int)≤64:=by omega
 have z1:decide ((n:Int) < 0)=false:=by simp
 have z2:decide ((m:Int) < 0)=false:=by simp
 have z3:decide ((64:Int) < (n:Int))=false:=by simp;omega
 have z4:decide ((64:Int) < (m:Int))=false:=by simp;omega
 go_enter Tryz.func54,Tryz.ntmps54
 go_upto_region 4 with fail
 go_cut [6] (fun v6 w'=>KT n m w v6 w')
 case first =>
  go_wp2_with fail
  go_region
  all_goals go_wp2_with fail
  all_goals go_meet
  ·exact KU (Bv _ _ _ _ (by simp)).drew (Row.then (Row.alloc (Row.alloc (BF w _ n _ _ (by omega) rfl) _) _) (aq.refl [] _).drew) (Row.then (Row.alloc (BF _ _ m _ _ (by omega) (by simp)) _) (aq.refl [] _).drew) (((((aq.refl [] w).alloc _).alloc _).alloc _).drew) (by omega) (by omega) (by omega) (by omega) (by omega) (by omega)
  ·exact KU (Bv _ _ _ _ (by simp)).drew (Row.then (Row.alloc (BF _ _ n _ _ (by omega) (by simp)) _) (aq.refl [] _).drew) (Row.then (Row.alloc (Row.alloc (BF w _ m _ _ (by omega) rfl) _) _) (aq.refl [] _).drew) (((((aq.refl [] w).alloc _).alloc _).alloc _).drew) (by omega) (by omega) (by omega) (by omega) (by omega) (by omega)
 case rest =>
  obtain ⟨b,g1,g2,rfl,cK,qp⟩:=hcut;have vi:=Lib.hid qp.2;have KV:Hid (c7 wc b g1 0 n g2 0 m (List.replicate 0 (-1,-1,-1) ++ List.replicate (n - 0) (0,0,0)) (List.replicate m (0,0,0))):=Lib.hid (by simpa using cK);have KW:=Lib.hid qp.1;obtain ⟨n1,n2,n3⟩:=(⟨cK.2.2.2.1,cK.2.2.2.2.1,cK.2.2.2.2.2⟩:b≠g1∧b≠g2∧g1≠g2)
  obtain ⟨ot,mJ⟩:=cK.head;rw [List.length_replicate] at ot mJ;clear cK qp KL KM
  go_wp2_with fail
  go_loopw [7,34] (fun _ E8 wr=>∃ i:Nat,i≤n∧E8=.int .i64 i∧c7 wr b g1 0 n g2 0 m (List.replicate i (-1,-1,-1) ++ List.replicate (n - i) (0,0,0)) (List.replicate m (0,0,0))∧aq [] w wr) (fun _ E8 _=>n - (intOf E8).toNat)
  case atStart=>exact ⟨0,Nat.zero_le _,rfl,KV.out,KW.out⟩
  case round =>
   obtain ⟨i,hi,rfl,cK,cR⟩:=hrel;have SW:=Lib.hid cK;have gQ:=Lib.hid cR;obtain ⟨ot,mJ⟩:=cK.head;rw [List.length_replicate] at mJ;have rL:(List.replicate i ((-1:Int),(-1:Int),(-1:Int)) ++ List.replicate (n - i) ((0:Int),(0:Int),(0:Int))).length=n:=by simp;omega
   rw [rL] at ot
   by_cases ck:i < n
   ·have vj:i < (List.replicate i ((-1:Int),(-1:Int),(-1:Int)) ++ List.replicate (n - i) (0,0,0)).length:=by simp;omega
    obtain ⟨tt,zo⟩:∃ tt,(List.replicate i ((-1:Int),(-1:Int),(-1:Int)) ++ List.replicate (n - i) (0,0,0))[i]?=some tt:=⟨_,List.getElem?_eq_getElem vj⟩
    obtain ⟨⟨t0,t1,t2⟩,f0,f1,f2⟩:=cK.aP zo;have HN:=Lib.hid (cK.Ex vj (-1) (-1) (-1));rw [zn _ _ _ _ ck] at HN;rw [Nat.zero_add] at t0 t1 t2 f0 f1 f2 HN;have SX:(i:Int) < (n:Int):=by omega
    clear cK cR vj zo rL
    go_wp2_with fail
    go_roundw
    case rel=>exact ⟨i + 1,by omega,by go_num,HN.out,(((gQ.out.trans ((aq.refl [g1] _).setCell (by simp) _) (fun x hx=>.inr (by simp at hx;subst hx;exact vi.out _ (by simp)))).setCell (.inr (vi.out _ (by simp))) _).setCell (.inr (vi.out _ (by simp))) _)⟩
    case measure=>simp [intOf];omega
   ·obtain rfl:i=n:=by omega
    have nv:Hid (c7 wr b g1 0 i g2 0 m (List.replicate i (-1,-1,-1)) (List.replicate 0 (-1,-1,0) ++ List.replicate (m - 0) (0,0,0))):=Lib.hid (by simpa using cK);obtain ⟨wo,rfl⟩:∃ wo:World,wo=wr:=⟨_,rfl⟩
    clear cK cR KV KW
    go_wp2_with fail
    go_loopw [8,50] (fun _ E9 wr=>∃ j:Nat,j≤m∧E9=.int .i64 j∧c7 wr b g1 0 i g2 0 m (List.replicate i (-1,-1,-1)) (List.replicate j (-1,-1,0) ++ List.replicate (m - j) (0,0,0))∧aq [] w wr) (fun _ E9 _=>m - (intOf E9).toNat)
    case atStart=>exact ⟨0,Nat.zero_le _,rfl,nv.out,gQ.out⟩
    case round =>
     obtain ⟨j,hj,rfl,cK,cR⟩:=hrel;have SW:=Lib.hid cK;have KX:=Lib.hid cR;obtain ⟨ot,mJ⟩:=cK.head;rw [List.length_replicate] at ot;have jX:(List.replicate j ((-1:Int),(-1:Int),(0:Int)) ++ List.replicate (m - j) ((0:Int),(0:Int),(0:Int))).length=m:=by simp;omega
     rw [jX] at mJ
     by_cases ve:j < m
     ·have vj:j < (List.replicate j ((-1:Int),(-1:Int),(0:Int)) ++ List.replicate (m - j) (0,0,0)).length:=by simp;omega
      obtain ⟨tt,zo⟩:∃ tt,(List.replicate j ((-1:Int),(-1:Int),(0:Int)) ++ List.replicate (m - j) (0,0,0))[j]?=some tt:=⟨_,List.getElem?_eq_getElem vj⟩
      obtain ⟨⟨t0,t1,t2⟩,f0,f1,f2⟩:=cK.line zo;have HN:=Lib.hid (cK.SN vj (-1) (-1) 0);rw [zn _ _ _ _ ve] at HN;rw [Nat.zero_add] at t0 t1 t2 f0 f1 f2 HN;have SX:(j:Int) < (m:Int):=by omega
      clear cK cR vj zo jX
      go_wp2_with fail
      go_roundw
      case rel=>exact ⟨j + 1,by omega,by go_num,HN.out,(((KX.out.trans ((aq.refl [g2] _).setCell (by simp) _) (fun x hx=>.inr (by simp at hx;subst hx;exact vi.out _ (by simp)))).setCell (.inr (vi.out _ (by simp))) _).setCell (.inr (vi.out _ (by simp))) _)⟩
      case measure=>simp [intOf];omega
     ·obtain rfl:j=m:=by omega
      have HQ:Hid (Qq wr (.pointer (some ⟨b,0,none⟩)) i (List.replicate j []) [b,g1,g2]):=Lib.hid (by
       have h:c7 wr b g1 0 i g2 0 j (List.replicate i (-1,-1,-1)) (List.replicate j (-1,-1,0)):=by simpa using cK
       exact h.q (Qu.SQ i j).symm (Qu.SS j).symm (Qu.SO i j h1 h2))
      clear cK cR
      go_wp2_with fail
      go_ret2
      exact ⟨_,_,rfl,⟨KX.out,vi.out⟩,HQ.out⟩
open Go.RowKit
namespace Rn
def jL (ps:List Int) (f c:Nat):List Int:=(List.range c).map fun i=>ps.getD ((f + i) % ps.length) 0
theorem KY (ps:List Int) (f c:Nat):(jL ps f c).length=c:=by simp [jL]
theorem SY (N f i c:Nat) (hi:i < c) (hc:c < N):(f + i) % N≠(f + c) % N:=by
 intro h;have h1:=Nat.div_add_mod (f + i) N;have h2:=Nat.div_add_mod (f + c) N;rw [h] at h1;have h3:N * ((f + c) / N)=N * ((f + i) / N) + (c - i):=by omega
 have h4:(f + c) / N=(f + i) / N∨(f + i) / N + 1≤(f + c) / N:=by
  rcases Nat.lt_or_ge ((f + i) / N) ((f + c) / N) with h | h
  ·right;omega
  ·left
   have:=Nat.div_le_div_right (c:=N) (show f + i≤f + c by omega);omega
 rcases h4 with h4 | h4
 ·rw [h4] at h3;omega
 ·have:=Nat.mul_le_mul_left N h4;rw [Nat.mul_add] at this;omega
theorem getD_set_ne (l:List Int) (i j:Nat) (v:Int) (h:i≠j):(l.set i v).getD j 0=l.getD j 0:=by
 simp [List.getD,h]
theorem SZ (l:List Int) (i:Nat) (v:Int) (h:i < l.length):(l.set i v).getD i 0=v:=by
 simp [List.getD,h]
theorem put (ps:List Int) (f c:Nat) (v:Int) (h:c < ps.length):jL (ps.set ((f + c) % ps.length) v) f (c + 1)=jL ps f c ++ [v]:=by
 have hp:0 < ps.length:=by omega
 unfold jL;rw [List.range_succ,List.map_append]
 congr 1
 ·apply List.map_congr_left;intro i hi;have qh:i < c:=by simpa using hi
  rw [List.length_set,getD_set_ne _ _ _ _ (fun e=>SY ps.length f i c qh h e.symm)]
 ·simp only [List.map_cons,List.map_nil,List.length_set];rw [SZ _ _ _ (Nat.mod_lt _ hp)]
theorem start (l:List Int) (N:Nat) (h:l.length≤N):jL (l ++ List.replicate (N - l.length) 0) 0 l.length=l:=by
 apply List.ext_getElem
 ·simp [jL]
 ·intro i h1 h2;simp only [jL,List.getElem_map,List.getElem_range,List.length_append,List.length_replicate];rw [Nat.zero_add,Nat.mod_eq_of_lt (by omega)];rw [List.getD_eq_getElem?_getD,List.getElem?_append_left h2];simp [h2]
def wQ (N:Nat) (l:List Int) (v:Int):List Int:=if l.length < N then l ++ [v] else l
end Rn
open Go.RowKit
theorem BH:j9 Tryz.prog 70 2 1 8 (.int .i64 0):=⟨Tryz.underlying70,by kernel_rfl,rfl,by decide,by decide⟩
def Rg (w:World) (p:Value) (N:Nat) (l:List Int) (S:List Nat):Prop :=
 ∃ b v T ps f,p=.pointer (some ⟨b,0,none⟩)∧cJ w b [v,.int .i64 ((f:Nat):Int),.int .i64 l.length] 162∧IR w v 2 ps T∧b∉T∧S=b :: T ∧
  ps.length=N∧N≤64∧l=Rn.jL ps f l.length∧l.length≤N∧(f < N∨(N=0∧f=0))
section
variable {w w':World} {p:Value} {N:Nat} {l:List Int} {S T:List Nat}
theorem Rg.aY (h:Rg w p N l S) (k:aq T w w') (hn:∀ x∈S,x∉T):Rg w' p N l S:=by
 obtain ⟨b,v,U,ps,f,rfl,hb,hr,hd,rfl,h⟩:=h;exact ⟨b,v,U,ps,f,rfl,hb.aY k (hn b (by simp)),hr.aY k (fun x hx=>hn x (by simp [hx])),hd,rfl,h⟩
theorem Rg.then (h:Rg w p N l S) (k:aq [] w w'):Rg w' p N l S:=h.aY k (by simp)
theorem Rg.drewN (h:Rg w p N l S) (n:Nat):Rg (w.drewN n) p N l S:=h.then ((aq.refl [] w).drewN n)
theorem Rg.lt (h:Rg w p N l S):∀ k∈S,k < w.heap.size:=by
 obtain ⟨b,v,U,ps,f,rfl,hb,hr,hd,rfl,h⟩:=h;intro k hk;rcases List.mem_cons.1 hk with rfl | hk
 ·exact hb.lt
 ·exact hr.lt k hk
theorem Rg.shape (h:Rg w p N l S):∃ b,p=.pointer (some ⟨b,0,none⟩):=by obtain ⟨b,_,_,_,_,rfl,_⟩:=h;exact ⟨b,rfl⟩
theorem Rg.le (h:Rg w p N l S):l.length≤N∧N≤64:=by obtain ⟨b,_,_,_,_,rfl,_,_,_,_,_,h1,_,h2,_⟩:=h;exact ⟨h2,h1⟩
end
theorem S0 (w:World) (p:Value) (N:Nat) (l:List Int) (S:List Nat) (h:Rg w p N l S) :
  Calls Tryz.prog 66 #[p] w fun e w'=>e=.returned (.int .i64 N)∧w=w':=by
 obtain ⟨b,v,U,ps,f,rfl,hb,hr,hd,rfl,rfl,oA,hl,hle,hf⟩:=h;obtain ⟨ao,cap,rfl⟩:=hr.shape;have c0:w.cell? ⟨b,0,none⟩=some (.slice ao ps.length cap):=hb.cell 0;have hm:ps.length≤9223372036854775807:=by omega
 clear hb hr hd oA hl hle hf
 go_enter Tryz.func66,Tryz.ntmps66
 go_wp2
 go_ret
 exact ⟨rfl,rfl⟩
theorem Fa (w:World) (p:Value) (N:Nat) (l:List Int) (S:List Nat) (h:Rg w p N l S) :
  Calls Tryz.prog 172 #[p] w fun e w'=>e=.returned (.bool (decide (l.length=N)))∧∃ m,w'=w.drewN m:=by
 obtain ⟨b,v,U,ps,f,rfl,hb,hr,hd,rfl,rfl,oA,hl,hle,hf⟩:=h;obtain ⟨ao,cap,rfl⟩:=hr.shape;have c0:w.cell? ⟨b,0,none⟩=some (.slice ao ps.length cap):=hb.cell 0;have c2:w.cell? ⟨b,2,none⟩=some (.int .i64 l.length):=hb.cell 2;clear hb hr hd hl
 go_enter Tryz.func172,Tryz.ntmps172
 go_wp2_with fail
 go_quiet (fail)
 go_wp2
 go_ret
 exact ⟨eI (by rw [Bool.eq_iff_iff];simp;omega),_,rfl⟩
theorem KZ (w:World) (b:Nat) (ao:Option Addr) (n cap f i:Nat) (c0:w.cell? ⟨b,0,none⟩=some (.slice ao n cap)) (c1:w.cell? ⟨b,1,none⟩=some (.int .i64 f)) (hf:f < n) (hn:n≤64) (hi:i≤64) :
  Calls Tryz.prog 132 #[.pointer (some ⟨b,0,none⟩),.int .i64 (i:Int)] w fun e w'=>e=.returned (.int .i64 (((f + i) % n:Nat):Int))∧∃ m,w'=w.drewN m:=by
 have hnz:((n:Int) == 0)=false:=by simp;omega
 have K7:(0:Int) < n:=by omega
 have hf0:(f:Int)≤64:=by omega
 go_enter Tryz.func132,Tryz.ntmps132
 go_wp2_with fail
 go_quiet (fail)
 go_wp2
 go_ret
 exact ⟨by simp,_,rfl⟩
def Raw (w:World) (b g off cap:Nat) (ps:List Int) (f c:Int):Prop :=
 cJ w b [.slice (some ⟨g,off,none⟩) ps.length cap,.int .i64 f,.int .i64 c] 162∧IR w (.slice (some ⟨g,off,none⟩) ps.length cap) 2 ps [g]∧b≠g
theorem Raw.draw {w:World} {b g off cap:Nat} {ps:List Int} {f c:Int} (h:Raw w b g off cap ps f c) (n:Nat):Raw (w.drewN n) b g off cap ps f c:=h
theorem Raw.put {w:World} {b g off cap:Nat} {ps:List Int} {f c:Int} (h:Raw w b g off cap ps f c) (j:Nat) (hj:j < ps.length) (v:Int) :
  Raw (w.setCell ⟨g,off + j,none⟩ (.int .i64 v)) b g off cap (ps.set j v) f c:=by
 obtain ⟨h1,h2,h3⟩:=h;refine ⟨?_,?_,h3⟩
 ·rw [List.length_set];exact h1.other h3 _
 ·rw [List.length_set];exact (h2.stored j hj v).1
theorem Raw.count {w:World} {b g off cap:Nat} {ps:List Int} {f c:Int} (h:Raw w b g off cap ps f c) (c':Int):Raw (w.setCell ⟨b,2,none⟩ (.int .i64 c')) b g off cap ps f c' :=
 ⟨by simpa using h.1.set 2 (.int .i64 c'),h.2.1.aY ((aq.refl [b] w).setCell (p:=⟨b,2,none⟩) (by simp) _) (by simp [h.2.2.symm]),h.2.2⟩
theorem Raw.rg {w:World} {b g off cap:Nat} {ps:List Int} {f:Nat} {c:Int} (h:Raw w b g off cap ps f c) {N:Nat} (hN:N=ps.length) (l:List Int) (hc:c=(l.length:Int)) (oA:N≤64) (hl:l=Rn.jL ps f l.length) (hle:l.length≤N) (hf:f < N) :
  Rg w (.pointer (some ⟨b,0,none⟩)) N l [b,g]:=by
 subst hc;subst hN;exact ⟨b,_,[g],ps,f,rfl,h.1,h.2.1,by simpa using h.2.2,rfl,rfl,oA,hl,hle,.inl hf⟩
theorem Raw.cells {w:World} {b g off cap:Nat} {ps:List Int} {f c:Int} (h:Raw w b g off cap ps f c) :
  w.cell? ⟨b,0,none⟩=some (.slice (some ⟨g,off,none⟩) ps.length cap)∧w.cell? ⟨b,1,none⟩=some (.int .i64 f)∧w.cell? ⟨b,2,none⟩=some (.int .i64 c)∧w.frozen? ⟨b,1,none⟩=false∧w.frozen? ⟨b,2,none⟩=false :=
 ⟨h.1.cell 0,h.1.cell 1,h.1.cell 2,h.1.free 1,h.1.free 2⟩
theorem Raw.place {w:World} {b g off cap:Nat} {ps:List Int} {f c:Int} (h:Raw w b g off cap ps f c) (j:Nat) (hj:j < ps.length) :
  w.cell? ⟨g,off + j,none⟩=some (.int .i64 (ps.getD j 0))∧w.frozen? ⟨g,off + j,none⟩=false:=by
 obtain ⟨g',xZ,e,_,_,hc,hf⟩:=h.2.1.cells (by omega);obtain ⟨rfl,rfl⟩:=by simpa using e
 exact ⟨hc j hj,hf j⟩
theorem Rg.raw {w:World} {b N:Nat} {l:List Int} {S:List Nat} (h:Rg w (.pointer (some ⟨b,0,none⟩)) N l S) (hN:0 < N) :
  ∃ g off cap ps f,N=ps.length∧S=[b,g]∧Raw w b g off cap ps ((f:Nat):Int) l.length∧ps.length≤64∧l=Rn.jL ps f l.length∧l.length≤ps.length∧f < ps.length:=by
 obtain ⟨b',sv,U,ps,f,mG,hb,hr,hd,rfl,rfl,oA,hl,hle,hf⟩:=h;obtain rfl:b=b':=by simpa using mG
 obtain ⟨ao,cap,rfl⟩:=hr.shape;obtain ⟨g,off,rfl,rfl,hg,hc,Fb⟩:=hr.cells (by omega);exact ⟨g,off,cap,ps,f,rfl,rfl,⟨hb,hr,by simpa using hd⟩,oA,hl,hle,by omega⟩
def S3 (p:Value) (N:Nat) (l:List Int) (v:Int) (S:List Nat) (w:World) (e:Ending) (w':World):Prop :=
 e=.returned (.bool (decide (l.length < N)))∧aq S w w'∧Rg w' p N (Rn.wQ N l v) S
set_option maxHeartbeats 800000 in
theorem S4 (w:World) (p:Value) (N:Nat) (l:List Int) (S:List Nat) (v:Int) (h:Rg w p N l S) :
  Calls Tryz.prog 155 #[p,.int .i64 v] w (S3 p N l v S w):=by
 obtain ⟨b,rfl⟩:=h.shape;have H0:=Lib.hid h;have hle:=h.le;clear h
 by_cases ck:l.length < N
 ·have hq:decide (l.length=N)=false:=by simp;omega
  go_enter Tryz.func155,Tryz.ntmps155
  go_wp2_with fail
  refine (Fa _ _ _ _ _ H0.out).mono ?_
  rintro e w1 ⟨rfl,m1,rfl⟩
  rw [hq];have h:=H0.out.drewN m1;have HW:=Lib.hid ((aq.refl S w).drewN m1);generalize w.drewN m1=w1 at *;obtain ⟨g,off,cap,ps,f,rfl,rfl,cK,oA,hl,_,BI⟩:=h.raw (by omega);obtain ⟨j,hj⟩:∃ j,j=(f + l.length) % ps.length:=⟨_,rfl⟩
  have BJ:j < ps.length:=by rw [hj];exact Nat.mod_lt _ (by omega)
  have S5:Hid (l ++ [v]=Rn.jL (ps.set j v) f (l ++ [v]).length):=Lib.hid (by
   have hh:=Rn.put ps f l.length v ck;rw [← hl] at hh;rw [hj,List.length_append,List.length_singleton,hh])
  have HJ:=Lib.hid hj;have HF:=Lib.hid (show decide (l.length < ps.length)=true by simpa using ck);have wR:Hid (Rn.wQ ps.length l v=l ++ [v]):=Lib.hid (if_pos ck);obtain ⟨c0,c1,c2,_,f2⟩:=cK.cells;obtain ⟨cg,fg⟩:=cK.place j BJ;have rR:=cK.2.2;have HR:=Lib.hid cK;clear cK hj hl hq H0 h;generalize ps.getD j 0=x at *
  go_wp2_with fail
  go_region_held3 (fun w'=>w'.cell? ⟨b,0,none⟩=some (.slice (some ⟨g,off,none⟩) ps.length cap)∧w'.cell? ⟨b,2,none⟩=some (.int .i64 l.length)) (first | exact ⟨c0,c2⟩ | exact ⟨(World.cell?_setCell_other _ _ _ _ (by simp [rR,rR.symm])).trans c0,(World.cell?_setCell_other _ _ _ _ (by simp [rR,rR.symm])).trans c2⟩)
   (first
    | (go_at_call 132;refine (KZ _ b _ _ cap f l.length (by exact c0) (by exact c1) BI oA (by omega)).mono ?_;rintro e w2 ⟨rfl,m2,rfl⟩;rw [← HJ.out]))
  go_wp2_with fail
  go_ret
  refine ⟨eI HF.out.symm,?_,?_⟩
  ·exact HW.out.trans ((((aq.refl [b,g] w1).drewN _).setCell (by simp) _).setCell (by simp) _) (fun x hx=>.inl hx)
  ·rw [wR.out];exact (((HR.out.draw _).put j BJ v).count ((l.length:Int) + 1)).rg (by simp) (l ++ [v]) (by simp) oA S5.out (by simp;omega) BI
 ·have hq:decide (l.length=N)=true:=by simp;omega
  have HF:=Lib.hid (show decide (l.length < N)=false by simpa using ck);have wR:Hid (Rn.wQ N l v=l):=Lib.hid (if_neg ck)
  go_enter Tryz.func155,Tryz.ntmps155
  go_wp2_with fail
  refine (Fa _ _ _ _ _ H0.out).mono ?_
  rintro e w1 ⟨rfl,m1,rfl⟩
  rw [hq]
  go_wp2_with fail
  go_ret
  exact ⟨eI HF.out.symm,(aq.refl _ _).drewN _,by rw [wR.out];exact H0.out.drewN _⟩
open Go.RowKit
namespace Rn
theorem S8 (ps:List Int) (f k:Nat):jL ps f (k + 1)=jL ps f k ++ [ps.getD ((f + k) % ps.length) 0]:=by
 unfold jL;rw [List.range_succ];simp
end Rn
def S9 (l:List Int) (w:World) (e:Ending) (w':World):Prop :=
 ∃ v S,e=.returned v∧aq [] w w'∧IV w' v l S∧∀ k∈S,w.heap.size≤k
set_option maxRecDepth 100000 in
set_option maxHeartbeats 1600000 in
theorem Ta (w:World) (p:Value) (N:Nat) (l:List Int) (S:List Nat) (h:Rg w p N l S) :
  Calls Tryz.prog 67 #[p] w (S9 l w):=by
 obtain ⟨b,rfl⟩:=h.shape;have hle:=h.le;obtain ⟨b',sv,U,ps,f,mG,hb,hr,hd,rfl,hN,oA,hl,_,hf⟩:=h;obtain rfl:b=b':=by simpa using mG
 obtain ⟨ao,cap,rfl⟩:=hr.shape;have c0:w.cell? ⟨b,0,none⟩=some (.slice ao ps.length cap):=hb.cell 0;have c1:w.cell? ⟨b,1,none⟩=some (.int .i64 f):=hb.cell 1;have c2:w.cell? ⟨b,2,none⟩=some (.int .i64 l.length):=hb.cell 2;have HB:=Lib.hid hb;have HR:=Lib.hid hr;have HL:=Lib.hid hl;have HF:=Lib.hid hf;have HN:=Lib.hid hN;have BE:l.length≤64:=by omega
 clear hb hr hd mG hl hf hN hle;obtain ⟨c,hc⟩:∃ c,l.length=c:=⟨_,rfl⟩
 have HC:=Lib.hid hc;rw [hc] at c2 BE;clear hc
 go_enter Tryz.func67,Tryz.ntmps67
 go_wp2_with (at_make;go_must (refine IZ BH c (by omega) ?_ (hC:=rfl));intro w1 r1 k1;have Tb:=k1.cell c2 (by simp))
 have nv:=Lib.hid r1;have rX:=Lib.hid k1;clear r1 k1 Tb
 go_loopw [3,14] (fun v i wr=>∃ (k:Nat) (T:List Nat),k≤c∧i=.int .i64 k∧aq [] w wr∧IR wr v 2 (Rn.jL ps f k) T∧∀ x∈T,w.heap.size≤x) (fun _ i _=>c - (intOf i).toNat)
 case atStart=>exact ⟨0,[w.heap.size],Nat.zero_le _,rfl,rX.out,nv.out,by simp⟩
 case round =>
  obtain ⟨k,T,hk,rfl,cR,iM,hT⟩:=hrel;obtain ⟨Qz,QA,hv⟩:=iM.shape;rw [Rn.KY] at hv;subst hv;have HK:=Lib.hid cR;have oz:=Lib.hid iM;have HT:=Lib.hid hT;clear cR iM hT
  by_cases ck:k < c
  ·have hcN:c≤ps.length:=by have:=HC.out;have:=HN.out;omega
   have BI:f < ps.length:=by have:=HF.out;have:=HN.out;omega
   have Tc:ps.length≤64:=by have:=HN.out;omega
   obtain ⟨j,hj⟩:∃ j,j=(f + k) % ps.length:=⟨_,rfl⟩
   have BJ:j < ps.length:=by rw [hj];exact Nat.mod_lt _ (by omega)
   obtain ⟨g,off,rfl,rfl,hg,mg,_⟩:=(HR.out.then HK.out).cells (by omega);have d0:wr.cell? ⟨b,0,none⟩=some (.slice (some ⟨g,off,none⟩) ps.length cap):=HK.out.cell c0 (by simp);have d1:wr.cell? ⟨b,1,none⟩=some (.int .i64 f):=HK.out.cell c1 (by simp);have cg:wr.cell? ⟨g,off + j,none⟩=some (.int .i64 (ps.getD j 0)):=mg j BJ;have HJ:=Lib.hid hj;have HV:Hid (Rn.jL ps f (k + 1)=Rn.jL ps f k ++ [ps.getD j 0]):=Lib.hid (by rw [Rn.S8,← hj]);have Td:Hid ((Rn.jL ps f k).length=k):=Lib.hid (Rn.KY ps f k);have y9:b∉T:=fun h=>by have:=HT.out b h;have:=HB.out.lt;omega
   have zb:g∉T:=fun h=>by have:=HT.out g h;have:=HR.out.lt g (by simp);omega
   clear mg hj;obtain ⟨x,HX⟩:∃ x,Hid (ps.getD j 0=x):=⟨_,rfl⟩
   rw [HX.out] at cg
   go_wp2_with fail
   go_region_held3 (fun w'=>w'.cell? ⟨b,0,none⟩=some (.slice (some ⟨g,off,none⟩) ps.length cap)∧w'.cell? ⟨g,off + j,none⟩=some (.int .i64 x)) (first | exact ⟨d0,cg⟩ | exact ⟨e0,eg⟩ | (refine ⟨(World.cell?_alloc_past _ _ _ (block_lt_of_cell d0)).trans d0,(World.cell?_alloc_past _ _ _ (block_lt_of_cell cg)).trans cg⟩))
    (first
     | (go_at_call 132;refine (KZ _ b _ _ cap f k (by exact d0) (by exact d1) BI Tc (by omega)).mono ?_;rintro e w2 ⟨rfl,m2,rfl⟩;rw [← HJ.out])
     | (refine Dx BH (oz.out.then ((aq.refl [] wr).drewN _)) (by rw [Td.out];omega) ?_;intro tG ov w6 S6 r6 k6 s6;have e0:w6.cell? ⟨b,0,none⟩=some (.slice (some ⟨g,off,none⟩) ps.length cap):=k6.cell (by exact d0) y9;have eg:w6.cell? ⟨g,off + j,none⟩=some (.int .i64 x):=k6.cell (by exact cg) zb;have R6:=Lib.hid r6;have K6:=Lib.hid k6;have Te:=Lib.hid s6;clear r6 k6 s6))
   go_wp2_with fail
   go_roundw
   case rel=>exact ⟨k + 1,S6,by omega,by go_num,HK.out.trans (((aq.refl T wr).drewN _).trans K6.out (fun x hx=>.inl hx)) (fun x hx=>.inr (HT.out x hx)),by rw [HV.out,HX.out];exact R6.out,fun x hx=>by
    rcases Te.out x hx with h | h
    ·exact HT.out x h
    ·have:=HK.out.size;simp at h;omega⟩
   case measure=>simp [intOf];omega
  ·obtain rfl:k=c:=by omega
   go_wp2_with fail
   go_ret
   exact ⟨_,T,rfl,HK.out,by have:=oz.out.iv;rw [← HC.out] at this ⊢;rw [← HL.out] at this;exact this,HT.out⟩
def BK (room:Int) (l:List Int) (w:World) (e:Ending) (w':World):Prop :=
 if 0≤room∧room≤64∧(l.length:Int)≤room then ∃ p S,e=.returned (.tuple #[p,.int .i64 0])∧aq [] w w'∧Rg w' p room.toNat l S∧∀ k∈S,w.heap.size≤k
 else e=.returned (.tuple #[.pointer none,.int .i64 1])∧w'=w
theorem Tf (l:List Int) (N:Nat) (h:l.length≤N):List.take (min l.length N) (l.map (Value.int .i64)) ++ List.drop (min l.length N) (List.replicate N (Value.int .i64 0))=(l ++ List.replicate (N - l.length) 0).map (Value.int .i64):=by
 rw [Nat.min_eq_left h,List.take_of_length_le (by simp),List.drop_replicate];simp
set_option maxHeartbeats 800000 in
theorem Tg (w:World) (room:Int) (v:Value) (l:List Int) (T:List Nat) (h:IV w v l T) :
  Calls Tryz.prog 129 #[.int .i64 room,v] w (BK room l w):=by
 have hm:=h.le;unfold maxLen at hm;obtain ⟨ao,cap,rfl⟩:=h.shape
 by_cases nU:0≤room∧room≤64∧(l.length:Int)≤room
 ·have Fc:=Lib.hid nU;obtain ⟨h1,h2,h3⟩:=nU;obtain ⟨N,rfl⟩:=Int.eq_ofNat_of_zero_le h1;have H:=Lib.hid h;clear h h1;have Ti:N≤64:=by omega
  have Ff:l.length≤N:=by omega
  go_enter Tryz.func129,Tryz.ntmps129
  go_wp2_with (first | (at_make;go_must (refine Dv BH N (by omega) ?_ (hL:=rfl) (hC:=rfl));intro w1 r1 k1;simp only [Nat.mul_one,Value.cells,toList_madeCells_one] at r1;have R1:=Lib.hid r1;have K1:=Lib.hid k1;clear r1 k1) | ((with_reducible show wpList _ _ _ (⟨some 30,_,_,_,_,_⟩ :: _) _ _);go_must (refine Pd BH (Row.alloc R1.out _) (View.then (View.then H.out K1.out) ((aq.refl [] _).alloc _)) (Ds l) ?_);intro w2 r2 k2;have R2:=Lib.hid r2;have K2:=Lib.hid k2;clear r2 k2))
  have ck:w.heap.size < w1.heap.size:=R1.out.lt _ (by simp);have Lb:=(cJ.new w1 [.slice (some ⟨w.heap.size,0,none⟩) N N,.int .i64 0,.int .i64 l.length] 162).aY K2.out (by simp;omega);have iM:=R2.out;rw [Tf l N Ff] at iM;have lT:(l ++ List.replicate (N - l.length) 0).length=N:=by simp;omega
  have iK:Rg w2 (.pointer (some ⟨w1.heap.size,0,none⟩)) N l [w1.heap.size,w.heap.size] :=
   ⟨w1.heap.size,_,[w.heap.size],l ++ List.replicate (N - l.length) 0,0,rfl,Lb,by unfold IR;rw [lT];exact iM,by simp;omega,rfl,lT,Ti,(Rn.start l N Ff).symm,Ff,by omega⟩
  have Tj:=Lib.hid iK;have Tl:=Lib.hid ((K1.out.alloc (.cells #[.slice (some ⟨w.heap.size,0,none⟩) N N,.int .i64 0,.int .i64 l.length] 162)).trans K2.out (by simp));have Tn:=Lib.hid ck;clear Lb iM lT iK ck
  go_ret2
  unfold BK;rw [if_pos Fc.out];refine ⟨_,[w1.heap.size,w.heap.size],rfl,Tl.out,by rw [Int.toNat_natCast];exact Tj.out,?_⟩;intro k hk;have:=Tn.out;simp at hk;rcases hk with rfl | rfl <;> omega
 ·have Fc:=Lib.hid nU;clear h;have zm:room < 0∨(0≤room∧64 < room)∨(0≤room∧room≤64∧room < l.length):=by omega
  clear nU;rcases zm with h1 | ⟨h1,h2⟩ | ⟨h1,h2,h3⟩
  all_goals go_enter Tryz.func129,Tryz.ntmps129
  all_goals go_wp2_with fail
  all_goals go_ret2
  all_goals unfold BK
  all_goals rw [if_neg Fc.out]
  all_goals exact ⟨rfl,rfl⟩
end Go.Proofs.YtofnbflkhgammaaGreat
