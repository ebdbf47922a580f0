/-
  What the laws need, part A10.
  Conditions: none.
-/
import Derived.Test.YtdjhhbpedllnhaaGreatA9
set_option linter.unusedVariables false
set_option linter.unusedSimpArgs false
set_option linter.unnecessarySimpa false
set_option maxHeartbeats 2000000
namespace Go.Proofs.YtdjhhbpedllnhaaGreat
open Go.RowKit
theorem Kh {P:Program} (t e:TypeId) (z:Value) (bytes:Nat) (ht:P.underlying t=some (.slice e)) (SU:(P.info? e).map (fun i=>(i.zero,i.size,i.bytes))=some (some z,3,bytes))
  (n:Nat) (abD:bytes * n≤281474976710656) (Ii:n≤1000) (w:World) :
  (Instr.makeSlice t (.int .i64 (n:Int)) (.int .i64 (n:Int))).run P w=.ok (.slice (some ⟨w.heap.size,0,none⟩) n n) (w.alloc (.cells (madeCells z.cells (n * 3)) e)):=by
 obtain ⟨i,hi,Ki⟩:=Option.map_eq_some_iff.1 SU;simp only [Prod.mk.injEq] at Ki;obtain ⟨hz,hs,hb⟩:=Ki;have oY:(i.bytes:Int) * (n:Int)≤281474976710656:=by
  have h:((i.bytes * n:Nat):Int)≤281474976710656:=by rw [hb];omega
  rwa [Int.natCast_mul] at h
 have hr:=run_make (P:=P) w t e i z ht hi hz .i64 .i64 n n (by omega) (Int.le_refl _) oY (by omega);simp only [Int.toNat_natCast,hs] at hr;exact hr
theorem BL (w:World) (z:Array Value) (n:Nat) (e:TypeId) (b:Nat) (hn:n≤1000) (hb:b=w.heap.size):Row (w.alloc (.cells (madeCells z (n * 3)) e)) (.slice (some ⟨b,0,none⟩) n n) e 3 n (madeCells z (n * 3)).toList [b]:=by
 subst hb;have:=Row.lit w (madeCells z (n * 3)).toList e 3 n (by simp [size_madeCells]) (by simp [maxLen];omega)
 rwa [Array.toArray_toList] at this
theorem zg {α:Type} (a b:α) (N k:Nat) (h:k < N):(List.replicate k a ++ List.replicate (N - k) b).set k a=List.replicate (k + 1) a ++ List.replicate (N - (k + 1)) b:=by
 rw [List.set_append_right _ _ (by simp),List.replicate_succ',List.append_assoc]
 congr 1
 rw [show N - k=(N - (k + 1)) + 1 by omega,List.replicate_succ];simp
theorem dj.SV {w:World} {b g1 o1 c1 g2 o2 c2:Nat} {A B:List (Int × Int × Int)} (h:dj w b g1 o1 c1 g2 o2 c2 A B) {x:Nat} (hx:x < B.length) (a c d:Int) :
  dj (((w.setCell ⟨g2,o2 + x * 3,none⟩ (.int .i64 a)).setCell ⟨g2,o2 + x * 3 + 1,none⟩ (.int .i64 c)).setCell ⟨g2,o2 + x * 3 + 2,none⟩ (.int .i64 d)) b g1 o1 c1 g2 o2 c2 A (B.set x (a,c,d)):=by
 have e:=List.getElem?_eq_getElem hx;have h1:=h.l0 e a;have h2:=h1.l1 (x:=x) (t:=(a,B[x].2)) (by simp [hx]) c;have h3:=h2.l2 (x:=x) (t:=(a,c,B[x].2.2)) (by simp [hx]) d;simpa using h3
namespace Qu
theorem Fc (m:Nat):(List.replicate m ([]:List Int)).flatten=[]:=by
 induction m with
 | zero=>rfl
 | succ n ih=>rw [List.replicate_succ,List.flatten_cons,ih];rfl
theorem SW (n m:Nat) (h1:n≤64) (h2:m≤64):Inv n (List.replicate m []) :=
 ⟨h1,by simpa using h2,fun a=>by rw [Fc];simp,fun a h=>by rw [Fc] at h;simp at h⟩
theorem SX (n m:Nat):th n (List.replicate m [])=List.replicate n (-1,-1,-1):=by
 symm
 refine Bv (by simp) (fun x hx=>?_);rw [Bw (qD.2 (by rw [Fc];simp))];simp [hx]
theorem SY (m:Nat):ln (List.replicate m [])=List.replicate m (-1,-1,0):=by simp [ln,lc]
end Qu
def SZ (n m:Nat) (w:World) (e:Ending) (w':World):Prop :=
 ∃ p S,e=.returned (.tuple #[p,.int .i64 0])∧Kf w w' S∧Qq w' p n (List.replicate m []) S
def Kj (n m:Nat) (w:World) (v:Value) (w':World):Prop :=
 ∃ b g1 g2,v=.pointer (some ⟨b,0,none⟩)∧dj w' b g1 0 n g2 0 m (List.replicate n (0,0,0)) (List.replicate m (0,0,0))∧Kf w w' [b,g1,g2]
theorem Kk {w W:World} {n m b g1 g2:Nat} (hb:cr W b [.slice (some ⟨g1,0,none⟩) n n,.slice (some ⟨g2,0,none⟩) m m] 134)
  (h1:Row W (.slice (some ⟨g1,0,none⟩) n n) 136 3 n (madeCells #[.int .i64 0,.int .i64 0,.int .i64 0] (n * 3)).toList [g1]) (h2:Row W (.slice (some ⟨g2,0,none⟩) m m) 138 3 m (madeCells #[.int .i64 0,.int .i64 0,.int .i64 0] (m * 3)).toList [g2])
  (hk:aq [] w W) (a1:w.heap.size≤b) (a2:w.heap.size≤g1) (a3:w.heap.size≤g2) (d1:b≠g1) (d2:b≠g2) (d3:g1≠g2):Kj n m w (.pointer (some ⟨b,0,none⟩)) W:=by
 refine ⟨b,g1,g2,rfl,⟨?_,?_,?_,d1,d2,d3⟩,hk,fun k h=>?_⟩
 ·rw [List.length_replicate,List.length_replicate];exact hb
 ·have:=ER.made qI (x0:=(0,0,0)) rfl (by omega) h1;rw [List.length_replicate];exact this
 ·have:=ER.made qI (x0:=(0,0,0)) rfl (by omega) h2;rw [List.length_replicate];exact this
 ·simp at h;rcases h with rfl | rfl | rfl <;> assumption
set_option maxHeartbeats 1600000 in
theorem S0 (w:World) (n m:Nat) (h1:n≤64) (h2:m≤64) :
  Calls Tryz.prog 47 #[.int .i64 n,.int .i64 m] w (SZ n m w):=by
 have Kc:∀ w:World,(Instr.makeSlice 131 (.int .i64 (n:Int)) (.int .i64 (n:Int))).run Tryz.prog w=.ok (.slice (some ⟨w.heap.size,0,none⟩) n n) (w.alloc (.cells (madeCells #[.int .i64 0,.int .i64 0,.int .i64 0] (n * 3)) 136)):=fun w =>
  Kh 131 136 (.agg #[.int .i64 0,.int .i64 0,.int .i64 0]) 24 Tryz.underlying131 (by kernel_rfl) n (by omega) (by omega) w
 have Ke:∀ w:World,(Instr.makeSlice 132 (.int .i64 (m:Int)) (.int .i64 (m:Int))).run Tryz.prog w=.ok (.slice (some ⟨w.heap.size,0,none⟩) m m) (w.alloc (.cells (madeCells #[.int .i64 0,.int .i64 0,.int .i64 0] (m * 3)) 138)):=fun w =>
  Kh 132 138 (.agg #[.int .i64 0,.int .i64 0,.int .i64 0]) 24 Tryz.underlying132 (by kernel_rfl) m (by omega) (by omega) w
 have b1:(n:Int)≤64:=by omega
 have b2:(m:Int)≤64:=by omega
 have z1:decide ((n:Int) < 0)=false:=by simp
 have z2:decide ((m:Int) < 0)=false:=by simp
 have z3:decide ((64:Int) < (n:Int))=false:=by simp;omega
 have z4:decide ((64:Int) < (m:Int))=false:=by simp;omega
 go_enter Tryz.func47,Tryz.ntmps47
 go_upto_region 4 with fail
 go_cut [6] (fun v6 w'=>Kj n m w v6 w')
 case first =>
  go_wp2_with fail
  go_region
  all_goals go_wp2_with fail
  all_goals go_meet
  ·exact Kk (BB _ _ _ _ (by simp)).drew (Row.then (Row.alloc (Row.alloc (BL w _ n _ _ (by omega) rfl) _) _) (aq.refl [] _).drew) (Row.then (Row.alloc (BL _ _ m _ _ (by omega) (by simp)) _) (aq.refl [] _).drew) (((((aq.refl [] w).alloc _).alloc _).alloc _).drew) (by omega) (by omega) (by omega) (by omega) (by omega) (by omega)
  ·exact Kk (BB _ _ _ _ (by simp)).drew (Row.then (Row.alloc (BL _ _ n _ _ (by omega) (by simp)) _) (aq.refl [] _).drew) (Row.then (Row.alloc (Row.alloc (BL w _ m _ _ (by omega) rfl) _) _) (aq.refl [] _).drew) (((((aq.refl [] w).alloc _).alloc _).alloc _).drew) (by omega) (by omega) (by omega) (by omega) (by omega) (by omega)
 case rest =>
  obtain ⟨b,g1,g2,rfl,cG,qj⟩:=hcut;have vb:=Lib.hid qj.2;have Kl:Hid (dj wc b g1 0 n g2 0 m (List.replicate 0 (-1,-1,-1) ++ List.replicate (n - 0) (0,0,0)) (List.replicate m (0,0,0))):=Lib.hid (by simpa using cG);have Km:=Lib.hid qj.1;obtain ⟨n1,n2,n3⟩:=(⟨cG.2.2.2.1,cG.2.2.2.2.1,cG.2.2.2.2.2⟩:b≠g1∧b≠g2∧g1≠g2)
  obtain ⟨oA,mP⟩:=cG.head;rw [List.length_replicate] at oA mP;clear cG qj Kc Ke
  go_wp2_with fail
  go_loopw [7,34] (fun _ Ff wr=>∃ i:Nat,i≤n∧Ff=.int .i64 i∧dj wr b g1 0 n g2 0 m (List.replicate i (-1,-1,-1) ++ List.replicate (n - i) (0,0,0)) (List.replicate m (0,0,0))∧aq [] w wr) (fun _ Ff _=>n - (intOf Ff).toNat)
  case atStart=>exact ⟨0,Nat.zero_le _,rfl,Kl.out,Km.out⟩
  case round =>
   obtain ⟨i,hi,rfl,cG,cV⟩:=hrel;have S3:=Lib.hid cG;have ig:=Lib.hid cV;obtain ⟨oA,mP⟩:=cG.head;rw [List.length_replicate] at mP;have rL:(List.replicate i ((-1:Int),(-1:Int),(-1:Int)) ++ List.replicate (n - i) ((0:Int),(0:Int),(0:Int))).length=n:=by simp;omega
   rw [rL] at oA
   by_cases cJ:i < n
   ·have ve:i < (List.replicate i ((-1:Int),(-1:Int),(-1:Int)) ++ List.replicate (n - i) (0,0,0)).length:=by simp;omega
    obtain ⟨tt,zh⟩:∃ tt,(List.replicate i ((-1:Int),(-1:Int),(-1:Int)) ++ List.replicate (n - i) (0,0,0))[i]?=some tt:=⟨_,List.getElem?_eq_getElem ve⟩
    obtain ⟨⟨t0,t1,t2⟩,f0,f1,f2⟩:=cG.aO zh;have HN:=Lib.hid (cG.ED ve (-1) (-1) (-1));rw [zg _ _ _ _ cJ] at HN;rw [Nat.zero_add] at t0 t1 t2 f0 f1 f2 HN;have S4:(i:Int) < (n:Int):=by omega
    clear cG cV ve zh rL
    go_wp2_with fail
    go_roundw
    case rel=>exact ⟨i + 1,by omega,by go_num,HN.out,(((ig.out.trans ((aq.refl [g1] _).setCell (by simp) _) (fun x hx=>.inr (by simp at hx;subst hx;exact vb.out _ (by simp)))).setCell (.inr (vb.out _ (by simp))) _).setCell (.inr (vb.out _ (by simp))) _)⟩
    case measure=>simp [intOf];omega
   ·obtain rfl:i=n:=by omega
    have kP:Hid (dj wr b g1 0 i g2 0 m (List.replicate i (-1,-1,-1)) (List.replicate 0 (-1,-1,0) ++ List.replicate (m - 0) (0,0,0))):=Lib.hid (by simpa using cG);obtain ⟨wo,rfl⟩:∃ wo:World,wo=wr:=⟨_,rfl⟩
    clear cG cV Kl Km
    go_wp2_with fail
    go_loopw [8,50] (fun _ Fg wr=>∃ j:Nat,j≤m∧Fg=.int .i64 j∧dj wr b g1 0 i g2 0 m (List.replicate i (-1,-1,-1)) (List.replicate j (-1,-1,0) ++ List.replicate (m - j) (0,0,0))∧aq [] w wr) (fun _ Fg _=>m - (intOf Fg).toNat)
    case atStart=>exact ⟨0,Nat.zero_le _,rfl,kP.out,ig.out⟩
    case round =>
     obtain ⟨j,hj,rfl,cG,cV⟩:=hrel;have S3:=Lib.hid cG;have Kn:=Lib.hid cV;obtain ⟨oA,mP⟩:=cG.head;rw [List.length_replicate] at oA;have j8:(List.replicate j ((-1:Int),(-1:Int),(0:Int)) ++ List.replicate (m - j) ((0:Int),(0:Int),(0:Int))).length=m:=by simp;omega
     rw [j8] at mP
     by_cases uZ:j < m
     ·have ve:j < (List.replicate j ((-1:Int),(-1:Int),(0:Int)) ++ List.replicate (m - j) (0,0,0)).length:=by simp;omega
      obtain ⟨tt,zh⟩:∃ tt,(List.replicate j ((-1:Int),(-1:Int),(0:Int)) ++ List.replicate (m - j) (0,0,0))[j]?=some tt:=⟨_,List.getElem?_eq_getElem ve⟩
      obtain ⟨⟨t0,t1,t2⟩,f0,f1,f2⟩:=cG.line zh;have HN:=Lib.hid (cG.SV ve (-1) (-1) 0);rw [zg _ _ _ _ uZ] at HN;rw [Nat.zero_add] at t0 t1 t2 f0 f1 f2 HN;have S4:(j:Int) < (m:Int):=by omega
      clear cG cV ve zh j8
      go_wp2_with fail
      go_roundw
      case rel=>exact ⟨j + 1,by omega,by go_num,HN.out,(((Kn.out.trans ((aq.refl [g2] _).setCell (by simp) _) (fun x hx=>.inr (by simp at hx;subst hx;exact vb.out _ (by simp)))).setCell (.inr (vb.out _ (by simp))) _).setCell (.inr (vb.out _ (by simp))) _)⟩
      case measure=>simp [intOf];omega
     ·obtain rfl:j=m:=by omega
      have HQ:Hid (Qq wr (.pointer (some ⟨b,0,none⟩)) i (List.replicate j []) [b,g1,g2]):=Lib.hid (by
       have h:dj wr b g1 0 i g2 0 j (List.replicate i (-1,-1,-1)) (List.replicate j (-1,-1,0)):=by simpa using cG
       exact h.q (Qu.SX i j).symm (Qu.SY j).symm (Qu.SW i j h1 h2))
      clear cG cV
      go_wp2_with fail
      go_ret2
      exact ⟨_,_,rfl,⟨Kn.out,vb.out⟩,HQ.out⟩
open Go.RowKit
namespace Rn
def fG (ps:List Int) (f c:Nat):List Int:=(List.range c).map fun i=>ps.getD ((f + i) % ps.length) 0
theorem Ko (ps:List Int) (f c:Nat):(fG ps f c).length=c:=by simp [fG]
theorem start (l:List Int) (N:Nat) (h:l.length≤N):fG (l ++ List.replicate (N - l.length) 0) 0 l.length=l:=by
 apply List.ext_getElem
 ·simp [fG]
 ·intro i h1 h2;simp only [fG,List.getElem_map,List.getElem_range,List.length_append,List.length_replicate];rw [Nat.zero_add,Nat.mod_eq_of_lt (by omega)];rw [List.getD_eq_getElem?_getD,List.getElem?_append_left h2];simp [h2]
end Rn
open Go.RowKit
theorem BM:kz Tryz.prog 57 2 1 8 (.int .i64 0):=⟨Tryz.underlying57,by kernel_rfl,rfl,by decide,by decide⟩
def Rg (w:World) (p:Value) (N:Nat) (l:List Int) (S:List Nat):Prop :=
 ∃ b v T ps f,p=.pointer (some ⟨b,0,none⟩)∧cr w b [v,.int .i64 ((f:Nat):Int),.int .i64 l.length] 148∧IR w v 2 ps T∧b∉T∧S=b :: T ∧
  ps.length=N∧N≤64∧l=Rn.fG ps f l.length∧l.length≤N∧(f < N∨(N=0∧f=0))
section
variable {w w':World} {p:Value} {N:Nat} {l:List Int} {S T:List Nat}
theorem Rg.aY (h:Rg w p N l S) (k:aq T w w') (hn:∀ x∈S,x∉T):Rg w' p N l S:=by
 obtain ⟨b,v,U,ps,f,rfl,hb,hr,hd,rfl,h⟩:=h;exact ⟨b,v,U,ps,f,rfl,hb.aY k (hn b (by simp)),hr.aY k (fun x hx=>hn x (by simp [hx])),hd,rfl,h⟩
theorem Rg.lt (h:Rg w p N l S):∀ k∈S,k < w.heap.size:=by
 obtain ⟨b,v,U,ps,f,rfl,hb,hr,hd,rfl,h⟩:=h;intro k hk;rcases List.mem_cons.1 hk with rfl | hk
 ·exact hb.lt
 ·exact hr.lt k hk
theorem Rg.shape (h:Rg w p N l S):∃ b,p=.pointer (some ⟨b,0,none⟩):=by obtain ⟨b,_,_,_,_,rfl,_⟩:=h;exact ⟨b,rfl⟩
theorem Rg.le (h:Rg w p N l S):l.length≤N∧N≤64:=by obtain ⟨b,_,_,_,_,rfl,_,_,_,_,_,h1,_,h2,_⟩:=h;exact ⟨h2,h1⟩
end
theorem S5 (w:World) (p:Value) (N:Nat) (l:List Int) (S:List Nat) (h:Rg w p N l S) :
  Calls Tryz.prog 59 #[p] w fun e w'=>e=.returned (.int .i64 N)∧w=w':=by
 obtain ⟨b,v,U,ps,f,rfl,hb,hr,hd,rfl,rfl,kV,hl,hle,hf⟩:=h;obtain ⟨ao,cap,rfl⟩:=hr.shape;have c0:w.cell? ⟨b,0,none⟩=some (.slice ao ps.length cap):=hb.cell 0;have hm:ps.length≤9223372036854775807:=by omega
 clear hb hr hd kV hl hle hf
 go_enter Tryz.func59,Tryz.ntmps59
 go_wp2
 go_ret
 exact ⟨rfl,rfl⟩
theorem Fh (w:World) (b:Nat) (ao:Option Addr) (n cap f i:Nat) (c0:w.cell? ⟨b,0,none⟩=some (.slice ao n cap)) (c1:w.cell? ⟨b,1,none⟩=some (.int .i64 f)) (hf:f < n) (hn:n≤64) (hi:i≤64) :
  Calls Tryz.prog 111 #[.pointer (some ⟨b,0,none⟩),.int .i64 (i:Int)] w fun e w'=>e=.returned (.int .i64 (((f + i) % n:Nat):Int))∧∃ m,w'=w.drewN m:=by
 have hnz:((n:Int) == 0)=false:=by simp;omega
 have Kp:(0:Int) < n:=by omega
 have hf0:(f:Int)≤64:=by omega
 go_enter Tryz.func111,Tryz.ntmps111
 go_wp2_with fail
 go_quiet (fail)
 go_wp2
 go_ret
 exact ⟨by simp,_,rfl⟩
open Go.RowKit
namespace Rn
theorem S8 (ps:List Int) (f k:Nat):fG ps f (k + 1)=fG ps f k ++ [ps.getD ((f + k) % ps.length) 0]:=by
 unfold fG;rw [List.range_succ];simp
end Rn
def S9 (l:List Int) (w:World) (e:Ending) (w':World):Prop :=
 ∃ v S,e=.returned v∧aq [] w w'∧IV w' v l S∧∀ k∈S,w.heap.size≤k
set_option maxRecDepth 100000 in
set_option maxHeartbeats 1600000 in
theorem Ta (w:World) (p:Value) (N:Nat) (l:List Int) (S:List Nat) (h:Rg w p N l S) :
  Calls Tryz.prog 60 #[p] w (S9 l w):=by
 obtain ⟨b,rfl⟩:=h.shape;have hle:=h.le;obtain ⟨b',sv,U,ps,f,iY,hb,hr,hd,rfl,hN,kV,hl,_,hf⟩:=h;obtain rfl:b=b':=by simpa using iY
 obtain ⟨ao,cap,rfl⟩:=hr.shape;have c0:w.cell? ⟨b,0,none⟩=some (.slice ao ps.length cap):=hb.cell 0;have c1:w.cell? ⟨b,1,none⟩=some (.int .i64 f):=hb.cell 1;have c2:w.cell? ⟨b,2,none⟩=some (.int .i64 l.length):=hb.cell 2;have HB:=Lib.hid hb;have HR:=Lib.hid hr;have HL:=Lib.hid hl;have HF:=Lib.hid hf;have HN:=Lib.hid hN;have BK:l.length≤64:=by omega
 clear hb hr hd iY hl hf hN hle;obtain ⟨c,hc⟩:∃ c,l.length=c:=⟨_,rfl⟩
 have HC:=Lib.hid hc;rw [hc] at c2 BK;clear hc
 go_enter Tryz.func60,Tryz.ntmps60
 go_wp2_with (at_make;go_must (refine It BM c (by omega) ?_ (hC:=rfl));intro w1 r1 k1;have Tb:=k1.cell c2 (by simp))
 have kP:=Lib.hid r1;have rX:=Lib.hid k1;clear r1 k1 Tb
 go_loopw [3,14] (fun v i wr=>∃ (k:Nat) (T:List Nat),k≤c∧i=.int .i64 k∧aq [] w wr∧IR wr v 2 (Rn.fG ps f k) T∧∀ x∈T,w.heap.size≤x) (fun _ i _=>c - (intOf i).toNat)
 case atStart=>exact ⟨0,[w.heap.size],Nat.zero_le _,rfl,rX.out,kP.out,by simp⟩
 case round =>
  obtain ⟨k,T,hk,rfl,cV,iS,hT⟩:=hrel;obtain ⟨QM,QN,hv⟩:=iS.shape;rw [Rn.Ko] at hv;subst hv;have HK:=Lib.hid cV;have oD:=Lib.hid iS;have HT:=Lib.hid hT;clear cV iS hT
  by_cases cJ:k < c
  ·have hcN:c≤ps.length:=by have:=HC.out;have:=HN.out;omega
   have oF:f < ps.length:=by have:=HF.out;have:=HN.out;omega
   have Tc:ps.length≤64:=by have:=HN.out;omega
   obtain ⟨j,hj⟩:∃ j,j=(f + k) % ps.length:=⟨_,rfl⟩
   have zi:j < ps.length:=by rw [hj];exact Nat.mod_lt _ (by omega)
   obtain ⟨g,off,rfl,rfl,hg,mD,_⟩:=(HR.out.then HK.out).cells (by omega);have d0:wr.cell? ⟨b,0,none⟩=some (.slice (some ⟨g,off,none⟩) ps.length cap):=HK.out.cell c0 (by simp);have d1:wr.cell? ⟨b,1,none⟩=some (.int .i64 f):=HK.out.cell c1 (by simp);have cg:wr.cell? ⟨g,off + j,none⟩=some (.int .i64 (ps.getD j 0)):=mD j zi;have HJ:=Lib.hid hj;have HV:Hid (Rn.fG ps f (k + 1)=Rn.fG ps f k ++ [ps.getD j 0]):=Lib.hid (by rw [Rn.S8,← hj]);have Td:Hid ((Rn.fG ps f k).length=k):=Lib.hid (Rn.Ko ps f k);have yY:b∉T:=fun h=>by have:=HT.out b h;have:=HB.out.lt;omega
   have y9:g∉T:=fun h=>by have:=HT.out g h;have:=HR.out.lt g (by simp);omega
   clear mD hj;obtain ⟨x,HX⟩:∃ x,Hid (ps.getD j 0=x):=⟨_,rfl⟩
   rw [HX.out] at cg
   go_wp2_with fail
   go_region_held3 (fun w'=>w'.cell? ⟨b,0,none⟩=some (.slice (some ⟨g,off,none⟩) ps.length cap)∧w'.cell? ⟨g,off + j,none⟩=some (.int .i64 x)) (first | exact ⟨d0,cg⟩ | exact ⟨e0,eg⟩ | (refine ⟨(World.cell?_alloc_past _ _ _ (block_lt_of_cell d0)).trans d0,(World.cell?_alloc_past _ _ _ (block_lt_of_cell cg)).trans cg⟩))
    (first
     | (go_at_call 111;refine (Fh _ b _ _ cap f k (by exact d0) (by exact d1) oF Tc (by omega)).mono ?_;rintro e w2 ⟨rfl,m2,rfl⟩;rw [← HJ.out])
     | (refine DF BM (oD.out.then ((aq.refl [] wr).drewN _)) (by rw [Td.out];omega) ?_;intro tH oC w6 S6 r6 k6 s6;have e0:w6.cell? ⟨b,0,none⟩=some (.slice (some ⟨g,off,none⟩) ps.length cap):=k6.cell (by exact d0) yY;have eg:w6.cell? ⟨g,off + j,none⟩=some (.int .i64 x):=k6.cell (by exact cg) y9;have R6:=Lib.hid r6;have K6:=Lib.hid k6;have Te:=Lib.hid s6;clear r6 k6 s6))
   go_wp2_with fail
   go_roundw
   case rel=>exact ⟨k + 1,S6,by omega,by go_num,HK.out.trans (((aq.refl T wr).drewN _).trans K6.out (fun x hx=>.inl hx)) (fun x hx=>.inr (HT.out x hx)),by rw [HV.out,HX.out];exact R6.out,fun x hx=>by
    rcases Te.out x hx with h | h
    ·exact HT.out x h
    ·have:=HK.out.size;simp at h;omega⟩
   case measure=>simp [intOf];omega
  ·obtain rfl:k=c:=by omega
   go_wp2_with fail
   go_ret
   exact ⟨_,T,rfl,HK.out,by have:=oD.out.iv;rw [← HC.out] at this ⊢;rw [← HL.out] at this;exact this,HT.out⟩
def BN (room:Int) (l:List Int) (w:World) (e:Ending) (w':World):Prop :=
 if 0≤room∧room≤64∧(l.length:Int)≤room then ∃ p S,e=.returned (.tuple #[p,.int .i64 0])∧aq [] w w'∧Rg w' p room.toNat l S∧∀ k∈S,w.heap.size≤k
 else e=.returned (.tuple #[.pointer none,.int .i64 1])∧w'=w
theorem Tf (l:List Int) (N:Nat) (h:l.length≤N):List.take (min l.length N) (l.map (Value.int .i64)) ++ List.drop (min l.length N) (List.replicate N (Value.int .i64 0))=(l ++ List.replicate (N - l.length) 0).map (Value.int .i64):=by
 rw [Nat.min_eq_left h,List.take_of_length_le (by simp),List.drop_replicate];simp
set_option maxHeartbeats 800000 in
theorem Tg (w:World) (room:Int) (v:Value) (l:List Int) (T:List Nat) (h:IV w v l T) :
  Calls Tryz.prog 107 #[.int .i64 room,v] w (BN room l w):=by
 have hm:=h.le;unfold maxLen at hm;obtain ⟨ao,cap,rfl⟩:=h.shape
 by_cases j7:0≤room∧room≤64∧(l.length:Int)≤room
 ·have vf:=Lib.hid j7;obtain ⟨h1,h2,h3⟩:=j7;obtain ⟨N,rfl⟩:=Int.eq_ofNat_of_zero_le h1;have H:=Lib.hid h;clear h h1;have Ti:N≤64:=by omega
  have Fi:l.length≤N:=by omega
  go_enter Tryz.func107,Tryz.ntmps107
  go_wp2_with (first | (at_make;go_must (refine DC BM N (by omega) ?_ (hL:=rfl) (hC:=rfl));intro w1 r1 k1;simp only [Nat.mul_one,Value.cells,toList_madeCells_one] at r1;have R1:=Lib.hid r1;have K1:=Lib.hid k1;clear r1 k1) | ((with_reducible show wpList _ _ _ (⟨some 30,_,_,_,_,_⟩ :: _) _ _);go_must (refine Pw BM (Row.alloc R1.out _) (View.then (View.then H.out K1.out) ((aq.refl [] _).alloc _)) (Dz l) ?_);intro w2 r2 k2;have R2:=Lib.hid r2;have K2:=Lib.hid k2;clear r2 k2))
  have cJ:w.heap.size < w1.heap.size:=R1.out.lt _ (by simp);have Kq:=(cr.new w1 [.slice (some ⟨w.heap.size,0,none⟩) N N,.int .i64 0,.int .i64 l.length] 148).aY K2.out (by simp;omega);have iS:=R2.out;rw [Tf l N Fi] at iS;have mg:(l ++ List.replicate (N - l.length) 0).length=N:=by simp;omega
  have iQ:Rg w2 (.pointer (some ⟨w1.heap.size,0,none⟩)) N l [w1.heap.size,w.heap.size] :=
   ⟨w1.heap.size,_,[w.heap.size],l ++ List.replicate (N - l.length) 0,0,rfl,Kq,by unfold IR;rw [mg];exact iS,by simp;omega,rfl,mg,Ti,(Rn.start l N Fi).symm,Fi,by omega⟩
  have Tj:=Lib.hid iQ;have Tl:=Lib.hid ((K1.out.alloc (.cells #[.slice (some ⟨w.heap.size,0,none⟩) N N,.int .i64 0,.int .i64 l.length] 148)).trans K2.out (by simp));have Tn:=Lib.hid cJ;clear Kq iS mg iQ cJ
  go_ret2
  unfold BN;rw [if_pos vf.out];refine ⟨_,[w1.heap.size,w.heap.size],rfl,Tl.out,by rw [Int.toNat_natCast];exact Tj.out,?_⟩;intro k hk;have:=Tn.out;simp at hk;rcases hk with rfl | rfl <;> omega
 ·have vf:=Lib.hid j7;clear h;have zf:room < 0∨(0≤room∧64 < room)∨(0≤room∧room≤64∧room < l.length):=by omega
  clear j7;rcases zf with h1 | ⟨h1,h2⟩ | ⟨h1,h2,h3⟩
  all_goals go_enter Tryz.func107,Tryz.ntmps107
  all_goals go_wp2_with fail
  all_goals go_ret2
  all_goals unfold BN
  all_goals rw [if_neg vf.out]
  all_goals exact ⟨rfl,rfl⟩
end Go.Proofs.YtdjhhbpedllnhaaGreat
