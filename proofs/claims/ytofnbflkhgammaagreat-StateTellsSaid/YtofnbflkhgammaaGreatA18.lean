/-
  What the laws need, part A18.
  Conditions: none.
-/
import Derived.Test.YtofnbflkhgammaaGreatA17
set_option linter.unusedVariables false
set_option linter.unusedSimpArgs false
set_option linter.unnecessarySimpa false
set_option maxHeartbeats 2000000
namespace Go.Proofs.YtofnbflkhgammaaGreat
open Go.RowKit
namespace Po
theorem vY (f:Int):∀ (H:List Bool) (a b:List Int),settle f H (a ++ b)=if (settle f H a).2 then settle f (settle f H a).1 b else settle f H a
 | H,[],b=>rfl
 | H,x :: r,b=>by
  rw [List.cons_append,vW,vW]
  by_cases h:live f H x=true
  ·rw [if_pos h,if_pos h];exact vY f _ r b
  ·rw [if_neg h,if_neg h];rfl
def of (size most f:Int) (C:List (List Int)) (M:List Int):Bool :=
 fits size C.length most && decide (0≤f) && decide (f≤size) && decide (∀ l∈C,(l.length:Int)≤most) && (settle f (List.replicate size.toNat false) (C.flatten ++ M)).2
theorem Uh {C:List (List Int)} {k:Nat} (hk:k < C.length):(C.take k ++ List.replicate (C.length - k) []).set k C[k]=C.take (k + 1) ++ List.replicate (C.length - (k + 1)) []:=by
 have e1:(C.take k).length=k:=by simp;omega
 obtain ⟨d,hd⟩:∃ d,C.length - k=d + 1:=⟨C.length - k - 1,by omega⟩
 have E9:C.length - (k + 1)=d:=by omega
 rw [List.set_append_right _ _ (by omega),e1,Nat.sub_self,hd,E9,List.replicate_succ,List.set_cons_zero,List.take_succ_eq_append_getElem hk,List.append_assoc];rfl
theorem Ui {f:Int} {H:List Bool} {C:List (List Int)} {M:List Int} {k:Nat} (hk:k < C.length) {H':List Bool} (h:settle f H (C.take k).flatten=(H',true)) (hb:(settle f H' C[k]).2=false):(settle f H (C.flatten ++ M)).2=false:=by
 have e:C.flatten ++ M=(C.take k).flatten ++ (C[k] ++ ((C.drop (k + 1)).flatten ++ M)):=by
  have h1:C=C.take k ++ C[k] :: C.drop (k + 1):=by rw [← List.drop_eq_getElem_cons hk,List.take_append_drop]
  have h2:C.flatten=(C.take k ++ C[k] :: C.drop (k + 1)).flatten:=congrArg List.flatten h1;rw [h2,List.flatten_append,List.flatten_cons];simp only [List.append_assoc]
 rw [e,vY,h,if_pos rfl,vY];simp [hb]
end Po
def Uj (size most f:Int) (C:List (List Int)) (M:List Int) (w:World) (e:Ending) (w':World):Prop :=
 aj [] w w'∧((Po.of size most f C M=true∧∃ b S H,e=.returned (.tuple #[.pointer (some ⟨b,0,none⟩),.int .i64 0])∧Pl w' (.pointer (some ⟨b,0,none⟩)) size most C M f H S∧(∀ k∈S,w.heap.size≤k)∧Po.settle f (List.replicate size.toNat false) (C.flatten ++ M)=(H,true)) ∨
  (Po.of size most f C M=false∧e=.returned (.tuple #[.pointer none,.int .i64 1])))
def Fa (w:World) (b:Nat) (size most f:Int) (C:List (List Int)) (k:Nat) (wr:World):Prop :=
 ∃ CK H S,Pl wr (.pointer (some ⟨b,0,none⟩)) size most CK [] f H S∧CK=C.take k ++ List.replicate (C.length - k) []∧aj [] w wr∧(∀ x∈S,w.heap.size≤x)∧Po.settle f (List.replicate size.toNat false) (C.take k).flatten=(H,true)∧(∀ l∈C.take k,(l.length:Int)≤most)∧f≤H.length∧H.length≤1000
set_option maxHeartbeats 3200000 in
theorem Uk (w:World) (size most f:Int) (vc vm:Value) (C:List (List Int)) (M:List Int) (R:List Nat) (h:RP w vc vm C M R) (hM:M.length≤1000) (hC:∀ l∈C,l.length≤1000) :
  Calls Tryz.prog 55 #[.int .i64 size,.int .i64 most,vc,vm,.int .i64 f] w (Uj size most f C M w):=by
 have Ul:=Lib.hid h;have KX:=h.1.lt;have KY:=Lib.hid KX;obtain ⟨h1,U,h2,h3⟩:=h;have hle:=h1.le;unfold maxLen at hle;obtain ⟨vz,oJ,rfl⟩:=h1.shape;obtain ⟨xZ,x8,rfl⟩:=h2.shape;have H2:=Lib.hid h2;have HU:=Lib.hid h3;have HM:=Lib.hid hM;have HC:=Lib.hid hC;clear h1 h2 h3 hM hC KX
 cases hc:Po.fits size C.length most with
 | false =>
  have HF:Hid (Po.of size most f C M=false):=Lib.hid (by simp [Po.of,hc])
  go_enter Tryz.func55,Tryz.ntmps55
  go_wp2_with fail
  refine (Rf _ _ _ _ hc).mono ?_
  rintro e w1 ⟨rfl,rfl⟩
  go_wp2_with fail
  go_ret2
  exact ⟨aj.refl _ _,.inr ⟨HF.out,rfl⟩⟩
 | true =>
  have KZ:=Po.I5 hc;obtain ⟨n,rfl⟩:=Int.eq_ofNat_of_zero_le KZ.1;obtain ⟨m,rfl⟩:=Int.eq_ofNat_of_zero_le (show 0≤most by omega);have AM:n≤64:=by omega
  have h8:C.length≤8:=by omega
  have tM:1≤m:=by omega
  have Um:m≤16:=by omega
  clear KZ;have Fb:=Lib.hid (fun w'=>Jb w' n C.length m AM h8 tM Um)
  cases q1:decide (f < 0) with
  | true =>
   have HF:Hid (Po.of n m f C M=false):=Lib.hid (by
    have:f < 0:=of_decide_eq_true q1;have h0:¬ 0≤f:=by omega
    simp [Po.of,h0])
   go_enter Tryz.func55,Tryz.ntmps55
   go_wp2_with fail
   refine (Fb.out _).mono ?_
   rintro e w1 ⟨p,S,rfl,k1,p1,s1⟩
   have K1:=Lib.hid k1;clear k1 p1 s1
   go_wp2_with fail
   go_ret2
   exact ⟨K1.out,.inr ⟨HF.out,rfl⟩⟩
  | false =>
   cases q2:decide ((n:Int) < f) with
   | true =>
    have HF:Hid (Po.of n m f C M=false):=Lib.hid (by
     have:(n:Int) < f:=of_decide_eq_true q2;have h0:¬ f≤n:=by omega
     simp [Po.of,h0])
    go_enter Tryz.func55,Tryz.ntmps55
    go_wp2_with fail
    refine (Fb.out _).mono ?_
    rintro e w1 ⟨p,S,rfl,k1,p1,s1⟩
    have K1:=Lib.hid k1;clear k1 p1 s1
    go_wp2_with fail
    go_ret2
    exact ⟨K1.out,.inr ⟨HF.out,rfl⟩⟩
   | false =>
    have HF:Hid (Po.of n m f C M=(decide (∀ l∈C,(l.length:Int)≤m) && (Po.settle f (List.replicate n false) (C.flatten ++ M)).2)):=Lib.hid (by
     have h1:=of_decide_eq_false q1;have h2:=of_decide_eq_false q2;have h3:0≤f:=by omega
     have h4:f≤n:=by omega
     simp [Po.of,hc,h3,h4])
    have K7:f≤n:=by have:=of_decide_eq_false q2;omega
    have Un:=Lib.hid K7;clear K7
    go_enter Tryz.func55,Tryz.ntmps55
    go_wp2_with fail
    refine (Fb.out _).mono ?_
    rintro e w1 ⟨p,S,rfl,k1,p1,s1⟩
    obtain ⟨b,rfl⟩:=Pl.shape p1;obtain ⟨c4,f4,p2,k2⟩:=Pl.Uf p1 f;have HI:Hid (Fa w b n m f C 0 (w1.setCell ⟨b,4,none⟩ (.int .i64 f))):=Lib.hid
     ⟨_,_,S,p2,by simp [Po.new],k1.trans k2 (fun x hx=>.inr (s1 x hx)),s1,rfl,by simp,by simp [Po.new];exact Un.out,by simp [Po.new];omega⟩
    have e0:w1.cell? ⟨b,4,none⟩=some (.int .i64 0):=c4;clear p1 k1 s1 p2 k2 c4
    go_wp2_with fail
    go_loopw [14,15,40] (fun _ _ i wr=>∃ k:Nat,k≤C.length∧i=.int .i64 k∧Fa w b n m f C k wr) (fun _ _ i _=>C.length - (intOf i).toNat)
    case atStart=>exact ⟨0,Nat.zero_le _,rfl,HI.out⟩
    case round =>
     obtain ⟨k,hk,rfl,CK,H,S,hp,Fc,dF,hS,eE,kA,xY,hH⟩:=hrel;have HP:=Lib.hid hp;have Lb:=Lib.hid Fc;have g9:=Lib.hid dF;have HS:=Lib.hid hS;have Ff:=Lib.hid eE;have Lc:=Lib.hid kA;have Fg:=Lib.hid xY;have Fh:CK.length=C.length:=by rw [Fc];simp;omega
     clear hp Fc dF hS eE kA xY HI e0 f4
     by_cases cA:k < C.length
     ·obtain ⟨g,off,cs,U1,rfl,hgS,hg,ji,qv,⟨vk,rfl,Bz⟩,Uo⟩:=(Ul.out.then g9.out).1.get (List.getElem?_eq_getElem cA);have c0:wr.cell? ⟨g,off + k,none⟩=some vk:=by have:=qv 0 (by omega);rwa [Nat.mul_one,Nat.add_zero] at this
      have HT:Hid (C.take (k + 1)=C.take k ++ [C[k]]):=Lib.hid (List.take_succ_eq_append_getElem cA);have Le:Hid (C[k]∈C):=Lib.hid (List.getElem_mem cA);have Up:=Lib.hid (Po.Uh cA);have Uq:Hid (∀ H':List Bool,Po.settle f (List.replicate n false) (C.take k).flatten=(H',true)→(Po.settle f H' C[k]).2=false→(Po.settle f (List.replicate n false) (C.flatten ++ M)).2=false):=Lib.hid (fun H'=>Po.Ui cA);generalize C[k]=l at *;obtain ⟨aok,aak,rfl⟩:=Bz.shape;have ig:=Bz.le;unfold maxLen at ig;have Lf:=Lib.hid Bz;have yP:Hid (∀ x∈U1,x∉S):=Lib.hid (fun x hx h=>by have:=KY.out x (Uo x hx);have:=HS.out x h;omega);have aal:=HC.out l Le.out;clear ji qv Bz
      cases q3:decide (m < l.length) with
      | true =>
       have yQ:Hid (Po.of n m f C M=false):=Lib.hid (by
        have h1:=of_decide_eq_true q3;rw [HF.out,decide_eq_false (fun h=>by have:=h l Le.out;omega)];rfl)
       go_wp2_with fail
       go_ret2
       exact ⟨g9.out,.inr ⟨yQ.out,rfl⟩⟩
      | false =>
       have HL:=Lib.hid (of_decide_eq_false q3)
       go_wp2_with fail
       refine (KU _ b _ _ f CK [] H S _ l U1 HP.out Fg.out hH Lf.out yP.out).mono ?_
       rintro e w5 ⟨rfl,k5,p5⟩
       have yR:=Po.Bx f H l;obtain ⟨r,hr⟩:∃ r,Po.settle f H l=r:=⟨_,rfl⟩
       rw [hr] at p5 yR ⊢;obtain ⟨H5,ok⟩:=r;dsimp only at p5 yR ⊢;have K5:Hid (aj [] w w5):=Lib.hid (g9.out.trans k5 (fun x hx=>.inr (HS.out x hx)));have vZ:=Lib.hid hr;have Fi:=Lib.hid (Lf.out.aT k5 yP.out)
       cases ok with
       | false =>
        have yQ:Hid (Po.of n m f C M=false):=Lib.hid (by
         rw [HF.out,Uq.out _ Ff.out (by rw [vZ.out])];simp)
        clear k5 p5 hr yR
        go_wp2_with fail
        go_ret2
        exact ⟨K5.out,.inr ⟨yQ.out,rfl⟩⟩
       | true =>
        obtain ⟨g2,sX,KV,d2,Ur,⟨v0,dr⟩,fr,sG⟩:=Pl.row p5 (n:=k) (by omega);have Fj:=Lib.hid sG;have Qz:(k:Int) < (CK.length:Int):=by omega
        have Lg:=Lib.hid yR;have HP5:=Lib.hid p5;have aan:=Lib.hid Fh;clear k5 p5 hr sG yR Fh
        go_wp2_with fail
        go_region_law (refine Ob sk (IR.nil w5.drew 3) (Fi.out.then ((aj.refl [] w5).drew)) (by rw [List.length_nil];omega) ?_;intro nN nM w7 U7 r7 k7 s7;have k8:aj [] w5 w7:=((aj.refl [] w5).drew).trans k7 (by simp);have e2:w7.cell? ⟨b,2,none⟩=some (.slice (some ⟨g2,sX,none⟩) CK.length KV):=k8.cell d2 (by simp);have er:w7.cell? ⟨g2,sX + k,none⟩=some v0:=k8.cell dr (by simp);have ef:w7.frozen? ⟨g2,sX + k,none⟩=false:=(World.frozen?_of_block (a:=⟨g2,sX + k,none⟩) (k8.block g2 (block_lt_of_cell dr) (by simp))).trans fr;have R7:=Lib.hid r7;have K8:=Lib.hid k8;have S7:=Lib.hid s7;clear r7 k7 s7 k8)
        all_goals
         obtain ⟨Fk,yS,yT,yU⟩:=Fj.out w7 _ l U7 K8.out (by simpa using R7.out) (fun x hx=>by rcases S7.out x hx with h | h;simp at h;exact h);have HN:Hid (Fa w b n m f C (k + 1) (w7.setCell ⟨g2,sX + k,none⟩ (.slice nN l.length nM))):=Lib.hid ⟨CK.set k l,H5,Fk,yS,by rw [Lb.out];exact Up.out,K5.out.trans yT (fun x hx=>.inr (HS.out x hx)),fun x hx=>by
           rcases yU x hx with h | h
           ·exact HS.out x h
           ·have:=K5.out.size;omega,by
           rw [HT.out,List.flatten_append,Po.vY,show (n:Int).toNat=n from rfl] at *;rw [Ff.out];simpa using vZ.out,fun y hy=>by
           rw [HT.out] at hy;rcases List.mem_append.1 hy with h | h
           ·exact Lc.out y h
           ·simp at h;subst h;have:=HL.out;omega,by rw [Lg.out];exact Fg.out,by rw [Lg.out];exact hH⟩
         clear yS yT yU
         go_wp2_with fail
         go_roundw
         case rel=>exact ⟨k + 1,by omega,by go_num,HN.out⟩
         case measure=>simp [intOf];omega
     ·obtain rfl:k=C.length:=by omega
      have Lh:CK=C:=by rw [Lb.out];simp
      have Fo:=HP.out;rw [Lh] at Fo;have Ut:=Lib.hid Fo;have eE:=Ff.out;rw [List.take_length] at eE;have kA:=Lc.out;rw [List.take_length] at kA;have Lj:Hid (Po.settle f (List.replicate n false) C.flatten=(H,true)):=Lib.hid eE;have Lk:Hid (Po.of n m f C M=(Po.settle f H M).2):=Lib.hid (by
       rw [HF.out,decide_eq_true kA,Po.vY,Lj.out];rfl)
      have Uu:Hid (Po.settle f (List.replicate n false) (C.flatten ++ M)=Po.settle f H M):=Lib.hid (by
       rw [Po.vY,Lj.out];rfl)
      have Lm:=Lib.hid (H2.out.then g9.out);have yP:Hid (∀ x∈U,x∉S):=Lib.hid (fun x hx h=>by have:=KY.out x (HU.out x hx);have:=HS.out x h;omega);have aao:=HM.out;clear Fo eE kA Lh Fh
      go_wp2_with fail
      refine (KU _ b _ _ f C [] H S _ M U Ut.out Fg.out hH Lm.out yP.out).mono ?_
      rintro e w5 ⟨rfl,k5,p5⟩
      obtain ⟨r,hr⟩:∃ r,Po.settle f H M=r:=⟨_,rfl⟩
      have vZ:=Lib.hid hr;rw [hr] at p5 ⊢;obtain ⟨H5,ok⟩:=r;dsimp only at p5 ⊢;have K5:Hid (aj [] w w5):=Lib.hid (g9.out.trans k5 (fun x hx=>.inr (HS.out x hx)));have Fi:=Lib.hid (Lm.out.aT k5 yP.out)
      cases ok with
      | false =>
       have yQ:Hid (Po.of n m f C M=false):=Lib.hid (by rw [Lk.out,vZ.out]);clear k5 p5 hr
       go_wp2_with fail
       go_ret2
       exact ⟨K5.out,.inr ⟨yQ.out,rfl⟩⟩
      | true =>
       obtain ⟨⟨v0,dr⟩,fr,Ur,sG⟩:=Pl.aW p5;have Fj:=Lib.hid sG;clear k5 p5 hr sG
       go_wp2_with (at_builtin;go_must (refine Cz sk (IR.nil w5 3) Fi.out (by rw [List.length_nil];omega) ?_))
       intro nN nM w7 U7 r7 k7 s7;have er:w7.cell? ⟨b,3,none⟩=some v0:=k7.cell dr (by simp);have ef:w7.frozen? ⟨b,3,none⟩=false:=(World.frozen?_of_block (a:=⟨b,3,none⟩) (k7.block b (block_lt_of_cell dr) (by simp))).trans fr;obtain ⟨Fk,yS,yT,yU⟩:=Fj.out w7 _ M U7 k7 (by simpa using r7) (fun x hx=>by have h:=s7 x hx;simpa using h);have Uv:=Lib.hid yS;have Ek:=Lib.hid yT;have Uw:=Lib.hid yU;clear r7 k7 s7 yS yT yU
       go_wp2_with fail
       go_ret2
       refine ⟨K5.out.trans Ek.out (fun x hx=>.inr (HS.out x hx)),.inl ⟨by rw [Lk.out,vZ.out],b,Fk,H5,rfl,Uv.out,fun x hx=>?_,by rw [show (n:Int).toNat=n from rfl,Uu.out,vZ.out]⟩⟩;rcases Uw.out x hx with h | h
       ·exact HS.out x h
       ·have:=K5.out.size;omega
namespace Po
theorem Ln (f:Int):∀ (L:List Int) (H:List Bool),f≤H.length→L.Nodup→(∀ x∈L,0≤x∧x < f∧H.getD x.toNat false=false) →
  (settle f H L).2=true∧∀ j:Nat,(settle f H L).1.getD j false=(H.getD j false || decide ((j:Int)∈L))
 | [],H,hf,nd,hx=>⟨rfl,fun j=>by simp [settle]⟩
 | x :: r,H,hf,nd,hx=>by
  obtain ⟨h0,h1,h2⟩:=hx x (List.mem_cons_self ..);have Lp:=List.nodup_cons.1 nd;have hl:live f H x=true:=by simp only [live,Bool.and_eq_true,decide_eq_true_eq,Bool.not_eq_true'];exact ⟨⟨h0,h1⟩,h2⟩
  have:=Ln f r (H.set x.toNat true) (by rw [List.length_set];exact hf) Lp.2 (fun y hy=>by
   obtain ⟨a,b,c⟩:=hx y (List.mem_cons_of_mem _ hy);refine ⟨a,b,?_⟩;rw [lQ _ _ _ _ _ (by omega),if_neg];exact c;intro e;have:x=y:=by omega
   exact Lp.1 (this ▸ hy))
  unfold settle;rw [if_pos hl];refine ⟨this.1,fun j=>?_⟩;rw [this.2 j,lQ _ _ _ _ _ (by omega)]
  by_cases e:x.toNat=j
  ·rw [if_pos e];have:(j:Int)=x:=by omega
   simp [this]
  ·rw [if_neg e];have:(j:Int)≠x:=by omega
   simp [this]
theorem Ux {size most:Nat} {C:List (List Int)} {M:List Int} {f:Nat} {H0:List Bool} (v:Inv size most ⟨C,M,f,H0⟩) (hC:C.length≤8) :
  of size most f C M=true∧∀ H,settle f (List.replicate size false) (C.flatten ++ M)=(H,true)→Inv size most ⟨C,M,f,H⟩:=by
 have hc:∀ a,(C.flatten ++ M).count a=dN ⟨C,M,f,H0⟩ a:=fun a=>by rw [List.count_append];unfold dN;simp only;omega
 have fl:=v.fl;simp only at fl;have hk:=Ln f (C.flatten ++ M) (List.replicate size false) (by simpa using fl) (List.nodup_iff_count.2 fun a=>by rw [hc];exact v.one a) (fun x hx=>by
  have h1:=v.bound x (by rw [← hc];exact List.count_pos_iff.2 hx);simp only at h1;exact ⟨h1.1,h1.2,by rw [List.getD_eq_getElem?_getD,List.getElem?_replicate];split <;> rfl⟩)
 have ca:=v.qN;simp only at ca;have m1:=v.m1;have m2:=v.m2;have s1:=v.s1;refine ⟨?_,fun H hH=>⟨m1,m2,s1,?_,v.fl,v.one,v.bound,fun x hx=>?_,v.qN⟩⟩
 ·unfold of fits;have a1:decide (0≤(size:Int)∧(size:Int)≤64∧0≤(C.length:Int)∧(C.length:Int)≤8∧1≤(most:Int)∧(most:Int)≤16)=true:=decide_eq_true (by omega);have a2:decide (0≤(f:Int))=true:=decide_eq_true (by omega);have a3:decide ((f:Int)≤(size:Int))=true:=decide_eq_true (by omega);have a4:decide (∀ l∈C,(l.length:Int)≤(most:Int))=true:=decide_eq_true (fun l hl=>by have:=ca l hl;omega);rw [a1,a2,a3,a4,Int.toNat_natCast];exact hk.1
 ·have:=Bx f (List.replicate size false) (C.flatten ++ M);rw [hH] at this;simpa using this
 ·have:=hk.2 x;rw [hH] at this;simp only at this ⊢;rw [this,List.getD_eq_getElem?_getD,List.getElem?_replicate,if_pos hx];simp only [Option.getD_some,Bool.false_or];rw [decide_eq_decide]
  show _↔1≤dN ⟨C,M,f,H0⟩ (x:Int);rw [← hc];exact List.count_pos_iff.symm
end Po
namespace Sx
variable {s:St}
theorem yc {α:Type} {l:List α} {k:Nat} {a z:α} (h:l[k]?=some a) (n:Nat) (hn:n=l.length):(l.take k ++ List.replicate (n - k) z).set k a=l.take (k + 1) ++ List.replicate (n - (k + 1)) z:=by
 have hk:=(List.getElem?_eq_some_iff.1 h).1;have e1:(l.take k).length=k:=by rw [List.length_take];omega
 obtain ⟨d,hd⟩:∃ d,n - k=d + 1:=⟨n - k - 1,by omega⟩
 have E9:n - (k + 1)=d:=by omega
 rw [List.set_append_right _ _ (by omega),e1,Nat.sub_self,hd,E9,List.replicate_succ,List.set_cons_zero,List.take_add_one,h,List.append_assoc];rfl
def bK (s:St) (k:Nat):List (Int × Bool):=(s.gs.map fun x=>(x.status,x.token)).take k ++ List.replicate (s.gs.length - k) (0,false)
theorem Uy (k:Nat) (hk:k≤s.gs.length):(bK s k).length=s.gs.length:=by simp [bK];omega
theorem Uz {k:Nat} (hk:k < s.gs.length) (h:0≤(gr s k).status∧(gr s k).status≤2):Bc.kI (bK s k) (k:Int) (gr s k).status (gr s k).token=bK s (k + 1):=by
 have hx:s.gs[k]?=some (gr s k):=by unfold gr;rw [List.getD_eq_getElem?_getD,List.getElem?_eq_getElem hk];rfl
 have:Bc.j9 (bK s k) (k:Int) (gr s k).status=true:=by
  unfold Bc.j9 Bc.has;rw [Uy k (by omega)];simp only [Bool.and_eq_true,decide_eq_true_eq];omega
 unfold Bc.kI;rw [if_pos this,Int.toNat_natCast];unfold bK;exact yc (by rw [List.getElem?_map,hx];rfl) _ (by simp)
theorem UA (h:s.gs.length≤8):Bc.gR (s.gs.length:Int)=bK s 0:=by
 unfold Bc.gR bK;rw [show (max 0 (min (s.gs.length:Int) 4096)).toNat=s.gs.length by omega];simp
theorem UB:bK s s.gs.length=s.gs.map fun x=>(x.status,x.token):=by
 unfold bK;rw [List.take_of_length_le (by simp),Nat.sub_self];simp
def lK (s:St) (k:Nat):List Int:=(s.an.map (·.lock)).take k ++ List.replicate (s.an.length - k) (-1)
theorem Ls {k:Nat} (hk:k < s.an.length):s.an[k]?=some (cn s ((k:Int) + 1)):=by
 unfold cn;rw [show ((k:Int) + 1 - 1).toNat=k by omega,List.getD_eq_getElem?_getD,List.getElem?_eq_getElem hk];rfl
theorem UC {k:Nat} (hk:k < s.an.length) (h:(cn s ((k:Int) + 1)).lock=-1∨0≤(cn s ((k:Int) + 1)).lock):Lt.kH (lK s k) ((k:Int) + 1 - 1) (cn s ((k:Int) + 1)).lock=lK s (k + 1):=by
 have hx:=Ls hk;have hl:(lK s k).length=s.an.length:=by simp [lK];omega
 have hm:(s.an.map (·.lock))[k]?=some (cn s ((k:Int) + 1)).lock:=by rw [List.getElem?_map,hx];rfl
 have hf:=yc (z:=(-1:Int)) hm s.an.length (by simp);rw [show (k:Int) + 1 - 1=k by omega];have he:(lK s k)[k]?=some (-1):=by
  have e1:((s.an.map (·.lock)).take k).length=k:=by simp;omega
  unfold lK;rw [List.getElem?_append_right (by omega),e1,Nat.sub_self,List.getElem?_replicate,if_pos (by omega)]
 unfold Lt.kH
 split
 ·rw [Int.toNat_natCast];exact hf
 ·rename_i c;have:¬ 0≤(cn s ((k:Int) + 1)).lock:=by
   intro c2;apply c;unfold Lt.kG Lt.has;rw [hl,Int.toNat_natCast,List.getD_eq_getElem?_getD,he];simp only [Bool.and_eq_true,decide_eq_true_eq];exact ⟨⟨⟨by omega,by omega⟩,c2⟩,by simp⟩
  have e:(cn s ((k:Int) + 1)).lock=-1:=by omega
  rw [e] at hf;have:(lK s k).set k (-1)=lK s k:=by
   apply List.ext_getElem?;intro j;rw [List.getElem?_set]
   split
   ·rename_i c3;subst c3;rw [he];simp [hl,hk]
   ·rfl
  unfold lK at this;rw [hf] at this;exact this.symm
theorem UD (h:s.an.length≤8):Lt.gR (s.an.length:Int)=lK s 0:=by
 unfold Lt.gR lK;rw [show (max 0 (min (s.an.length:Int) 4096)).toNat=s.an.length by omega];simp
theorem UE:lK s s.an.length=s.an.map (·.lock):=by
 unfold lK;rw [List.take_of_length_le (by simp),Nat.sub_self];simp
def qK (s:St) (k a b:Nat):List (List Int):=(List.range 16).map fun j =>
 if j / 2 < k then (if j % 2=0 then (cn s ((j / 2:Nat) + 1)).recv else (cn s ((j / 2:Nat) + 1)).send)
 else if j / 2=k then (if j % 2=0 then (cn s ((k:Nat) + 1)).recv.take a else (cn s ((k:Nat) + 1)).send.take b) else []
theorem rJ (k a b:Nat):(qK s k a b).length=16:=by simp [qK]
theorem sY (k a b:Nat) {j:Nat} (hj:j < 16):(qK s k a b)[j]?=some (if j / 2 < k then (if j % 2=0 then (cn s ((j / 2:Nat) + 1)).recv else (cn s ((j / 2:Nat) + 1)).send)
 else if j / 2=k then (if j % 2=0 then (cn s ((k:Nat) + 1)).recv.take a else (cn s ((k:Nat) + 1)).send.take b) else []):=by
 unfold qK;rw [List.getElem?_map,List.getElem?_range hj];rfl
theorem Lu {k a b:Nat} {x:Int} (h:x∈(qK s k a b).flatten):∃ j:Nat,j≤k∧(j < k∧(x∈(cn s ((j:Int) + 1)).recv∨x∈(cn s ((j:Int) + 1)).send)∨j=k∧(x∈(cn s ((k:Int) + 1)).recv.take a∨x∈(cn s ((k:Int) + 1)).send.take b)):=by
 obtain ⟨l,hl,hx⟩:=List.mem_flatten.1 h;unfold qK at hl;obtain ⟨j,hj,rfl⟩:=List.mem_map.1 hl;have hj:j < 16:=by simpa using hj
 by_cases c:j / 2 < k
 ·rw [if_pos c] at hx;refine ⟨j / 2,by omega,.inl ⟨c,?_⟩⟩
  split at hx
  ·exact .inl hx
  ·exact .inr hx
 ·rw [if_neg c] at hx
  split at hx
  ·rename_i c2;refine ⟨k,Nat.le_refl _,.inr ⟨rfl,?_⟩⟩
   split at hx
   ·exact .inl hx
   ·exact .inr hx
  ·simp at hx
theorem Lv {l:List Int} (nd:l.Nodup) {a:Nat} {x:Int} (h:l[a]?=some x):x∉l.take a:=by
 intro hx;obtain ⟨j,hj⟩:=List.getElem?_of_mem hx;have hl:=(List.getElem?_eq_some_iff.1 hj).1;rw [List.length_take] at hl;rw [List.getElem?_take_of_lt (by omega)] at hj;obtain ⟨h1,h2⟩:=List.getElem?_eq_some_iff.1 h;obtain ⟨h3,h4⟩:=List.getElem?_eq_some_iff.1 hj;exact List.pairwise_iff_getElem.1 nd j a h3 h1 (by omega) (h4.trans h2.symm)
structure Qs (s:St):Prop where
 c8:s.an.length≤8
 q:∀ k:Nat,k < s.an.length→∀ i,i∈(cn s ((k:Int) + 1)).recv∨i∈(cn s ((k:Int) + 1)).send→0≤i∧i < s.aB.length∧(su s i).ch=(k:Int) + 1∧((su s i).send=false→i∉(cn s ((k:Int) + 1)).send)∧((su s i).send=true→i∉(cn s ((k:Int) + 1)).recv)
 nd:∀ k:Nat,k < s.an.length→(cn s ((k:Int) + 1)).recv.Nodup∧(cn s ((k:Int) + 1)).send.Nodup
theorem UF (Q:Qs s) {k a:Nat} (hk:k < s.an.length) {x:Int} (hx:(cn s ((k:Int) + 1)).recv[a]?=some x):Qu.push s.aB.length (qK s k a 0) (2 * ((k:Int) + 1) - 2) x=(qK s k (a + 1) 0,true):=by
 have m:=List.mem_of_getElem? hx;have c8:=Q.c8;obtain ⟨i0,i1,i2,i3,i4⟩:=Q.q k hk x (.inl m);have hn:Qu.loc (qK s k a 0) x=none:=by
  rw [Qu.qR];intro hm;obtain ⟨j,j1,⟨j2,j3⟩ | ⟨rfl,j3⟩⟩:=Lu hm
  ·have:=(Q.q j (by omega) x j3).2.2.1;omega
  ·rcases j3 with j3 | j3
   ·exact Lv (Q.nd j hk).1 hx j3
   ·simp at j3
 have e:2 * ((k:Int) + 1) - 2=((2 * k:Nat):Int):=by omega
 have hl:Qu.line (qK s k a 0) ((2 * k:Nat):Int)=true:=by unfold Qu.line;rw [rJ];simp only [Bool.and_eq_true,decide_eq_true_eq];omega
 unfold Qu.push;rw [e,hl,hn,if_pos (by simp only [Option.isNone_none,Bool.true_and,Bool.and_true,Bool.and_eq_true,decide_eq_true_eq];exact ⟨i0,i1⟩)];unfold Qu.row;rw [hl,if_pos rfl,Int.toNat_natCast,List.getD_eq_getElem?_getD,sY k a 0 (j:=2 * k) (by omega)]
 congr 1
 apply List.ext_getElem?;intro j;rw [List.getElem?_set]
 by_cases c:2 * k=j
 ·subst c;rw [if_pos rfl,if_pos (by rw [rJ];omega),sY k (a + 1) 0 (j:=2 * k) (by omega)];have d1:2 * k / 2=k:=by omega
  have d2:2 * k % 2=0:=by omega
  simp only [d1,d2,Nat.lt_irrefl,if_false,if_true,Option.getD_some];rw [List.take_add_one,hx];rfl
 ·rw [if_neg c]
  by_cases c2:j < 16
  ·rw [sY k a 0 c2,sY k (a + 1) 0 c2]
   by_cases c3:j / 2=k
   ·have:j % 2≠0:=by omega
    simp only [this,if_false]
   ·rw [if_neg c3,if_neg c3]
  ·rw [List.getElem?_eq_none (by rw [rJ];omega),List.getElem?_eq_none (by rw [rJ];omega)]
theorem UG (Q:Qs s) {k b:Nat} (hk:k < s.an.length) {x:Int} (hx:(cn s ((k:Int) + 1)).send[b]?=some x) :
  Qu.push s.aB.length (qK s k (cn s ((k:Int) + 1)).recv.length b) (2 * ((k:Int) + 1) - 1) x=(qK s k (cn s ((k:Int) + 1)).recv.length (b + 1),true):=by
 have m:=List.mem_of_getElem? hx;have c8:=Q.c8;obtain ⟨i0,i1,i2,i3,i4⟩:=Q.q k hk x (.inr m);generalize xT:(cn s ((k:Int) + 1)).recv.length=a;have hn:Qu.loc (qK s k a b) x=none:=by
  rw [Qu.qR];intro hm;obtain ⟨j,j1,⟨j2,j3⟩ | ⟨rfl,j3⟩⟩:=Lu hm
  ·have:=(Q.q j (by omega) x j3).2.2.1;omega
  ·rcases j3 with j3 | j3
   ·have j3:=List.mem_of_mem_take j3
    cases c:(su s x).send with
    | false=>exact i3 c m
    | true=>exact i4 c j3
   ·exact Lv (Q.nd j hk).2 hx j3
 have e:2 * ((k:Int) + 1) - 1=((2 * k + 1:Nat):Int):=by omega
 have hl:Qu.line (qK s k a b) ((2 * k + 1:Nat):Int)=true:=by unfold Qu.line;rw [rJ];simp only [Bool.and_eq_true,decide_eq_true_eq];omega
 unfold Qu.push;rw [e,hl,hn,if_pos (by simp only [Option.isNone_none,Bool.true_and,Bool.and_true,Bool.and_eq_true,decide_eq_true_eq];exact ⟨i0,i1⟩)];unfold Qu.row;rw [hl,if_pos rfl,Int.toNat_natCast,List.getD_eq_getElem?_getD,sY k a b (j:=2 * k + 1) (by omega)]
 congr 1
 apply List.ext_getElem?;intro j;rw [List.getElem?_set]
 by_cases c:2 * k + 1=j
 ·subst c;rw [if_pos rfl,if_pos (by rw [rJ];omega),sY k a (b + 1) (j:=2 * k + 1) (by omega)];have d1:(2 * k + 1) / 2=k:=by omega
  have d2:(2 * k + 1) % 2=1:=by omega
  simp only [d1,d2,Nat.lt_irrefl,if_false,if_true,Option.getD_some,Nat.one_ne_zero];rw [List.take_add_one,hx];rfl
 ·rw [if_neg c]
  by_cases c2:j < 16
  ·rw [sY k a b c2,sY k a (b + 1) c2]
   by_cases c3:j / 2=k
   ·have:j % 2=0:=by omega
    simp only [this,if_true]
   ·rw [if_neg c3,if_neg c3]
  ·rw [List.getElem?_eq_none (by rw [rJ];omega),List.getElem?_eq_none (by rw [rJ];omega)]
theorem UH:List.replicate 16 []=qK s 0 0 0:=by
 refine (List.eq_replicate_iff.2 ⟨rJ 0 0 0,fun l hl=>?_⟩).symm;unfold qK at hl;obtain ⟨j,_,rfl⟩:=List.mem_map.1 hl
 split
 ·omega
 ·split
  ·split <;> simp
  ·rfl
theorem UI {k:Nat}:qK s k (cn s ((k:Int) + 1)).recv.length (cn s ((k:Int) + 1)).send.length=qK s (k + 1) 0 0:=by
 unfold qK;refine List.map_congr_left fun j hj=>?_
 by_cases c:j / 2 < k
 ·rw [if_pos c,if_pos (show j / 2 < k + 1 by omega)]
 ·rw [if_neg c]
  by_cases c2:j / 2=k
  ·rw [if_pos c2,if_pos (show j / 2 < k + 1 by omega),List.take_of_length_le (Nat.le_refl _),List.take_of_length_le (Nat.le_refl _),c2]
  ·rw [if_neg c2,if_neg (show ¬ j / 2 < k + 1 by omega)]
   split
   ·split <;> simp
   ·rfl
theorem UJ:qK s s.an.length 0 0=(List.range 16).map fun j=>if j % 2=0 then (cn s ((j / 2:Nat) + 1)).recv else (cn s ((j / 2:Nat) + 1)).send:=by
 unfold qK;refine List.map_congr_left fun j hj=>?_
 by_cases c:j / 2 < s.an.length
 ·rw [if_pos c]
 ·rw [if_neg c];have e:cn s ((j / 2:Nat) + 1)=nu:=by
   unfold cn;rw [List.getD_eq_getElem?_getD,List.getElem?_eq_none (by omega)];rfl
  rw [e]
  split
  ·split <;> simp [nu]
  ·split <;> rfl
theorem Good.qs (h:Good s):Qs s:=by
 have h':=h.toMInv;refine ⟨h.c8,fun k hk i hi=>?_,fun k hk=>?_⟩
 ·have:=Inv.q h'.v ((k:Int) + 1) (by omega) (by omega) i hi;obtain ⟨a1,a2,a3,a4,a5,_⟩:=this;exact ⟨a1,a2,a3,fun e=>(a4 e).2,fun e=>(a5 e).2⟩
 ·exact Inv.nd h'.v ((k:Int) + 1) (by omega) (by omega)
end Sx
namespace Sx
structure Bg (n:Nat) (x:Gr):Prop where
 op:x.ops.length≤n
 oc:∀ o∈x.ops,o.cases.length≤n
 od:x.order.length≤n
 lk:x.aC.length≤n
 sg:x.ak.length≤n
 wk:x.ah.length≤n
structure Bh (n:Nat) (c:Cn):Prop where
 cp:0≤c.cap
 bf:c.buf.length≤n
 rv:c.recv.length≤n
 sd:c.send.length≤n
structure Bd (n:Nat) (s:St):Prop where
 g8:s.gs.length≤8
 c8:s.an.length≤8
 iJ:s.aB.length≤64
 dn:s.done.length≤n
 dr:s.cL.length≤1000
 cl:s.cache.length=s.gs.length
 cb:∀ l∈s.cache,l.length≤n
 mb:s.middle.length≤n
 fr:0≤s.fresh
 gs:∀ x∈s.gs,Bg n x
 cs:∀ c∈s.an,Bh n c
section
variable {n m:Nat} {s:St} {g:Nat}
theorem Bg.mono {x:Gr} (h:Bg n x) (e:n≤m):Bg m x:=⟨Nat.le_trans h.op e,fun o ho=>Nat.le_trans (h.oc o ho) e,Nat.le_trans h.od e,Nat.le_trans h.lk e,Nat.le_trans h.sg e,Nat.le_trans h.wk e⟩
theorem Bh.mono {c:Cn} (h:Bh n c) (e:n≤m):Bh m c:=⟨h.cp,Nat.le_trans h.bf e,Nat.le_trans h.rv e,Nat.le_trans h.sd e⟩
theorem Bd.mono (h:Bd n s) (e:n≤m):Bd m s:=⟨h.g8,h.c8,h.iJ,Nat.le_trans h.dn e,h.dr,h.cl,fun l hl=>Nat.le_trans (h.cb l hl) e,Nat.le_trans h.mb e,h.fr,fun x hx=>(h.gs x hx).mono e,fun c hc=>(h.cs c hc).mono e⟩
theorem Bd.gr (h:Bd n s) (g:Nat):Bg n (gr s g):=by
 unfold Sx.gr;rw [List.getD_eq_getElem?_getD]
 cases e:s.gs[g]? with
 | none=>exact ⟨by simp [clean],by simp [clean],by simp [clean],by simp [clean],by simp [clean],by simp [clean]⟩
 | some x=>exact h.gs x (List.mem_of_getElem? e)
theorem Bd.cn (h:Bd n s) (c:Int):Bh n (cn s c):=by
 unfold Sx.cn;rw [List.getD_eq_getElem?_getD]
 cases e:s.an[(c - 1).toNat]? with
 | none=>exact ⟨by simp [nu],by simp [nu],by simp [nu],by simp [nu]⟩
 | some x=>exact h.cs x (List.mem_of_getElem? e)
theorem Bd.aa (h:Bd n s) {x:Gr} (hx:Bg n x):Bd n (aa s g x) :=
 ⟨by simpa [Sx.aa] using h.g8,h.c8,h.iJ,h.dn,h.dr,by simpa [Sx.aa] using h.cl,h.cb,h.mb,h.fr,fun y hy=>by
  rcases List.mem_or_eq_of_mem_set hy with hy | rfl
  ·exact h.gs y hy
  ·exact hx,h.cs⟩
theorem Bd.av (h:Bd n s) {c:Int} {x:Cn} (hx:Bh n x):Bd n (av s c x) :=
 ⟨h.g8,by simpa [Sx.av] using h.c8,h.iJ,h.dn,h.dr,h.cl,h.cb,h.mb,h.fr,h.gs,fun y hy=>by
  rcases List.mem_or_eq_of_mem_set hy with hy | rfl
  ·exact h.cs y hy
  ·exact hx⟩
theorem Bd.aF (h:Bd n s) {i:Int} {x:Su}:Bd n (aF s i x):=⟨h.g8,h.c8,by simpa [Sx.aF] using h.iJ,h.dn,h.dr,h.cl,h.cb,h.mb,h.fr,h.gs,h.cs⟩
theorem Bg.as {x y:Gr} (h:Bg n x) (e:y.ops=x.ops∧y.order=x.order∧y.aC=x.aC∧y.ak=x.ak∧y.ah=x.ah:=by exact ⟨rfl,rfl,rfl,rfl,rfl⟩):Bg n y:=by
 obtain ⟨e1,e2,e3,e4,e5⟩:=e;exact ⟨e1 ▸ h.op,e1 ▸ h.oc,e2 ▸ h.od,e3 ▸ h.lk,e4 ▸ h.sg,e5 ▸ h.wk⟩
theorem Bd.qg (h:Bd n s) {y:Gr} (e:y.ops=(Sx.gr s g).ops∧y.order=(Sx.gr s g).order∧y.aC=(Sx.gr s g).aC∧y.ak=(Sx.gr s g).ak∧y.ah=(Sx.gr s g).ah:=by exact ⟨rfl,rfl,rfl,rfl,rfl⟩):Bd n (Sx.aa s g y):=h.aa ((h.gr g).as e)
theorem Bd.aE (h:Bd n s) {p:Int}:Bd n (aE s g p):=h.qg
theorem Bd.clear (h:Bd n s):Bd n (clear s g):=h.aa ⟨(h.gr g).op,(h.gr g).oc,by simp [gu,clean],by simp [gu,clean],by simp [gu,clean],by simp [gu,clean]⟩
theorem Bd.free (h:Bd n s) {c:Int}:Bd n (free s c):=h.av ⟨(h.cn c).cp,(h.cn c).bf,(h.cn c).rv,(h.cn c).sd⟩
theorem Bd.tryLock (h:Bd n s) {c:Int}:Bd n (tryLock s g c).1:=by
 unfold Sx.tryLock
 split
 ·exact h.av ⟨(h.cn c).cp,(h.cn c).bf,(h.cn c).rv,(h.cn c).sd⟩
 ·exact h
theorem Bd.drop (h:Bd n s) {i:Int}:Bd n (drop s i):=by
 unfold Sx.drop
 split
 ·exact h.av ⟨(h.cn _).cp,(h.cn _).bf,Nat.le_trans (List.length_filter_le _ _) (h.cn _).rv,Nat.le_trans (List.length_filter_le _ _) (h.cn _).sd⟩
 ·exact h
theorem Bd.fh (h:Bd n s):Bd n (fh s g):=by
 unfold Sx.fh;refine h.aa ?_
 split
 ·exact (h.gr g).as
 ·split
  ·exact (h.gr g).as
  ·exact h.gr g
theorem Bd.ready (h:Bd n s):Bd n (ready s g):=by
 unfold Sx.ready;refine h.aa ?_
 split
 ·exact (h.gr g).as
 ·split
  ·exact (h.gr g).as
  ·exact h.gr g
theorem Bd.pair (h:Bd n s) {i:Int}:Bd n (pair s g i):=by
 unfold Sx.pair;exact (h.qg).aa ((h.gr g).as)
theorem Bd.ah (h:Bd n s):Bd n (ah s g):=by
 unfold Sx.ah
 split <;> exact h.aE
theorem Bd.serve (h:Bd n s) {i:Int} {d:Bool}:Bd (n + 1) (serve s g i d):=by
 unfold Sx.serve;have h2:Bd n (Sx.aF (Sx.aa s (su s i).g.toNat { Sx.gr s (su s i).g.toNat with param:=i }) i { su s i with done:=d }):=(h.qg).aF;have h3:=h2.gr g;refine (h2.mono (Nat.le_succ n)).aa ?_;exact ⟨Nat.le_succ_of_le h3.op,fun o ho=>Nat.le_succ_of_le (h3.oc o ho),Nat.le_succ_of_le h3.od,Nat.le_succ_of_le h3.lk,Nat.le_succ_of_le h3.sg,by
  have:=h3.wk;simp only [List.length_append,List.length_singleton];exact Nat.add_le_add_right this 1⟩
theorem Bd.UK (h:Bd n s) (g:Nat):(s.cache.getD g []).length≤n:=by
 rw [List.getD_eq_getElem?_getD]
 cases e:s.cache[g]? with
 | none=>simp
 | some x=>exact h.cb x (List.mem_of_getElem? e)
theorem Bd.dU (h:Bd n s) {x:Int}:Bd (2 * n + 1) (dU s g x):=by
 have c:=h.UK g;have mb:=h.mb;unfold Sx.dU;have h2:Bd (2 * n + 1) s:=h.mono (by omega)
 split
 ·refine ⟨h2.g8,h2.c8,h2.iJ,h2.dn,h2.dr,by simpa using h2.cl,fun l hl=>?_,?_,h2.fr,h2.gs,h2.cs⟩
  ·rcases List.mem_or_eq_of_mem_set hl with hl | rfl
   ·exact h2.cb l hl
   ·rw [List.length_append,List.length_take,List.length_singleton];omega
  ·simp only [List.length_append,List.length_take,List.length_reverse];omega
 ·exact h2
theorem Bd.bR (h:Bd n s) {x:Int}:Bd (2 * n + 1) (bR s g x):=h.dU.aF
theorem Bd.common (h:Bd n s):Bd (2 * n + 1) (common s g).1:=by
 have h2:Bd (2 * n + 1) s:=h.mono (by omega);unfold Sx.common;dsimp only
 split
 ·split
  ·split
   ·exact h2.tryLock.aE
   ·exact h2.tryLock.aE
  ·exact h2
 ·split
  ·exact h2.free.aE
  ·split
   ·exact h2.aE.fh
   ·split
    ·refine Bd.aE (Bd.aa h.bR ?_);exact ((h2.gr g).as)
    ·split
     ·exact h2.free.ah
     ·split
      ·refine Bd.ah (Bd.aa h2.ready ?_);have:=h2.gr g;exact ⟨this.op,this.oc,this.od,this.lk,this.sg,by have:=this.wk;simp;omega⟩
      ·exact h2
end
theorem uQ {C:List (List Int)} {l:List Int} (h:l∈C):l.length≤C.flatten.length:=by
 induction C with
 | nil=>simp at h
 | cons a C ih =>
  rcases List.mem_cons.1 h with rfl | h
  ·simp
  ·have:=ih h;rw [List.flatten_cons,List.length_append];omega
end Sx
end Go.Proofs.YtofnbflkhgammaaGreat
