/-
  What the laws need, part B30.
  Conditions: none.
-/
import Derived.Test.YtdjhhbpedllnhaaGreatB29
set_option linter.unusedVariables false
set_option linter.unusedSimpArgs false
set_option linter.unnecessarySimpa false
set_option maxHeartbeats 2000000
namespace Go.Proofs.YtdjhhbpedllnhaaGreat
open Go.RowKit
namespace Sx
def qw (s:ah) (g:Nat) (k:Pn.Cs):ah × Md.aj × Bool × Bool :=
  if (cn s k.ch).closed=true then (s,⟨3,0,0,false,0⟩,true,false)
  else if (cn s k.ch).recv.length=0 then
    (if (fo (cn s k.ch).buf (cn s k.ch).cap k.v).2=true then (aE s k.ch { cn s k.ch with buf:=(fo (cn s k.ch).buf (cn s k.ch).cap k.v).1 },⟨1,0,0,true,0⟩,true,false)
     else (s,⟨0,0,0,false,0⟩,false,false))
  else (taken s g ((cn s k.ch).recv.headD 0) 26 27,⟨0,0,0,false,0⟩,false,true)
def qA (s:ah) (g:Nat) (k:Pn.Cs):ah × Md.aj × Bool × Bool :=
  if (cn s k.ch).send.length=0 then
    (if (dF (cn s k.ch).buf).2.2=true then (aE s k.ch { cn s k.ch with buf:=(dF (cn s k.ch).buf).1 },⟨1,0,(dF (cn s k.ch).buf).2.1,true,0⟩,true,false)
     else if (cn s k.ch).closed=true then (s,⟨1,0,0,false,0⟩,true,false)
     else (s,⟨0,0,0,false,0⟩,false,false))
  else (taken s g ((cn s k.ch).send.headD 0) 26 27,⟨0,0,0,false,0⟩,false,true)
def polled (s:ah) (g:Nat) (o:Pn.Op) (i:Int) (r:ah × Md.aj × Bool × Bool):ah :=
 if r.2.2.2=true then dG r.1 g
 else if r.2.2.1=true then cZ r.1 g { r.2.1 with cs:=i } i
 else if (aa s g).k + 1 < (aa s g).order.length then next s g 25
 else if o.de=true then cZ s g ⟨2,-1,0,false,0⟩ (-1)
 else next (ai s g { aa s g with aq:=List.replicate o.cases.length (-1) }) g 28
theorem VR {s:ah} {g:Nat} {o:Pn.Op} {i:Int} (hi:ax (aa s g).order (aa s g).k=i):fq s g o=polled s g o i (if (aH o i).send=true then qw s g (aH o i) else qA s g (aH o i)):=by
 unfold fq polled;dsimp only;rw [hi];generalize aH o i=k;have fz:∀ (t:ah) (r:Md.aj) (j:Int),cZ t g { r with cs:=j } j=cZ t g r j:=fun t r j=>rfl
 by_cases sd:k.send=true
 ·rw [if_pos sd,if_pos sd];unfold fX qw;dsimp only
  by_cases a1:(cn s k.ch).closed=true
  ·simp only [a1,if_true];rfl
  ·by_cases a2:(cn s k.ch).recv.length=0
   ·by_cases a3:(fo (cn s k.ch).buf (cn s k.ch).cap k.v).2=true
    ·simp [a1,a2,a3];rfl
    ·simp [a1,a2,a3];rfl
   ·simp only [a1,a2,if_false,Bool.false_eq_true,if_true];rw [if_pos (show 0 < (cn s k.ch).recv.length by omega),if_pos (show ((dG (taken s g ((cn s k.ch).recv.headD 0) 26 27) g,true):ah × Bool).2=true from rfl)]
 ·rw [if_neg sd,if_neg sd];unfold gE qA;dsimp only
  by_cases a2:(cn s k.ch).send.length=0
  ·by_cases a3:(dF (cn s k.ch).buf).2.2=true
   ·simp [a2,a3];rfl
   ·by_cases a1:(cn s k.ch).closed=true
    ·simp [a1,a2,a3];rfl
    ·simp [a1,a2,a3];rfl
  ·simp only [a2,if_false];rw [if_pos (show 0 < (cn s k.ch).send.length by omega),if_pos (show ((dG (taken s g ((cn s k.ch).send.headD 0) 26 27) g,true):ah × Bool).2=true from rfl)];rfl
end Sx
namespace Fl
open Sx Go.Proofs.Tryz
set_option maxRecDepth 100000
theorem LU {s:ah} {k:Nat} (hk:k < s.av.length):(s.av.map fun c=>[bI c.closed])[((k:Int)).toNat]?=some [bI (cn s ((k:Int) + 1)).closed]:=by rw [Int.toNat_natCast,List.getElem?_map,mY hk];rfl
def wQ (s:ah) (g:Nat) (l:List Int):Prop:=∀ i r,l=i :: r→0≤i∧i < s.aA.length∧(0≤(su s i).cs∨∃ o,oz s g o i)
theorem VS (b:Nat) (u:U) (s:ah) (g k:Nat) (c:Pn.Cs) (hg:g < s.gs.length) (Q:Qs s) (h:pG s c.ch k) (hq:wQ s g (cn s ((k:Int) + 1)).recv) :
  an prog 142 [.c (.v (pt b)),.c (nI g),.agg (mc c)] (wd b u s) (fun _:Unit=>(.bp [.agg (qZ (qw s g c).2.1),.c (bI (qw s g c).2.2.1),.c (bI (qw s g c).2.2.2)],wd b u (qw s g c).1)):=by
 haveI:Sx.bJ g s:=⟨hg⟩
 obtain ⟨he,hk,h8,c0,bl⟩:=h;have w1:IntKind.i64.wrap (c.ch - 1)=(k:Int):=by rw [dJ (by omega) (by omega)];omega
 have i0:(0:Int)≤(k:Int):=by omega
 have i1:(k:Int) < (s.av.map fun c=>[bI c.closed]).length:=by rw [List.length_map];omega
 have i2:(k:Int) < ((List.range s.av.length).map fun i=>[A.v (u.rs i)]).length:=by rw [List.length_map,List.length_range];omega
 have AC:=LU hk;have AR:=FU (u:=u) hk;have RC:=LF c.ch k he h8;have C1:=Ly b u s g (2 * ((k:Int) + 1) - 2) 26 27 (cn s ((k:Int) + 1)).recv hg Q (Ec (by omega)) hq;have CP:=Vj b u s c.v hk h8 c0;unfold zK at C1;unfold qw;rw [he];refine an.intro func142 rfl rfl rfl (fun ok e=>?_)
 repeat (first | refine ay ?_ | intro _)
 cases cl:(cn s ((k:Int) + 1)).closed with
 | true =>
  rw [cl] at AC;rw [if_pos rfl];refine J.draw (by kernel_rfl) rfl ?_;refine JW.base none ?_;refine tk 0 ?_;refine tk 1 ?_;refine tk 2 ?_;refine tk 3 ?_;refine tk 4 ?_;refine tk 5 ?_;refine JD.take 6 rfl rfl (by kernel_rfl) rfl (qb rfl) (Qt.cJ rfl rfl rfl w1) rfl ?_;refine JD.take 7 rfl rfl (by kernel_rfl) rfl (qb rfl) (Qt.aI rfl rfl i0 i1) rfl ?_;refine JD.take 8 rfl rfl (by kernel_rfl) rfl (qb rfl) (Qt.aL rfl AC rfl) rfl ?_;refine bE ?_
  repeat (first | (refine K.store ?_;refine JO.ld (Ld.bq rfl rfl rfl (by exact rfl) (by exact rfl)) rfl (fun _=>?_)) | refine gn ?_)
  (exact J.fC [_,_] rfl func142 rfl (.cons (.cell 0 rfl rfl rfl) (.cons (.tmp rfl) (.cons (.tmp rfl) .nil))) () (by exact .refl) rfl)
 | false =>
 rw [cl] at AC;rw [if_neg (by simp)];refine J.draw (by kernel_rfl) rfl ?_;refine JW.base none ?_;refine tk 0 ?_;refine tk 1 ?_;refine tk 2 ?_;refine tk 3 ?_;refine tk 4 ?_;refine tk 5 ?_;refine JD.take 6 rfl rfl (by kernel_rfl) rfl (qb rfl) (Qt.cJ rfl rfl rfl w1) rfl ?_;refine JD.take 7 rfl rfl (by kernel_rfl) rfl (qb rfl) (Qt.aI rfl rfl i0 i1) rfl ?_;refine JD.take 8 rfl rfl (by kernel_rfl) rfl (qb rfl) (Qt.aL rfl AC rfl) rfl ?_;refine bE ?_
 by_cases hl:(cn s ((k:Int) + 1)).recv.length=0
 case neg =>
  rw [if_neg hl] at C1 ⊢
  repeat (first | (refine K.store ?_;refine JO.ld (Ld.bq rfl rfl rfl (by exact rfl) (by exact rfl)) rfl (fun _=>?_)) | (refine K.call ?_;first | (refine JO.pure RC rfl (qb rfl) rfl (.cons .refl .nil) ?_) | (refine JO.ld (Ld.aY C1 (qb rfl) rfl (.cons .refl (.cons .refl (.cons .refl (.cons .refl (.cons .refl .nil)))))) rfl ?_;intro _)) | refine gn ?_)
  (exact J.fC [_,_] rfl func142 rfl (.cons (.cell 0 rfl rfl rfl) (.cons (.tmp rfl) (.cons (.tmp rfl) .nil))) () (by exact .refl) rfl)
 rw [if_pos hl] at C1 ⊢
 repeat (first | (refine K.call ?_;first | (refine JO.pure RC rfl (qb rfl) rfl (.cons .refl .nil) ?_) | (refine JO.ld (Ld.aY C1 (qb rfl) rfl (.cons .refl (.cons .refl (.cons .refl (.cons .refl (.cons .refl .nil)))))) rfl ?_;intro _)) | refine gn ?_)
 cases rp:(fo (cn s ((k:Int) + 1)).buf (cn s ((k:Int) + 1)).cap c.v).2 with
 | true =>
  rw [rp] at CP;rw [if_pos rfl];refine J.draw (by kernel_rfl) rfl ?_;refine JW.base (some 11) ?_;refine JD.bz 0 rfl rfl (by kernel_rfl) rfl (qb rfl) (Qt.move rfl) rfl ?_;refine JD.bz 1 rfl rfl (by kernel_rfl) rfl (qb rfl) (Qt.nilCheck rfl rfl) rfl ?_;refine JD.bz 2 rfl rfl (by kernel_rfl) rfl (qb rfl) (Qt.fieldAddr rfl rfl) rfl ?_
  (refine JD.bz 3 rfl rfl (by kernel_rfl) rfl (qb rfl) (Qt.hJ rfl (by exact rfl)) rfl ?_)
  refine JD.bz 4 rfl rfl (by kernel_rfl) rfl (qb rfl) (Qt.fieldAddr rfl rfl) rfl ?_
  (refine JD.bz 5 rfl rfl (by kernel_rfl) rfl (qb rfl) (Qt.hJ rfl (by exact rfl)) rfl ?_)
  refine JD.bz 6 rfl rfl (by kernel_rfl) rfl (qb rfl) (Qt.cJ rfl rfl rfl w1) rfl ?_;refine JD.bz 7 rfl rfl (by kernel_rfl) rfl (qb rfl) (Qt.aI rfl rfl i0 i2) rfl ?_;refine JD.take 8 rfl rfl (by kernel_rfl) rfl (qb rfl) (Qt.aL rfl AR rfl) rfl ?_;refine JD.bz 9 rfl rfl (by kernel_rfl) rfl (qb rfl) (Qt.fieldAddr rfl rfl) rfl ?_;refine tk 10 ?_;refine jt 11 rfl rfl (Ld.aY CP (qb rfl) rfl (.cons .refl (.cons .refl .nil))) (fun _=>?_);refine bR ?_
  repeat (first | (refine K.store ?_;refine JO.ld (Ld.bq rfl rfl rfl (by exact rfl) (by exact rfl)) rfl (fun _=>?_)) | refine gn ?_)
  (exact J.fC [_,_] rfl func142 rfl (.cons (.cell 0 rfl rfl rfl) (.cons (.tmp rfl) (.cons (.tmp rfl) .nil))) () (by exact .refl) rfl)
 | false =>
  have es:aE s ((k:Int) + 1) { cn s ((k:Int) + 1) with buf:=(fo (cn s ((k:Int) + 1)).buf (cn s ((k:Int) + 1)).cap c.v).1 }=s:=by
   have:(fo (cn s ((k:Int) + 1)).buf (cn s ((k:Int) + 1)).cap c.v).1=(cn s ((k:Int) + 1)).buf:=by
    unfold fo at rp ⊢
    split at rp
    ·rename_i a;rw [if_pos a]
    ·cases rp
   rw [this];exact Lz hk
  rw [rp,es] at CP;rw [if_neg (by simp)];refine J.draw (by kernel_rfl) rfl ?_;refine JW.base (some 11) ?_;refine JD.bz 0 rfl rfl (by kernel_rfl) rfl (qb rfl) (Qt.move rfl) rfl ?_;refine JD.bz 1 rfl rfl (by kernel_rfl) rfl (qb rfl) (Qt.nilCheck rfl rfl) rfl ?_;refine JD.bz 2 rfl rfl (by kernel_rfl) rfl (qb rfl) (Qt.fieldAddr rfl rfl) rfl ?_
  (refine JD.bz 3 rfl rfl (by kernel_rfl) rfl (qb rfl) (Qt.hJ rfl (by exact rfl)) rfl ?_)
  refine JD.bz 4 rfl rfl (by kernel_rfl) rfl (qb rfl) (Qt.fieldAddr rfl rfl) rfl ?_
  (refine JD.bz 5 rfl rfl (by kernel_rfl) rfl (qb rfl) (Qt.hJ rfl (by exact rfl)) rfl ?_)
  refine JD.bz 6 rfl rfl (by kernel_rfl) rfl (qb rfl) (Qt.cJ rfl rfl rfl w1) rfl ?_;refine JD.bz 7 rfl rfl (by kernel_rfl) rfl (qb rfl) (Qt.aI rfl rfl i0 i2) rfl ?_;refine JD.take 8 rfl rfl (by kernel_rfl) rfl (qb rfl) (Qt.aL rfl AR rfl) rfl ?_;refine JD.bz 9 rfl rfl (by kernel_rfl) rfl (qb rfl) (Qt.fieldAddr rfl rfl) rfl ?_;refine tk 10 ?_;refine jt 11 rfl rfl (Ld.aY CP (qb rfl) rfl (.cons .refl (.cons .refl .nil))) (fun _=>?_);refine bR ?_
  repeat (first | (refine K.store ?_;refine JO.ld (Ld.bq rfl rfl rfl (by exact rfl) (by exact rfl)) rfl (fun _=>?_)) | refine gn ?_)
  (exact J.fC [_,_] rfl func142 rfl (.cons (.cell 0 rfl rfl rfl) (.cons (.tmp rfl) (.cons (.tmp rfl) .nil))) () (by exact .refl) rfl)
theorem VT (b:Nat) (u:U) (s:ah) (g k:Nat) (c:Pn.Cs) (hg:g < s.gs.length) (Q:Qs s) (h:pG s c.ch k) (hq:wQ s g (cn s ((k:Int) + 1)).send) :
  an prog 143 [.c (.v (pt b)),.c (nI g),.agg (mc c)] (wd b u s) (fun _:Unit=>(.bp [.agg (qZ (qA s g c).2.1),.c (bI (qA s g c).2.2.1),.c (bI (qA s g c).2.2.2)],wd b u (qA s g c).1)):=by
 haveI:Sx.bJ g s:=⟨hg⟩
 obtain ⟨he,hk,h8,c0,bl⟩:=h;have w1:IntKind.i64.wrap (c.ch - 1)=(k:Int):=by rw [dJ (by omega) (by omega)];omega
 have i0:(0:Int)≤(k:Int):=by omega
 have i1:(k:Int) < (s.av.map fun c=>[bI c.closed]).length:=by rw [List.length_map];omega
 have i2:(k:Int) < ((List.range s.av.length).map fun i=>[A.v (u.rs i)]).length:=by rw [List.length_map,List.length_range];omega
 have AC:=LU hk;have AR:=FU (u:=u) hk;have RC:=LG c.ch k he h8;have C1:=Ly b u s g (2 * ((k:Int) + 1) - 1) 26 27 (cn s ((k:Int) + 1)).send hg Q (Ed (by omega)) hq;have GT:=Vq b u s hk h8;unfold zK at C1;unfold qA;rw [he];refine an.intro func143 rfl rfl rfl (fun ok e=>?_)
 by_cases hl:(cn s ((k:Int) + 1)).send.length=0
 case neg =>
  rw [if_neg hl] at C1 ⊢
  repeat (first | (refine K.store ?_;refine JO.ld (Ld.bq rfl rfl rfl (by exact rfl) (by exact rfl)) rfl (fun _=>?_)) | (refine K.call ?_;first | (refine JO.pure RC rfl (qb rfl) rfl (.cons .refl .nil) ?_) | (refine JO.ld (Ld.aY C1 (qb rfl) rfl (.cons .refl (.cons .refl (.cons .refl (.cons .refl (.cons .refl .nil)))))) rfl ?_;intro _)) | refine ay ?_ | intro _)
  (exact J.fC [_,_] rfl func143 rfl (.cons (.cell 0 rfl rfl rfl) (.cons (.tmp rfl) (.cons (.tmp rfl) .nil))) () (by exact .refl) rfl)
 rw [if_pos hl] at C1 ⊢
 repeat (first | (refine K.call ?_;first | (refine JO.pure RC rfl (qb rfl) rfl (.cons .refl .nil) ?_) | (refine JO.ld (Ld.aY C1 (qb rfl) rfl (.cons .refl (.cons .refl (.cons .refl (.cons .refl (.cons .refl .nil)))))) rfl ?_;intro _)) | refine ay ?_ | intro _)
 have es:(dF (cn s ((k:Int) + 1)).buf).2.2=false→aE s ((k:Int) + 1) { cn s ((k:Int) + 1) with buf:=(dF (cn s ((k:Int) + 1)).buf).1 }=s:=fun c=>by
  have:(dF (cn s ((k:Int) + 1)).buf).1=(cn s ((k:Int) + 1)).buf:=by
   unfold dF at c ⊢
   split at c
   ·rename_i a;rw [if_pos a]
   ·cases c
  rw [this];exact Lz hk
 generalize hS:aE s ((k:Int) + 1) { cn s ((k:Int) + 1) with buf:=(dF (cn s ((k:Int) + 1)).buf).1 }=S1 at GT es ⊢;clear hS;generalize (dF (cn s ((k:Int) + 1)).buf).2.2=o2 at GT es ⊢;generalize (dF (cn s ((k:Int) + 1)).buf).2.1=v at GT ⊢;refine J.draw (by kernel_rfl) rfl ?_;refine JW.base (some 9) ?_;refine JD.bz 0 rfl rfl (by kernel_rfl) rfl (qb rfl) (Qt.move rfl) rfl ?_;refine JD.bz 1 rfl rfl (by kernel_rfl) rfl (qb rfl) (Qt.nilCheck rfl rfl) rfl ?_;refine JD.bz 2 rfl rfl (by kernel_rfl) rfl (qb rfl) (Qt.fieldAddr rfl rfl) rfl ?_
 (refine JD.bz 3 rfl rfl (by kernel_rfl) rfl (qb rfl) (Qt.hJ rfl (by exact rfl)) rfl ?_)
 refine JD.bz 4 rfl rfl (by kernel_rfl) rfl (qb rfl) (Qt.fieldAddr rfl rfl) rfl ?_
 (refine JD.bz 5 rfl rfl (by kernel_rfl) rfl (qb rfl) (Qt.hJ rfl (by exact rfl)) rfl ?_)
 refine JD.bz 6 rfl rfl (by kernel_rfl) rfl (qb rfl) (Qt.cJ rfl rfl rfl w1) rfl ?_;refine JD.bz 7 rfl rfl (by kernel_rfl) rfl (qb rfl) (Qt.aI rfl rfl i0 i2) rfl ?_;refine JD.take 8 rfl rfl (by kernel_rfl) rfl (qb rfl) (Qt.aL rfl AR rfl) rfl ?_;refine jt 9 rfl rfl (Ld.aY GT (qb rfl) rfl (.cons .refl .nil)) (fun _=>?_);refine JW.base none ?_;refine jk 10 rfl rfl rfl rfl (Qt.move rfl) ?_;refine JD.cU (i:=11) (j:=12) (by kernel_rfl) ?_ ?_;refine JS.q rfl rfl rfl (qb rfl) (Qt.extract rfl rfl) ?_;refine tk 13 ?_;refine jk 12 rfl rfl rfl rfl (Qt.extract rfl rfl) ?_;refine jk 14 rfl rfl rfl rfl (Qt.assign rfl) ?_;refine bE ?_
 rotate_left
 refine JS.q rfl rfl rfl (qb rfl) (Qt.extract rfl rfl) ?_;refine jk 11 rfl rfl rfl rfl (Qt.extract rfl rfl) ?_;refine jk 13 rfl rfl rfl rfl (Qt.assign rfl) ?_;refine jk 14 rfl rfl rfl rfl (Qt.assign rfl) ?_;refine bE ?_
 rotate_left
 all_goals
  cases o2 with
  | true =>
   rw [if_pos rfl]
   repeat (first | (refine K.store ?_;refine JO.ld (Ld.bq rfl rfl rfl (by exact rfl) (by exact rfl)) rfl (fun _=>?_)) | refine gn ?_)
   (exact J.fC [_,_] rfl func143 rfl (.cons (.cell 0 rfl rfl rfl) (.cons (.tmp rfl) (.cons (.tmp rfl) .nil))) () (by exact .refl) rfl)
  | false =>
   cases es rfl;rw [if_neg (by simp)]
   repeat (refine gn ?_)
   cases cl:(cn s ((k:Int) + 1)).closed with
   | true =>
    rw [cl] at AC;rw [if_pos rfl];refine J.draw (by kernel_rfl) rfl ?_;refine JW.base none ?_;refine tk 0 ?_;refine tk 1 ?_;refine tk 2 ?_;refine tk 3 ?_;refine tk 4 ?_;refine tk 5 ?_;refine JD.take 6 rfl rfl (by kernel_rfl) rfl (qb rfl) (Qt.cJ rfl rfl rfl w1) rfl ?_;refine JD.take 7 rfl rfl (by kernel_rfl) rfl (qb rfl) (Qt.aI rfl rfl i0 i1) rfl ?_;refine JD.take 8 rfl rfl (by kernel_rfl) rfl (qb rfl) (Qt.aL rfl AC rfl) rfl ?_;refine bE ?_
    repeat (first | (refine K.store ?_;refine JO.ld (Ld.bq rfl rfl rfl (by exact rfl) (by exact rfl)) rfl (fun _=>?_)) | refine gn ?_)
    (exact J.fC [_,_] rfl func143 rfl (.cons (.cell 0 rfl rfl rfl) (.cons (.tmp rfl) (.cons (.tmp rfl) .nil))) () (by exact .refl) rfl)
   | false =>
    rw [cl] at AC;rw [if_neg (by simp)];refine J.draw (by kernel_rfl) rfl ?_;refine JW.base none ?_;refine tk 0 ?_;refine tk 1 ?_;refine tk 2 ?_;refine tk 3 ?_;refine tk 4 ?_;refine tk 5 ?_;refine JD.take 6 rfl rfl (by kernel_rfl) rfl (qb rfl) (Qt.cJ rfl rfl rfl w1) rfl ?_;refine JD.take 7 rfl rfl (by kernel_rfl) rfl (qb rfl) (Qt.aI rfl rfl i0 i1) rfl ?_;refine JD.take 8 rfl rfl (by kernel_rfl) rfl (qb rfl) (Qt.aL rfl AC rfl) rfl ?_;refine bE ?_
    repeat (first | (refine K.store ?_;refine JO.ld (Ld.bq rfl rfl rfl (by exact rfl) (by exact rfl)) rfl (fun _=>?_)) | refine gn ?_)
    (exact J.fC [_,_] rfl func143 rfl (.cons (.cell 0 rfl rfl rfl) (.cons (.tmp rfl) (.cons (.tmp rfl) .nil))) () (by exact .refl) rfl)
theorem VU {s:ah} {g:Nat} {r:Md.aj} (hg:g < s.gs.length):Sx.cZ s g r r.cs=Sx.unlock (aK (aK (aK s g fun x=>{ x with res:=r }) g fun x=>{ x with bT:=s.step }) g fun x=>{ x with dm:=r.cs }) g 30:=by
 haveI:Sx.bJ g s:=⟨hg⟩
 rw [uA hg,gR Sx.bJ.h,gR hg];unfold aK;rw [rS hg]
theorem F9 (b:Nat) (u:U) (s:ah) (g:Nat) (r:Md.aj) (hg:g < s.gs.length) :
  an prog 144 [.c (.v (pt b)),.c (nI g),.agg (qZ r)] (wd b u s) (fun _:Unit=>(.bp [],wd b u (Sx.cZ s g r r.cs))):=by
 haveI:Sx.bJ g s:=⟨hg⟩
 rw [VU hg];have C1:=uQ b u (aK (aK (aK s g fun x=>{ x with res:=r }) g fun x=>{ x with bT:=s.step }) g fun x=>{ x with dm:=r.cs }) g 30 Sx.bJ.h;refine an.intro func144 rfl rfl rfl (fun ok e=>?_)
 repeat (first | (refine K.store ?_;first | (first | refine JO.ld (Ld.bL rfl rfl (by exact rfl) aN) rfl (fun _=>?_) | refine JO.ld (Ld.tO rfl rfl rfl (by exact rfl) (by exact rfl) aN) rfl (fun _=>?_));refine JO.cH b g (fun x=>{ x with res:=r }) (by exact rfl) ?_ | ((refine JO.ld (Ld.bL rfl rfl (by exact rfl) aN) rfl (fun _=>?_)));refine JO.cH b g (fun x=>{ x with bT:=s.step }) (by exact rfl) ?_ | ((refine JO.ld (Ld.bL rfl rfl (by exact rfl) aN) rfl (fun _=>?_)));refine JO.cH b g (fun x=>{ x with dm:=r.cs }) (by exact rfl) ?_) | (refine K.indexAddr ?_;refine jq rfl rfl rfl (Qt.aI rfl rfl cL cM) ?_) | (refine K.call ?_;refine JO.ld (Ld.aY (C1) (qb rfl) rfl (by (exact aJ.cons .refl (.cons .refl (.cons .refl .nil))))) rfl ?_;intro _) | refine ay ?_ | intro _)
 (exact J.jF [_] rfl func144 rfl .nil () (by exact .refl) rfl)
theorem LW {s:ah} {g:Nat} {a:Int} {r:Md.aj} {i:Int} (hg:g < s.gs.length):Sx.cZ (aK s g fun x=>{ x with k:=a }) g r i=Sx.cZ s g r i:=by
 unfold aK;rw [Jw hg,uA hg]
theorem VV (b:Nat) (u:U) (s:ah) (g:Nat) (o:Pn.Op) (hg:g < s.gs.length) (k0:0≤(aa s g).k) (k1:(aa s g).k < (aa s g).order.length) (ol:(aa s g).order.length≤1000) (hc:1≤o.cases.length∧o.cases.length≤6) (hu:bY u s) (S:ah)
  (hS:S=if (aa s g).k + 1 < (aa s g).order.length then Sx.next s g 25 else if o.de=true then Sx.cZ s g ⟨2,-1,0,false,0⟩ (-1) else Sx.next (ai s g { aa s g with aq:=List.replicate o.cases.length (-1) }) g 28) :
  an prog 145 [.c (.v (pt b)),.c (nI g),.agg (dH o)] (wd b u s) (fun x:{ u':U // bY u' S }=>(.bp [],wd b x.1 S)):=by
 haveI:Sx.bJ g s:=⟨hg⟩
 obtain ⟨o1,o2,o3,o4,Ga,VW⟩:=o;simp only at hc hS;have w2:IntKind.i64.wrap ((aa s g).k + 1)=(aa s g).k + 1:=dJ (by omega) (by omega);refine an.intro func145 rfl rfl rfl (fun ok e=>?_)
 repeat (first | (refine K.load ?_;((refine jq rfl rfl rfl (Qt.aL rfl (aN) (by exact rfl)) ?_))) | (refine K.store ?_;((refine JO.ld (Ld.bL rfl rfl (by exact rfl) aN) rfl (fun _=>?_)));refine JO.cH b g (fun x=>{ x with k:=(aa s g).k + 1 }) (by exact rfl) ?_) | (refine K.indexAddr ?_;refine jq rfl rfl rfl (Qt.aI rfl rfl cL cM) ?_) | (refine K.binOp ?_;refine jq rfl rfl rfl ((Qt.cJ rfl rfl rfl w2)) ?_) | refine ay ?_ | intro _)
 refine J.Vm 5 rfl ?_
 by_cases c:(aa s g).k + 1 < (aa s g).order.length
 ·have c1:decide ((aa s g).k + 1 < ((aa s g).order.length:Int))=true:=decide_eq_true (by exact c);have eS:S=aK s g fun x=>{ x with k:=(aa s g).k + 1 }:=by
   rw [hS,if_pos c,uD hg,az];rfl
  have hv:bY u S:=by rw [eS];exact hu.to
  rw [eS] at hv ⊢;refine J.draw (by kernel_rfl) rfl ?_;refine JW.base none ?_;refine tk 0 ?_;refine tk 1 ?_;refine tk 2 ?_;refine JD.take 3 rfl rfl (by kernel_rfl) rfl (qb rfl) (Qt.aL rfl aN rfl) rfl ?_;refine tk 4 ?_;refine tk 5 ?_;refine tk 6 ?_;refine JD.take 7 rfl rfl (by kernel_rfl) rfl (qb rfl) (Qt.aL rfl aN rfl) rfl ?_;refine tk 8 ?_;refine JD.take 9 rfl rfl (by kernel_rfl) rfl (qb rfl) (Qt.cmp rfl rfl (congrArg some c1)) rfl ?_;refine bE ?_
  repeat ((refine J.gK rfl ?_))
  (exact J.bN func145 rfl .nil ⟨u,hv⟩ (by exact .refl) rfl)
 have c1:decide ((aa s g).k + 1 < ((aa s g).order.length:Int))=false:=decide_eq_false (by exact c);rw [if_neg c] at hS;refine J.draw (by kernel_rfl) rfl ?_;refine JW.base none ?_;refine tk 0 ?_;refine tk 1 ?_;refine tk 2 ?_;refine JD.take 3 rfl rfl (by kernel_rfl) rfl (qb rfl) (Qt.aL rfl aN rfl) rfl ?_;refine tk 4 ?_;refine tk 5 ?_;refine tk 6 ?_;refine JD.take 7 rfl rfl (by kernel_rfl) rfl (qb rfl) (Qt.aL rfl aN rfl) rfl ?_;refine tk 8 ?_;refine JD.take 9 rfl rfl (by kernel_rfl) rfl (qb rfl) (Qt.cmp rfl rfl (congrArg some c1)) rfl ?_;refine bE ?_
 cases VW with
 | true =>
  have C1:=F9 b u (aK s g fun x=>{ x with k:=(aa s g).k + 1 }) g ⟨2,-1,0,false,0⟩ Sx.bJ.h;have eS:S=Sx.cZ (aK s g fun x=>{ x with k:=(aa s g).k + 1 }) g ⟨2,-1,0,false,0⟩ (-1):=by rw [hS,if_pos rfl,LW hg]
  have hv:bY u S:=by rw [eS,LW hg,uA hg];exact hu.to
  rw [eS] at hv ⊢
  repeat (first | (refine K.call ?_;refine JO.ld (Ld.aY C1 (qb rfl) rfl (.cons .refl (.cons .refl (.cons .refl .nil)))) rfl ?_;intro _) | refine gn ?_)
  (exact J.bN func145 rfl .nil ⟨u,hv⟩ (by exact .refl) rfl)
 | false =>
  have CR:=VO Ga.length hc.1 hc.2;have eS:S=aK (aK (aK (aK s g fun x=>{ x with k:=(aa s g).k + 1 }) g fun x=>{ x with aq:=List.replicate Ga.length (-1) }) g fun x=>{ x with k:=0 }) g fun x=>{ x with place:=28 }:=by
   rw [hS,if_neg (by simp),oZ hg,if_pos (by simp only;omega),gR Sx.bJ.h,gR Sx.bJ.h,gR hg];rfl
  have hv:∀ v,bY (jw u g v) S:=fun v=>bY.sg (by rw [eS];exact hu.to)
  rw [eS] at hv ⊢;refine J.Vv g ?_
  repeat (first | (refine K.lit ?_;refine JO.ld (Ld.jS (qb rfl) rfl rfl rfl rfl rfl) rfl (fun _=>?_)) | refine gn ?_)
  repeat (first | (refine K.store ?_;refine JO.ld (Ld.bL rfl rfl (by exact rfl) aN) rfl (fun _=>?_)) | (refine K.call ?_;refine JO.ld (Ld.VN CR (qb rfl) rfl (.cons .refl (.cons .refl .nil))) rfl ?_;intro v) | refine oJ ?_)
  refine JO.nil ?_;refine J.cS 1 ?_;refine J.Vw g v (List.replicate Ga.length (-1)) rfl (by exact rfl) ?_
  repeat (first | (refine K.store ?_;first | ((refine JO.ld (Ld.bL rfl rfl (by exact rfl) aN) rfl (fun _=>?_)));refine JO.cH b g (fun x=>{ x with k:=0 }) (by exact rfl) ?_ | ((refine JO.ld (Ld.bL rfl rfl (by exact rfl) aN) rfl (fun _=>?_)));refine JO.cH b g (fun x=>{ x with place:=28 }) (by exact rfl) ?_) | refine gn ?_)
  (exact J.iV func145 rfl .nil ⟨jw u g v,hv v⟩ (by exact .refl) rfl)
structure zM (s:ah) (g k:Nat) (o:Pn.Op):Prop where
 k0:0≤(aa s g).k
 k1:(aa s g).k < (aa s g).order.length
 ol:(aa s g).order.length≤1000
 i0:0≤ax (aa s g).order (aa s g).k
 i1:ax (aa s g).order (aa s g).k < o.cases.length
 ch:pG s (aH o (ax (aa s g).order (aa s g).k)).ch k
structure Pr (u:U) (s:ah) (g:Nat) (r:ah × Md.aj × Bool × Bool):Prop where
 gl:r.1.gs.length=s.gs.length
 od:(aa r.1 g).order=(aa s g).order
 kk:(aa r.1 g).k=(aa s g).k
 po:bY u r.1
 no:r.2.2.1=false→r.2.2.2=false→r.1=s
theorem LX {u:U} {s:ah} {g:Nat} {i:Int} (hu:bY u s) {r:Md.aj}:Pr u s g (taken s g i 26 27,r,false,true):=by
 have f:=Fu (fun x=>(x.order,x.k)) (s:=s) (g:=g) (i:=i) (wi:=26) (ha:=27) (fun _ _ _ _=>rfl) (fun _ _=>rfl) (fun _ _ _=>rfl) g;simp only [Prod.mk.injEq] at f;exact ⟨zu s g i 26 27,f.1,f.2,by unfold taken;split <;> exact hu.to,fun _ h=>by cases h⟩
theorem VX {u:U} {s:ah} {g:Nat} {c:Pn.Cs} (hu:bY u s):Pr u s g (qw s g c):=by
 unfold qw
 split
 ·exact ⟨rfl,rfl,rfl,hu,fun _ _=>rfl⟩
 ·split
  ·split
   ·exact ⟨rfl,rfl,rfl,hu.to,fun h=>by cases h⟩
   ·exact ⟨rfl,rfl,rfl,hu,fun _ _=>rfl⟩
  ·exact LX hu
theorem VY {u:U} {s:ah} {g:Nat} {c:Pn.Cs} (hu:bY u s):Pr u s g (qA s g c):=by
 unfold qA
 split
 ·split
  ·exact ⟨rfl,rfl,rfl,hu.to,fun h=>by cases h⟩
  ·split
   ·exact ⟨rfl,rfl,rfl,hu,fun _ _=>rfl⟩
   ·exact ⟨rfl,rfl,rfl,hu,fun _ _=>rfl⟩
 ·exact LX hu
instance cW.dG {s s':ah} {g:Nat} [h:cW s' s]:cW (Sx.dG s' g) s:=⟨by unfold Sx.dG;dsimp only;split <;> exact h.h⟩
instance cW.cZ {s s':ah} {g:Nat} {r:Md.aj} {i:Int} [h:cW s' s]:cW (Sx.cZ s' g r i) s:=⟨h.h⟩
instance cW.next {s s':ah} {g:Nat} {p:Int} [h:cW s' s]:cW (Sx.next s' g p) s:=⟨by unfold Sx.next;dsimp only;split <;> exact h.h⟩
instance cW.unlock {s s':ah} {g:Nat} {p:Int} [h:cW s' s]:cW (Sx.unlock s' g p) s:=⟨h.h⟩
theorem VZ (b:Nat) (u:U) (s:ah) (g k:Nat) (o:Pn.Op) (hg:g < s.gs.length) (Q:Qs s) (h:zM s g k o) (hc:1≤o.cases.length∧o.cases.length≤6) (hr:wQ s g (cn s ((k:Int) + 1)).recv) (hs:wQ s g (cn s ((k:Int) + 1)).send) (hu:bY u s) :
  an prog 80 [.c (.v (pt b)),.c (nI g),.agg (dH o)] (wd b u s) (fun x:{ u':U // bY u' (fq s g o) }=>(.bp [],wd b x.1 (fq s g o))):=by
 obtain ⟨k0,k1,ol,i0,i1,ci⟩:=h;have CH:=uP b u s g hg k0 k1;have AC:=at_case i0 i1;have CN:=fun S hS=>VV b u s g o hg k0 k1 ol hc hu S hS
 rw [VR rfl];generalize ax (aa s g).order (aa s g).k=i at i0 i1 ci CH AC ⊢;have P1:=VX (g:=g) (c:=aH o i) hu;have P2:=VY (g:=g) (c:=aH o i) hu;have CS:=VS b u s g k (aH o i) hg Q ci hr;have CR:=VT b u s g k (aH o i) hg Q ci hs;generalize aH o i=c at AC P1 P2 CS CR ⊢;obtain ⟨zN,Ck,cv⟩:=c;refine an.intro func80 rfl rfl rfl (fun ok e=>?_)
 cases zN with
 | true =>
  simp only [if_true];generalize qw s g ⟨true,Ck,cv⟩=r at P1 CS ⊢;obtain ⟨S,rr,rd,rt⟩:=r;obtain ⟨gl,od,kk,po,no⟩:=P1;simp only at gl od kk po no CS;have m8:g < S.gs.length:=by rw [gl];exact hg
  have CF:=FV b u S g m8 (fun _=>by rw [od,kk];exact ⟨k0,k1⟩);have CE:=F9 b u S g { rr with cs:=i } m8
  repeat (first | (refine K.call ?_;first | (refine JO.ld (Ld.aY (CH) (qb rfl) rfl (by (exact aJ.cons .refl (.cons .refl .nil)))) rfl ?_;intro _) | (refine JO.ld (Ld.aY CS (qb rfl) rfl (.cons .refl (.cons .refl (.cons .refl .nil)))) rfl ?_;intro _)) | refine ay ?_ | intro _)
  cases rt with
  | true =>
   have e:Sx.polled s g o i (S,rr,rd,true)=Sx.dG S g:=by unfold Sx.polled;exact if_pos rfl
   have hv:bY u (Sx.dG S g):=po.to;rw [e]
   repeat (first | (refine K.call ?_;refine JO.ld (Ld.aY (CF) (qb rfl) rfl (by (exact aJ.cons .refl (.cons .refl .nil)))) rfl ?_;intro _) | refine gn ?_)
   (exact J.jF [_,_] rfl func80 rfl .nil ⟨u,hv⟩ (by exact .refl) rfl)
  | false =>
  cases rd with
  | true =>
   have e:Sx.polled s g o i (S,rr,true,false)=Sx.cZ S g { rr with cs:=i } i:=by unfold Sx.polled;rw [if_neg (by simp),if_pos rfl]
   have hv:bY u (Sx.cZ S g { rr with cs:=i } i):=po.to;rw [e]
   repeat (first | (refine K.call ?_;refine JO.ld (Ld.aY CE (qb rfl) rfl (.cons .refl (.cons .refl (.cons .refl .nil)))) rfl ?_;intro _) | refine gn ?_)
   (exact J.jF [_,_] rfl func80 rfl .nil ⟨u,hv⟩ (by exact .refl) rfl)
  | false =>
   have es:=(no rfl rfl).symm;subst es;have e:Sx.polled s g o i (s,rr,false,false)=if (aa s g).k + 1 < (aa s g).order.length then Sx.next s g 25 else if o.de=true then Sx.cZ s g ⟨2,-1,0,false,0⟩ (-1) else Sx.next (ai s g { aa s g with aq:=List.replicate o.cases.length (-1) }) g 28:=by unfold Sx.polled;rw [if_neg (by simp),if_neg (by simp)]
   have CN:=CN _ rfl;rw [e]
   repeat (first | (refine K.call ?_;refine JO.ld (Ld.aY CN (qb rfl) rfl (.cons .refl (.cons .refl (.cons .refl .nil)))) rfl ?_;intro y) | refine gn ?_)
   (exact J.jF [_,_] rfl func80 rfl .nil y (by exact .refl) rfl)
 | false =>
  simp only [Bool.false_eq_true,if_false];generalize qA s g ⟨false,Ck,cv⟩=r at P2 CR ⊢;obtain ⟨S,rr,rd,rt⟩:=r;obtain ⟨gl,od,kk,po,no⟩:=P2;simp only at gl od kk po no CR;have m8:g < S.gs.length:=by rw [gl];exact hg
  have CF:=FV b u S g m8 (fun _=>by rw [od,kk];exact ⟨k0,k1⟩);have CE:=F9 b u S g { rr with cs:=i } m8
  repeat (first | (refine K.call ?_;first | (refine JO.ld (Ld.aY (CH) (qb rfl) rfl (by (exact aJ.cons .refl (.cons .refl .nil)))) rfl ?_;intro _) | (refine JO.ld (Ld.aY CR (qb rfl) rfl (.cons .refl (.cons .refl (.cons .refl .nil)))) rfl ?_;intro _)) | refine ay ?_ | intro _)
  cases rt with
  | true =>
   have e:Sx.polled s g o i (S,rr,rd,true)=Sx.dG S g:=by unfold Sx.polled;exact if_pos rfl
   have hv:bY u (Sx.dG S g):=po.to;rw [e]
   repeat (first | (refine K.call ?_;refine JO.ld (Ld.aY (CF) (qb rfl) rfl (by (exact aJ.cons .refl (.cons .refl .nil)))) rfl ?_;intro _) | refine gn ?_)
   (exact J.jF [_,_] rfl func80 rfl .nil ⟨u,hv⟩ (by exact .refl) rfl)
  | false =>
  cases rd with
  | true =>
   have e:Sx.polled s g o i (S,rr,true,false)=Sx.cZ S g { rr with cs:=i } i:=by unfold Sx.polled;rw [if_neg (by simp),if_pos rfl]
   have hv:bY u (Sx.cZ S g { rr with cs:=i } i):=po.to;rw [e]
   repeat (first | (refine K.call ?_;refine JO.ld (Ld.aY CE (qb rfl) rfl (.cons .refl (.cons .refl (.cons .refl .nil)))) rfl ?_;intro _) | refine gn ?_)
   (exact J.jF [_,_] rfl func80 rfl .nil ⟨u,hv⟩ (by exact .refl) rfl)
  | false =>
   have es:=(no rfl rfl).symm;subst es;have e:Sx.polled s g o i (s,rr,false,false)=if (aa s g).k + 1 < (aa s g).order.length then Sx.next s g 25 else if o.de=true then Sx.cZ s g ⟨2,-1,0,false,0⟩ (-1) else Sx.next (ai s g { aa s g with aq:=List.replicate o.cases.length (-1) }) g 28:=by unfold Sx.polled;rw [if_neg (by simp),if_neg (by simp)]
   have CN:=CN _ rfl;rw [e]
   repeat (first | (refine K.call ?_;refine JO.ld (Ld.aY CN (qb rfl) rfl (.cons .refl (.cons .refl (.cons .refl .nil)))) rfl ?_;intro y) | refine gn ?_)
   (exact J.jF [_,_] rfl func80 rfl .nil y (by exact .refl) rfl)
end Fl
end Go.Proofs.YtdjhhbpedllnhaaGreat
