/-
  What the laws need, part S1.
  Conditions: none.
-/
import Derived.Test.YtgjpdogjekmemaaGreatRows
import Derived.BigQuiet
import Derived.ChangeOld
import Derived.Deep.CutBlock
import Derived.Deep.DeepCutAuto
import Derived.Deep.DeepFit
import Derived.Deep.DeepMust
import Derived.Deep.Fields
import Derived.Deep.LoopGhost
import Derived.Deep.MidRow
import Derived.Deep.QuietTactic
import Derived.Deep.RegionHeld3
import Derived.Deep.RegionLaw
import Derived.Deep.Slices
import Derived.Laws.AppendOwnNone
import Derived.Laws.CopyOwn
import Derived.Lib.Hide
import Derived.Maps.OwnSet
import Derived.Maps.RangeWalk
import Derived.OpenShut
import Derived.ProofKit
import Derived.WalkKit
set_option linter.unusedVariables false
set_option linter.unusedSimpArgs false
set_option linter.unnecessarySimpa false
set_option maxHeartbeats 2000000
namespace Go.Proofs.YtgjpdogjekmemaaGreat
open Go.RowKit
structure aE (S:List Nat) (w w':World):Prop where
 os:w'.os=w.os
 tape:w'.tape=w.tape
 output:w'.output=w.output
 size:w.heap.size≤w'.heap.size
 block:∀ k,k < w.heap.size→k∉S→w'.heap[k]?=w.heap[k]?
theorem aE.refl (S:List Nat) (w:World):aE S w w:=⟨rfl,rfl,rfl,Nat.le_refl _,fun _ _ _=>rfl⟩
theorem aE.trans {S T:List Nat} {a b c:World} (h:aE S a b) (k:aE T b c) (hT:∀ x∈T,x∈S∨a.heap.size≤x):aE S a c :=
 ⟨k.os.trans h.os,k.tape.trans h.tape,k.output.trans h.output,Nat.le_trans h.size k.size,fun i hi hn =>
  (k.block i (Nat.lt_of_lt_of_le hi h.size) (fun hm=>by rcases hT i hm with h1 | h1;exact hn h1;omega)).trans (h.block i hi hn)⟩
theorem aE.then {S:List Nat} {a b c:World} (h:aE S a b) (k:aE [] b c):aE S a c:=h.trans k (by simp)
theorem aE.mono {S T:List Nat} {a b:World} (h:aE S a b) (hS:∀ x∈S,x∈T∨a.heap.size≤x):aE T a b :=
 ⟨h.os,h.tape,h.output,h.size,fun i hi hn=>h.block i hi (fun hm=>by rcases hS i hm with h1 | h1;exact hn h1;omega)⟩
theorem aE.drew {S:List Nat} {a w:World} (h:aE S a w):aE S a w.drew:=⟨h.os,h.tape,h.output,h.size,h.block⟩
theorem aE.drewN {S:List Nat} {a w:World} (h:aE S a w) (n:Nat):aE S a (w.drewN n):=⟨h.os,h.tape,h.output,h.size,h.block⟩
theorem aE.alloc {S:List Nat} {a w:World} (h:aE S a w) (o:Obj):aE S a (w.alloc o) :=
 h.trans (T:=[]) ⟨rfl,rfl,rfl,by simp,fun k hk _=>Below.heap_alloc w o k hk⟩ (by simp)
theorem aE.setCell {S:List Nat} {a w:World} (h:aE S a w) {p:Addr} (hp:p.block∈S∨a.heap.size≤p.block) (u:Value):aE S a (w.setCell p u) :=
 h.trans (T:=[p.block]) ⟨rfl,rfl,rfl,by simp [World.setCell],fun k hk hn=>Below.heap_setCell _ _ _ _ (by simpa using hn)⟩ (by simpa using hp)
theorem aE.setRow {S:List Nat} {a w:World} (h:aE S a w) {g:Nat} (hp:g∈S∨a.heap.size≤g) (cs:Array Value):aE S a (w.setRow g cs) :=
 h.trans (T:=[g]) ⟨rfl,rfl,rfl,by simp,fun k hk hn=>setRow_other w g k _ (by simpa using hn)⟩ (by simpa using hp)
theorem aE.grown {S:List Nat} {a w w':World} {row:Option Nat} (h:aE S a w) (hg:w.grownBy w' row) (hr:∀ k,row=some k→k∈S∨a.heap.size≤k):aE S a w' :=
 h.trans (T:=row.toList) ⟨hg.os,hg.tape,hg.output,hg.size,fun k hk hn=>hg.block k hk (by intro e;apply hn;simp [← e])⟩ (by intro x hx;exact hr x (by simpa using hx))
theorem aE.below {w w':World} (h:aE [] w w'):Below w.heap.size w w':=⟨h.os,h.tape,h.output,h.size,fun k hk=>h.block k hk (by simp)⟩
theorem aE.cell {S:List Nat} {w w':World} (h:aE S w w') {p:Addr} {v:Value} (hc:w.cell? p=some v) (hn:p.block∉S):w'.cell? p=some v:=by
 rw [World.cell?_of_block (w:=w) (h.block p.block (block_lt_of_cell hc) hn)];exact hc
def dF (w:World) (g:Nat) (cs:List Value) (e:TypeId):Prop:=w.heap[g]?=some (.cells cs.toArray e (0,0))
theorem dF.lt {w:World} {g:Nat} {cs:List Value} {e:TypeId} (h:dF w g cs e):g < w.heap.size:=lt_of_block h
theorem dF.cell {w:World} {g:Nat} {cs:List Value} {e:TypeId} (h:dF w g cs e) (j:Nat):w.cell? ⟨g,j,none⟩=cs[j]?:=by
 rw [cell_of_row w g j _ e (0,0) h];simp
theorem dF.free {w:World} {g:Nat} {cs:List Value} {e:TypeId} (h:dF w g cs e) (j:Nat):w.frozen? ⟨g,j,none⟩=false:=frozen_of_row w g j _ e h
theorem dF.gf {S:List Nat} {w w':World} {g:Nat} {cs:List Value} {e:TypeId} (h:dF w g cs e) (k:aE S w w') (hn:g∉S):dF w' g cs e:=(k.block g h.lt hn).trans h
theorem dF.set {w:World} {g:Nat} {cs:List Value} {e:TypeId} (h:dF w g cs e) (j:Nat) (v:Value):dF (w.setCell ⟨g,j,none⟩ v) g (cs.set j v) e:=by
 unfold dF;rw [heap_setCell_same w g j _ e v h];simp
theorem dF.new (w:World) (cs:List Value) (e:TypeId):dF (w.alloc (.cells cs.toArray e)) w.heap.size cs e:=heap_alloc_new w _
theorem dF.alloc {w:World} {g:Nat} {cs:List Value} {e:TypeId} (h:dF w g cs e) (o:Obj):dF (w.alloc o) g cs e:=(Below.heap_alloc w o g h.lt).trans h
def View (w:World) (v:Value) (sz n:Nat) (xs:List Value) (S:List Nat):Prop :=
 xs.length=n * sz∧∃ ao cap,v=.slice ao n cap∧n≤cap∧cap≤maxLen ∧
  ((n=0∧S=[])∨∃ g off,ao=some ⟨g,off,none⟩∧S=[g]∧g < w.heap.size∧∀ j,j < xs.length→w.cell? ⟨g,off + j,none⟩=xs[j]?)
theorem View.len {w:World} {v:Value} {sz n:Nat} {xs:List Value} {S:List Nat} (h:View w v sz n xs S):xs.length=n * sz:=h.1
theorem View.le {w:World} {v:Value} {sz n:Nat} {xs:List Value} {S:List Nat} (h:View w v sz n xs S):n≤maxLen:=by
 obtain ⟨_,ao,cap,_,h1,h2,_⟩:=h;omega
theorem View.shape {w:World} {v:Value} {sz n:Nat} {xs:List Value} {S:List Nat} (h:View w v sz n xs S):∃ ao cap,v=.slice ao n cap:=by
 obtain ⟨_,ao,cap,h,_⟩:=h;exact ⟨ao,cap,h⟩
theorem View.lt {w:World} {v:Value} {sz n:Nat} {xs:List Value} {S:List Nat} (h:View w v sz n xs S):∀ k∈S,k < w.heap.size:=by
 obtain ⟨_,ao,cap,_,_,_,⟨_,rfl⟩ | ⟨g,off,_,rfl,hg,_⟩⟩:=h
 ·simp
 ·simpa using hg
theorem View.nil (w:World) (sz:Nat):View w (.slice none 0 0) sz 0 [] []:=⟨by simp,none,0,rfl,Nat.le_refl _,by simp [maxLen],.inl ⟨rfl,rfl⟩⟩
theorem View.gf {S T:List Nat} {w w':World} {v:Value} {sz n:Nat} {xs:List Value} (h:View w v sz n xs S) (k:aE T w w') (hn:∀ x∈S,x∉T):View w' v sz n xs S:=by
 obtain ⟨h0,ao,cap,h1,h2,h3,h4⟩:=h;refine ⟨h0,ao,cap,h1,h2,h3,?_⟩;rcases h4 with h4 | ⟨g,off,rfl,rfl,hg,hc⟩
 ·exact .inl h4
 ·refine .inr ⟨g,off,rfl,rfl,Nat.lt_of_lt_of_le hg k.size,fun j hj=>?_⟩;rw [← hc j hj];exact World.cell?_of_block (w:=w) (k.block g hg (hn g (by simp)))
theorem View.cell {S:List Nat} {w:World} {ao:Option Addr} {m cap:Nat} {sz n:Nat} {xs:List Value} (h:View w (.slice ao m cap) sz n xs S) (hp:0 < n) :
  ∃ g off,ao=some ⟨g,off,none⟩∧S=[g]∧g < w.heap.size∧∀ j,j < xs.length→w.cell? ⟨g,off + j,none⟩=xs[j]?:=by
 obtain ⟨h0,AU,xN,h1,h2,h3,h4⟩:=h;obtain ⟨rfl,rfl,rfl⟩:=by simpa using h1
 rcases h4 with ⟨rfl,_⟩ | h4
 ·omega
 ·exact h4
theorem dG {a b:Bool} (h:a=b):Ending.returned (.bool a)=.returned (.bool b):=by rw [h]
open Go.RowKit
def Row (w:World) (v:Value) (e:TypeId) (sz n:Nat) (xs:List Value) (S:List Nat):Prop :=
 xs.length=n * sz∧∃ ao cap,v=.slice ao n cap∧n≤cap∧cap≤maxLen ∧
  ((ao=none∧n=0∧cap=0∧S=[])∨∃ g off cur,ao=some ⟨g,off,none⟩∧S=[g]∧dF w g cur e∧off + cap * sz≤cur.length∧∀ j,j < xs.length→cur[off + j]?=xs[j]?)
section
variable {w w':World} {v:Value} {e:TypeId} {sz n:Nat} {xs:List Value} {S T:List Nat}
theorem Row.view (h:Row w v e sz n xs S):View w v sz n xs S:=by
 obtain ⟨h0,ao,cap,h1,h2,h3,h4⟩:=h;refine ⟨h0,ao,cap,h1,h2,h3,?_⟩;rcases h4 with h4 | ⟨g,off,cur,rfl,rfl,hb,hl,hc⟩
 ·exact .inl ⟨h4.2.1,h4.2.2.2⟩
 ·exact .inr ⟨g,off,rfl,rfl,hb.lt,fun j hj=>by rw [hb.cell];exact hc j hj⟩
theorem Row.lt (h:Row w v e sz n xs S):∀ k∈S,k < w.heap.size:=h.view.lt
theorem Row.shape (h:Row w v e sz n xs S):∃ ao cap,v=.slice ao n cap:=h.view.shape
theorem Row.gf (h:Row w v e sz n xs S) (k:aE T w w') (hn:∀ x∈S,x∉T):Row w' v e sz n xs S:=by
 obtain ⟨h0,ao,cap,h1,h2,h3,h4⟩:=h;refine ⟨h0,ao,cap,h1,h2,h3,?_⟩;rcases h4 with h4 | ⟨g,off,cur,rfl,rfl,hb,hr⟩
 ·exact .inl h4
 ·exact .inr ⟨g,off,cur,rfl,rfl,hb.gf k (hn g (by simp)),hr⟩
theorem Row.nil (w:World) (e:TypeId) (sz:Nat):Row w (.slice none 0 0) e sz 0 [] []:=⟨by simp,none,0,rfl,Nat.le_refl _,by simp [maxLen],.inl ⟨rfl,rfl,rfl,rfl⟩⟩
theorem Row.lit (w:World) (cs:List Value) (e:TypeId) (sz n:Nat) (hl:cs.length=n * sz) (hm:n≤maxLen):Row (w.alloc (.cells cs.toArray e)) (.slice (some ⟨w.heap.size,0,none⟩) n n) e sz n cs [w.heap.size] :=
 ⟨hl,_,n,rfl,Nat.le_refl _,hm,.inr ⟨w.heap.size,0,cs,rfl,rfl,dF.new w cs e,by omega,by simp⟩⟩
theorem Row.AV {base:Nat} (h:w.ownsRow base e sz v n xs):Row w v e sz n xs v.ownBlock.toList∧∀ k∈v.ownBlock.toList,base≤k:=by
 obtain ⟨hl,h⟩:=h;rcases h with ⟨rfl,rfl⟩ | ⟨g,cap,cur,rfl,hb,hg,lT,kV,kz,Gl⟩
 ·exact ⟨⟨hl,none,0,rfl,Nat.le_refl _,by simp [maxLen],.inl ⟨rfl,rfl,rfl,rfl⟩⟩,by simp [Value.ownBlock]⟩
 ·refine ⟨⟨hl,_,cap,rfl,lT,kV,.inr ⟨g,0,cur.toList,rfl,rfl,by simpa [dF] using hg,by simp [kz],fun j hj=>?_⟩⟩,by simpa [Value.ownBlock] using hb⟩;rw [Nat.zero_add,← Gl,List.getElem?_take,if_pos (by omega)]
theorem Row.stored {g off m cap:Nat} (h:Row w (.slice (some ⟨g,off,none⟩) m cap) e sz n xs S) (j:Nat) (hj:j < xs.length) (u:Value) :
  Row (w.setCell ⟨g,off + j,none⟩ u) (.slice (some ⟨g,off,none⟩) m cap) e sz n (xs.set j u) S∧aE S w (w.setCell ⟨g,off + j,none⟩ u):=by
 obtain ⟨h0,ao,xN,h1,h2,h3,h4⟩:=h;obtain ⟨rfl,rfl,rfl⟩:=by simpa using h1
 rcases h4 with ⟨h4,_⟩ | ⟨g',AW,cur,h4,rfl,hb,hl,hc⟩
 ·cases h4
 ·obtain ⟨rfl,rfl⟩:=by simpa using h4
  refine ⟨⟨by simpa using h0,_,cap,rfl,h2,h3,.inr ⟨g,off,cur.set (off + j) u,rfl,rfl,hb.set _ u,by simpa using hl,fun i hi=>?_⟩⟩,(aE.refl _ w).setCell (by simp) u⟩;have xO:i < xs.length:=by simpa using hi
  have bU:off + j < cur.length:=by
   have:=hc j hj;rw [List.getElem?_eq_getElem hj] at this;exact (List.getElem?_eq_some_iff.1 this).1
  by_cases e:i=j
  ·subst e;simp [bU,hj]
  ·rw [List.getElem?_set_ne (by omega),List.getElem?_set_ne (by omega)];exact hc i xO
theorem Row.cells {ao:Option Addr} {m cap:Nat} (h:Row w (.slice ao m cap) e sz n xs S) (hp:0 < n) :
  ∃ g off,ao=some ⟨g,off,none⟩∧S=[g]∧g < w.heap.size∧(∀ j,j < xs.length→w.cell? ⟨g,off + j,none⟩=xs[j]?)∧∀ j,w.frozen? ⟨g,off + j,none⟩=false:=by
 obtain ⟨h0,AU,xN,h1,h2,h3,h4⟩:=h;obtain ⟨rfl,rfl,rfl⟩:=by simpa using h1
 rcases h4 with ⟨_,rfl,_⟩ | ⟨g,off,cur,rfl,rfl,hb,hl,hc⟩
 ·omega
 ·exact ⟨g,off,rfl,rfl,hb.lt,fun j hj=>by rw [hb.cell];exact hc j hj,fun j=>hb.free _⟩
end
def AY (P:Program) (t e:TypeId) (sz bytes:Nat) (z:Value):Prop :=
 P.underlying t=some (.slice e)∧(P.info? e).map (fun i=>(i.zero,i.size,i.bytes))=some (some z,sz,bytes)∧z.cells.size=sz∧0 < sz∧0 < bytes
section
variable {P:Program} {t e:TypeId} {sz bytes:Nat} {z:Value}
theorem Gm (w:World) (t ty e:TypeId) (i:TypeInfo) (ht:P.underlying t=some (.slice e)) (hi:P.info? e=some i)
  (g off p7 xR:Nat) (cur:Array Value) (hg:w.heap[g]?=some (.cells cur e (0,0)))
  (a:Addr) (m c:Nat) (news:List Value) (hl:news.length=m * i.size) (sU:∀ j u,news[j]?=some u→w.cell? (a.add j)=some u) (h1:∀ u∈news,u.oneCell'=true)
  (sV:p7 + m≤xR) (vH:off + p7 * i.size + news.length≤cur.size) :
  ∃ vI,(Builtin.append_ #[t,t] ty #[.slice (some ⟨g,off,none⟩) p7 xR,.slice (some a) m c]).run P w =
   .ok (.slice (some ⟨g,off,none⟩) (p7 + m) xR) (w.setRow g vI)∧vI=(cur.toList.take (off + p7 * i.size) ++ news ++ cur.toList.drop (off + p7 * i.size + news.length)).toArray:=by
 have hf:=run_firstCells_some (P:=P) w i.size m a m c news hl sU;have lU:=run_storeCells_at P g (off + p7 * i.size) e news 0 cur w hg (by simpa using vH) h1;simp only [Nat.add_zero] at lU;refine ⟨_,?_,rfl⟩;simp [Builtin.append_,run_underlying ht,sizeOf,typeInfo,hi,Builtin.lenOf,sV,hf,Addr.add_lit,lU]
theorem Gn (E:AY P t e sz bytes z) (ty:TypeId) {w:World} {v u:Value} {n m:Nat} {xs ys:List Value} {S T:List Nat} (h:Row w v e sz n xs S) (hu:View w u sz m ys T)
  (h1:∀ y∈ys,y.oneCell'=true) (hb:(n + m) * bytes≤140737488355328) :
  ∃ ao cap w' S',(Builtin.append_ #[t,t] ty #[v,u]).run P w=.ok (.slice ao (n + m) cap) w'∧Row w' (.slice ao (n + m) cap) e sz (n + m) (xs ++ ys) S'∧aE S w w'∧(∀ k∈S',k∈S∨w.heap.size≤k) ∧
   (m=0→.slice ao (n + m) cap=v∧w'=w):=by
 obtain ⟨ht,kA,hz,oQ,p9⟩:=E;obtain ⟨i,hi,dz,de,gN⟩:=info_parts kA;clear kA;subst de;subst gN;have hlen:(xs ++ ys).length=(n + m) * i.size:=by rw [List.length_append,h.1,hu.1,Nat.add_mul]
 have AZ:n + m≤140737488355328:=Nat.le_trans (Nat.le_mul_of_pos_right _ p9) hb;have Gp:n + m≤maxLen:=by simp only [maxLen];omega
 by_cases hm:m=0
 ·subst hm;have hy:ys=[]:=List.eq_nil_of_length_eq_zero (by have:=hu.1;simpa using this);subst hy;obtain ⟨ao,cap,rfl⟩:=h.shape;obtain ⟨bo,lW,rfl⟩:=hu.shape;refine ⟨ao,cap,w,S,?_,by simpa using h,aE.refl _ _,fun k hk=>.inl hk,fun _=>⟨by simp,rfl⟩⟩;obtain ⟨_,AU,xN,h1,lT,kV,_⟩:=h;obtain ⟨rfl,rfl⟩:=by simpa using h1
  cases bo with
  | none=>simp [Builtin.append_,run_underlying ht,sizeOf,typeInfo,hi,Builtin.lenOf,Builtin.firstCells,lT];cases ao <;> simp [storeCells]
  | some b =>
   have hf:=run_firstCells_some (P:=P) w i.size 0 b 0 lW [] (by simp) (by simp);simp [Builtin.append_,run_underlying ht,sizeOf,typeInfo,hi,Builtin.lenOf,lT,hf];cases ao <;> simp [storeCells]
 ·obtain ⟨ia,bo,lW,rfl,A0,A3,sW⟩:=hu;rcases sW with ⟨h0,_⟩ | ⟨ug,sX,rfl,rfl,A4,sY⟩
  ·omega
  have sU:∀ j y,ys[j]?=some y→w.cell? ((⟨ug,sX,none⟩:Addr).add j)=some y:=by
   intro j y hy;rw [Addr.add_lit,sY j (List.getElem?_eq_some_iff.1 hy).1];exact hy
  have A5:∀ (old:Nat) (sZ:List Value),old < n + m→sZ.length=n * i.size→sZ=xs →
    Row (w.drew.alloc (.cells (sZ.toArray ++ ys.toArray ++ Builtin.zeroCells z.cells (grownCap w (n + m) old e - (n + m))) e)) (.slice (some ⟨w.heap.size,0,none⟩) (n + m) (grownCap w (n + m) old e)) e i.size (n + m) (xs ++ ys) [w.heap.size]:=by
   intro old sZ ho nF hx;subst hx;have qa:=grownCap_ge w (n + m) old e;have kV:grownCap w (n + m) old e≤maxLen:=grownCap_le_maxLen w (n + m) old e Gp;refine ⟨hlen,_,_,rfl,qa,kV,.inr ⟨w.heap.size,0,(sZ.toArray ++ ys.toArray ++ Builtin.zeroCells z.cells (grownCap w (n + m) old e - (n + m))).toList,rfl,rfl,?_,?_,?_⟩⟩
   ·unfold dF;rw [Array.toArray_toList];exact heap_alloc_new w.drew _
   ·simp only [Array.length_toList,Array.size_append,List.size_toArray,size_zeroCells,hz,nF,ia,← Nat.add_mul,Nat.zero_add];exact Nat.mul_le_mul_right _ (by omega)
   ·intro j hj;rw [Nat.zero_add];simp only [Array.toList_append,List.append_assoc];rw [← List.append_assoc,List.getElem?_append_left (by simpa using hj)]
  have A6:∀ o:Obj,aE S w (w.drew.alloc o):=fun o=>(aE.refl S w).drew.alloc o
  obtain ⟨hl,ao,cap,rfl,lT,kV,h4⟩:=h;rcases h4 with ⟨rfl,rfl,rfl,rfl⟩ | ⟨g,off,cur,rfl,rfl,hg,vH,hc⟩
  ·have Gq:xs=[]:=List.eq_nil_of_length_eq_zero (by simpa using hl);subst Gq;have hr:=run_append_nil (P:=P) w t ty e i z ht hi dz _ m lW ys ia sU (by omega) (by omega) (by have:=hb;simp only [Nat.zero_add] at this;omega);have hI:=A5 0 [] (by omega) (by simp) rfl;simp only [Nat.zero_add,List.nil_append,Array.empty_append] at hI ⊢;exact ⟨_,_,_,_,hr,by simpa using hI,by simpa using A6 _,by simp,fun h=>absurd h hm⟩
  ·by_cases sV:n + m≤cap
   ·have Gs:off + n * i.size + ys.length≤cur.length:=by
     have:(n + m) * i.size≤cap * i.size:=Nat.mul_le_mul_right _ sV;rw [Nat.add_mul] at this;omega
    obtain ⟨vI,hr,A7⟩:=Gm (P:=P) w t ty e i ht hi g off n cap cur.toArray hg _ m lW ys ia sU h1 sV (by simpa using Gs);refine ⟨_,_,_,_,hr,⟨hlen,_,_,rfl,sV,kV,.inr ⟨g,off,vI.toList,rfl,rfl,?_,?_,?_⟩⟩,(aE.refl _ w).setRow (by simp) _,by simp,fun h=>absurd h hm⟩
    ·unfold dF;rw [Array.toArray_toList];exact setRow_heap w g cur.toArray _ e _ hg
    ·rw [A7];simp;omega
    ·intro j hj;rw [A7];simp only
     by_cases ta:j < xs.length
     ·rw [List.append_assoc,List.getElem?_append_left (by simp;omega),List.getElem?_append_left ta,List.getElem?_take,if_pos (by omega)];exact hc j ta
     ·have dH:j < xs.length + ys.length:=by simpa using hj
      have Qa:xs.length≤(n + m) * i.size:=by rw [Nat.add_mul,hl];omega
      have nG:(cur.take (off + n * i.size)).length=off + n * i.size:=by rw [List.length_take];omega
      have e1:(xs ++ ys)[j]?=ys[j - xs.length]?:=List.getElem?_append_right (by omega);rw [e1,List.append_assoc,List.getElem?_append_right (by rw [nG];omega),List.getElem?_append_left (by rw [nG];omega),nG,hl]
      congr 1;omega
   ·have holds:∀ j y,xs[j]?=some y→w.cell? ((⟨g,off,none⟩:Addr).add j)=some y:=by
     intro j y hy;rw [Addr.add_lit,hg.cell,hc j (List.getElem?_eq_some_iff.1 hy).1];exact hy
    have hr:=run_append_grow (P:=P) w t ty e i z ht hi dz ⟨g,off,none⟩ n cap xs hl holds _ m lW ys ia sU (by omega) (by omega) (growslice_fits (by omega) hb);exact ⟨_,_,_,_,hr,A5 cap xs (by omega) hl rfl,A6 _,by simp,fun h=>absurd h hm⟩
end
open Go.RowKit Go.ChangeShapes Go.WideShapes Go.Deep
def vJ (P:Program) (t:TypeId):Option (Option IntKind):=match P.underlying t with
 | some (.int k)=>some (some k)
 | some .bool=>some none
 | _=>none
section
variable {H:Type} {enc:TypeId × Value→H} {P:Program} {w:World} {base:Nat} {spare:Nat→Bool} {held:Bool}
end
theorem gE {P:Program} {f:FuncId} {args:Array Value} {w:World} {n:Nat} {v:Value}
  (h:Calls P f args (w.drewN n) fun e w'=>e=.returned v∧w.drewN n=w'):Calls P f args (w.drewN n) fun e xS=>e=.returned v∧∃ m,xS=w.drewN m :=
 h.mono fun _ _ ⟨he,hm⟩=>⟨he,n,hm.symm⟩
open Go.RowKit
section
variable {w w':World} {v:Value} {l:List Int} {S T:List Nat} {e:TypeId}
end
section
variable {P:Program} {t e:TypeId} {bytes:Nat} {z:Value}
end
open Go.RowKit
section
variable {α:Type} {f:α→List Value} {sz:Nat}
theorem vK (hf:∀ x,(f x).length=sz):∀ l:List α,(l.flatMap f).length=l.length * sz
 | []=>by simp
 | y :: r=>by rw [List.flatMap_cons,List.length_append,hf,vK hf r,List.length_cons,Nat.add_mul];omega
theorem A8 (hf:∀ x,(f x).length=sz) {x:α} {j:Nat} (hj:j < sz):∀ (l:List α) (k:Nat),l[k]?=some x→(l.flatMap f)[k * sz + j]?=(f x)[j]?
 | [],k,h=>by simp at h
 | y :: r,0,h=>by
  simp at h;subst h;rw [List.flatMap_cons,List.getElem?_append_left (by rw [hf];omega)];simp
 | y :: r,k + 1,h=>by
  have e:(k + 1) * sz=k * sz + sz:=by rw [Nat.add_mul];omega
  rw [List.flatMap_cons,List.getElem?_append_right (by rw [hf];omega),hf,show (k + 1) * sz + j - sz=k * sz + j by omega];exact A8 hf hj r k (by simpa using h)
end
section
variable {α:Type} {f:α→List Value} {sz:Nat}
theorem Gt (hf:∀ x,(f x).length=sz) {x0:α} {z:Array Value} (hz:z.toList=f x0) (hs:0 < sz) (n:Nat):(madeCells z (n * sz)).toList=(List.replicate n x0).flatMap f:=by
 apply List.ext_getElem?;intro i;have td:z.size=sz:=by rw [← Array.length_toList,hz,hf]
 by_cases hi:i < n * sz
 ·have hj:i % sz < sz:=Nat.mod_lt _ hs;have hk:i / sz < n:=Nat.div_lt_of_lt_mul (by rwa [Nat.mul_comm]);have h:=A8 hf hj (List.replicate n x0) (i / sz) (x:=x0) (by simp [hk]);rw [Nat.div_add_mod'] at h;rw [h,← hz];simp [madeCells,hi,td,hj]
 ·rw [List.getElem?_eq_none (by rw [Array.length_toList,size_madeCells];omega),List.getElem?_eq_none (by rw [vK hf];simp;omega)]
end
section
variable {α:Type} {f:α→List Value} {sz:Nat} {w w':World} {v:Value} {l:List α} {S T:List Nat} {e:TypeId}
end
open Go.RowKit
structure Kept {α:Type} (E:World→List Value→α→List Nat→Prop):Prop where
 gf:∀ {w w':World} {cs:List Value} {a:α} {U T:List Nat},E w cs a U→aE T w w'→(∀ x∈U,x∉T)→E w' cs a U
 lt:∀ {w:World} {cs:List Value} {a:α} {U:List Nat},E w cs a U→∀ x∈U,x < w.heap.size
def chunk (xs:List Value) (sz k:Nat):List Value:=(xs.drop (k * sz)).take sz
theorem A9 {xs:List Value} {sz k j:Nat} (hj:j < sz):(chunk xs sz k)[j]?=xs[k * sz + j]?:=by
 unfold chunk;rw [List.getElem?_take,if_pos hj,List.getElem?_drop]
theorem Gu {xs:List Value} {sz n k:Nat} (h:xs.length=n * sz) (hk:k < n):(chunk xs sz k).length=sz:=by
 have:(k + 1) * sz≤n * sz:=Nat.mul_le_mul_right _ hk;rw [Nat.add_mul] at this;unfold chunk;rw [List.length_take,List.length_drop];omega
def nJ {α:Type} (E:World→List Value→α→List Nat→Prop) (sz:Nat) (w:World) (xs:List Value) (l:List α) (S:List Nat):Prop :=
 ∀ (k:Nat) a,l[k]?=some a→∃ U,E w (chunk xs sz k) a U∧∀ x∈U,x∈S
def GV {α:Type} (E:World→List Value→α→List Nat→Prop) (sz:Nat) (w:World) (v:Value) (l:List α) (S:List Nat):Prop :=
 ∃ xs T,View w v sz l.length xs T∧nJ E sz w xs l S∧(∀ x∈T,x∈S)∧(∀ x∈S,x < w.heap.size)∧∀ y∈xs,y.oneCell'=true
section
variable {α:Type} {E:World→List Value→α→List Nat→Prop} {sz:Nat} {w w':World} {v:Value} {l:List α} {S T S2:List Nat} {e:TypeId}
theorem nJ.gf (KE:Kept E) {xs:List Value} (h:nJ E sz w xs l S) (k:aE T w w') (hn:∀ x∈S,x∉T):nJ E sz w' xs l S:=fun i a hi=>by
 obtain ⟨U,h1,h2⟩:=h i a hi;exact ⟨U,KE.gf h1 k (fun x hx=>hn x (h2 x hx)),h2⟩
theorem nJ.mono {xs:List Value} (h:nJ E sz w xs l S) (hS:∀ x∈S,x∈S2):nJ E sz w xs l S2:=fun i a hi=>by
 obtain ⟨U,h1,h2⟩:=h i a hi;exact ⟨U,h1,fun x hx=>hS x (h2 x hx)⟩
theorem GV.gf (KE:Kept E) (h:GV E sz w v l S) (k:aE T w w') (hn:∀ x∈S,x∉T):GV E sz w' v l S:=by
 obtain ⟨xs,U,h1,h2,h3,h4,h5⟩:=h;exact ⟨xs,U,h1.gf k (fun x hx=>hn x (h3 x hx)),h2.gf KE k hn,h3,fun x hx=>Nat.lt_of_lt_of_le (h4 x hx) k.size,h5⟩
theorem GV.then (KE:Kept E) (h:GV E sz w v l S) (k:aE [] w w'):GV E sz w' v l S:=h.gf KE k (by simp)
theorem GV.mono (h:GV E sz w v l S) (hS:∀ x∈S,x∈S2) (hl:∀ x∈S2,x < w.heap.size):GV E sz w v l S2:=by
 obtain ⟨xs,U,h1,h2,h3,h4,h5⟩:=h;exact ⟨xs,U,h1,h2.mono hS,fun x hx=>hS x (h3 x hx),hl,h5⟩
theorem GV.lt (h:GV E sz w v l S):∀ x∈S,x < w.heap.size:=by
 obtain ⟨xs,U,h1,h2,h3,h4,h5⟩:=h;exact h4
theorem GV.shape (h:GV E sz w v l S):∃ ao cap,v=.slice ao l.length cap:=by
 obtain ⟨xs,U,h1,_⟩:=h;exact h1.shape
theorem GV.le (h:GV E sz w v l S):l.length≤maxLen:=by
 obtain ⟨xs,U,h1,_⟩:=h;exact h1.le
theorem GV.get {ao:Option Addr} {m cap:Nat} (h:GV E sz w (.slice ao m cap) l S) {k:Nat} {a:α} (hk:l[k]?=some a) :
  ∃ g off cs U,ao=some ⟨g,off,none⟩∧g∈S∧g < w.heap.size∧cs.length=sz∧(∀ j,j < sz→w.cell? ⟨g,off + (k * sz + j),none⟩=cs[j]?)∧E w cs a U∧∀ x∈U,x∈S:=by
 obtain ⟨xs,T,h1,h2,h3,h4,h5⟩:=h;have jr:=(List.getElem?_eq_some_iff.1 hk).1;obtain ⟨g,off,rfl,rfl,hg,hc⟩:=h1.cell (by omega);obtain ⟨U,he,hU⟩:=h2 k a hk;have hlen:=h1.len;have h6:(k + 1) * sz≤l.length * sz:=Nat.mul_le_mul_right _ jr;rw [Nat.add_mul] at h6;exact ⟨g,off,chunk xs sz k,U,rfl,h3 g (by simp),hg,Gu hlen jr,fun j hj=>by rw [hc _ (by omega),A9 hj],he,hU⟩
theorem GV.nil (E:World→List Value→α→List Nat→Prop) (sz:Nat) (w:World):GV E sz w (.slice none 0 0) [] [] :=
 ⟨[],[],View.nil w sz,fun k a h=>by simp at h,by simp,by simp,by simp⟩
end
section
variable {α:Type} {F:World→List Value→α→List Nat→Prop} {P:Program} {t e:TypeId} {sz bytes:Nat} {z:Value}
end
open Go.RowKit Go.ChangeShapes Go.WideShapes Go.Deep
section
variable {H:Type} {enc:TypeId × Value→H} {P:Program}
end
theorem Gv {α:Type}:∀ {l:List α},l.length=1→∃ x0,l=[x0]
 | [x0],_=>⟨_,rfl⟩
theorem Gw {α:Type}:∀ {l:List α},l.length=2→∃ x0 x1,l=[x0,x1]
 | [x0,x1],_=>⟨_,_,rfl⟩
theorem Gy {α:Type}:∀ {l:List α},l.length=3→∃ x0 x1 x2,l=[x0,x1,x2]
 | [x0,x1,x2],_=>⟨_,_,_,rfl⟩
theorem Gz {α:Type}:∀ {l:List α},l.length=4→∃ x0 x1 x2 x3,l=[x0,x1,x2,x3]
 | [x0,x1,x2,x3],_=>⟨_,_,_,_,rfl⟩
theorem GA {α:Type}:∀ {l:List α},l.length=6→∃ x0 x1 x2 x3 x4 x5,l=[x0,x1,x2,x3,x4,x5]
 | [x0,x1,x2,x3,x4,x5],_=>⟨_,_,_,_,_,_,rfl⟩
open Go.RowKit Go.ChangeShapes Go.WideShapes Go.Deep
def kB (k:IntKind) (w:World) (cs:List Value) (n:Int) (U:List Nat):Prop:=cs=[.int k n]∧(Lit.int k n).wf=true∧U=[]
def xT (w:World) (cs:List Value) (b:Bool) (U:List Nat):Prop:=cs=[.bool b]∧U=[]
def mT {α:Type} (E:World→List Value→α→List Nat→Prop) (sz:Nat) (w:World) (cs:List Value) (l:List α) (U:List Nat):Prop:=∃ v,cs=[v]∧GV E sz w v l U
theorem Ba (k:IntKind):Kept (kB k):=⟨fun h _ _=>h,fun h x hx=>by obtain ⟨_,_,rfl⟩:=h;simp at hx⟩
theorem GB:Kept xT:=⟨fun h _ _=>h,fun h x hx=>by obtain ⟨_,rfl⟩:=h;simp at hx⟩
theorem Bb {α:Type} {E:World→List Value→α→List Nat→Prop} {sz:Nat} (K:Kept E):Kept (mT E sz) :=
 ⟨fun h k hn=>by obtain ⟨v,h1,h2⟩:=h;exact ⟨v,h1,h2.gf K k hn⟩,fun h=>by obtain ⟨v,h1,h2⟩:=h;exact h2.lt⟩
structure eU (P:Program) (t:TypeId) {α:Type} (E:World→List Value→α→List Nat→Prop) (sz:Nat):Prop where
 pos:0 < sz
 kept:Kept E
 cells:P.cellsOf t=sz
 op:∀ {H:Type} {enc:TypeId × Value→H} {W:World} {fuel:Nat} {cs:List Value} {x:DataW H × List MemPlace},DataW.trod enc P W 0 (fun _=>true) true fuel t cs=some x→cs.length=sz∧(∀ y∈cs,y.oneCell'=true)∧∃ a U,E W cs a U
section
variable {P:Program} {t e:TypeId}
theorem vL {k:IntKind} (ht:P.underlying t=some (.int k)) (hc:P.cellsOf t=1):eU P t (kB k) 1 :=
 ⟨Nat.one_pos,Ba k,hc,fun h=>by
  obtain ⟨n,rfl,_,hw⟩:=DataW.trod_int ht h;exact ⟨rfl,by simp [Value.oneCell'],n,[],rfl,hw,rfl⟩⟩
theorem GC (ht:P.underlying t=some .bool) (hc:P.cellsOf t=1):eU P t xT 1 :=
 ⟨Nat.one_pos,GB,hc,fun h=>by
  obtain ⟨b,rfl,_⟩:=DataW.trod_bool ht h;exact ⟨rfl,by simp [Value.oneCell'],b,[],rfl,rfl⟩⟩
theorem tf {α:Type} {E:World→List Value→α→List Nat→Prop} {sz:Nat} (ht:P.underlying t=some (.slice e)) (hc:P.cellsOf t=1) (he:eU P e E sz):eU P t (mT E sz) 1:=by
 refine ⟨Nat.one_pos,Bb he.kept,hc,?_⟩;intro H enc W fuel cs x h;rcases open_slice ht h with ⟨rfl,_⟩ | ⟨a,len,cap,m,n,D,Pl,rfl,hb,hl,hm,GD,_,hx⟩
 ·exact ⟨rfl,by simp [Value.oneCell'],[],[],_,rfl,GV.nil _ _ _⟩
 refine ⟨rfl,by simp [Value.oneCell'],?_⟩
 by_cases hz:len=0
 ·subst hz;exact ⟨[],[],_,rfl,[],[],⟨by simp,_,_,rfl,hl,hm,.inl ⟨rfl,rfl⟩⟩,fun k a h=>by simp at h,by simp,by simp,by simp⟩
 have Qb:len≤m:=by rw [GD];simp;omega
 have qY:∀ k,k < len→∃ eV,eV.length=sz∧(∀ y∈eV,y.oneCell'=true)∧(∀ f,f < sz→W.cell? (a.add (k * sz + f))=eV[f]?)∧∃ b U,E W eV b U:=by
  intro k hk;obtain ⟨eV,h1,h2⟩:=hx k (by omega);rw [he.cells] at h1;obtain ⟨e1,e2,e3⟩:=he.op h2;refine ⟨eV,e1,e2,fun f hf=>?_,e3⟩;obtain ⟨_,_,tg⟩:=World.cells?_some h1;have:=tg f (by omega)
  rwa [Go.Deep.add_add] at this
 obtain ⟨g,off,spot⟩:=a;have oQ:=he.pos;obtain ⟨Be,l0,_,c0,b0,U0,_⟩:=qY 0 (by omega);have nK:=c0 0 oQ;rw [List.getElem?_eq_getElem (by omega)] at nK;have GF:spot=none:=by simpa [Addr.add] using World.cell?_spot nK
 subst GF;have tj:g < W.heap.size:=by rw [add_plain] at nK;exact block_lt_of_cell nK
 haveI:Inhabited (List Value × α × List Nat):=⟨([],b0,[])⟩
 obtain ⟨F,hF⟩:=choose_lt (α:=List Value × α × List Nat) (p:=fun k y=>y.1.length=sz∧(∀ z∈y.1,z.oneCell'=true)∧(∀ f,f < sz→W.cell? ⟨g,off + (k * sz + f),none⟩=y.1[f]?)∧E W y.1 y.2.1 y.2.2) (fun k hk=>by
  obtain ⟨eV,h1,h2,h3,b,U,h4⟩:=qY k hk;exact ⟨(eV,b,U),h1,h2,fun f hf=>by have:=h3 f hf;rwa [add_plain] at this,h4⟩)
 have GG:∀ (j:Nat) (l:List Nat),(∀ k∈l,k < len)→(l.flatMap fun k=>(F k).1).length=l.length * sz:=by
  intro j l hl
  induction l with
  | nil=>simp
  | cons k l ih =>
   rw [List.flatMap_cons,List.length_append,(hF k (hl k (by simp))).1,ih (fun q hq=>hl q (by simp [hq])),List.length_cons,Nat.add_mul];omega
 have Bf:∀ (f:Nat),f < sz→∀ (l:List Nat),(∀ k∈l,k < len)→∀ (i k:Nat),l[i]?=some k→(l.flatMap fun k=>(F k).1)[i * sz + f]?=(F k).1[f]?:=by
  intro f hf l
  induction l with
  | nil=>intro _ i k h;simp at h
  | cons q l ih =>
   intro hl i k h;have hq:=(hF q (hl q (by simp))).1
   match i with
   | 0 =>
    simp at h;subst h;rw [List.flatMap_cons,List.getElem?_append_left (by omega)];simp
   | i + 1 =>
    have e:(i + 1) * sz=i * sz + sz:=by rw [Nat.add_mul];omega
    rw [List.flatMap_cons,List.getElem?_append_right (by omega),hq,show (i + 1) * sz + f - sz=i * sz + f by omega];exact ih (fun k hk=>hl k (by simp [hk])) i k (by simpa using h)
 have xU:∀ k∈List.range len,k < len:=fun k hk=>List.mem_range.1 hk
 have iR:((List.range len).flatMap fun k=>(F k).1).length=len * sz:=by rw [GG 0 _ xU];simp
 have hdiv:∀ j,j < len * sz→j / sz < len∧j % sz < sz∧j / sz * sz + j % sz=j:=fun j hj =>
  ⟨Nat.div_lt_of_lt_mul (by rw [Nat.mul_comm];exact hj),Nat.mod_lt _ oQ,Nat.div_add_mod' _ _⟩
 refine ⟨(List.range len).map fun k=>(F k).2.1,g :: (List.range len).flatMap fun k=>(F k).2.2,_,rfl,(List.range len).flatMap fun k=>(F k).1,[g],?_,?_,by simp,?_,?_⟩
 ·refine ⟨by rw [iR];simp,_,_,by simp,by simpa using hl,hm,.inr ⟨g,off,rfl,rfl,tj,fun j hj=>?_⟩⟩;rw [iR] at hj;obtain ⟨d1,d2,d3⟩:=hdiv j hj;have h1:=(hF _ d1).2.2.1 _ d2;rw [d3] at h1;have h2:=Bf _ d2 _ xU (j / sz) (j / sz) (by simp [d1]);rw [d3] at h2;rw [h1,h2]
 ·intro k b hk;obtain ⟨aV,rfl⟩:=List.getElem?_eq_some_iff.1 hk;have aN:k < len:=by simpa using aV
  refine ⟨(F k).2.2,?_,fun y hy=>List.mem_cons_of_mem _ (List.mem_flatMap.2 ⟨k,List.mem_range.2 aN,hy⟩)⟩;have nL:chunk ((List.range len).flatMap fun k=>(F k).1) sz k=(F k).1:=by
   apply List.ext_getElem?;intro f
   by_cases hf:f < sz
   ·rw [A9 hf];exact Bf f hf _ xU k k (by simp [aN])
   ·rw [List.getElem?_eq_none (by unfold chunk;rw [List.length_take];omega),List.getElem?_eq_none (by rw [(hF k aN).1];omega)]
  rw [nL];simpa using (hF k aN).2.2.2
 ·intro y hy;rcases List.mem_cons.1 hy with rfl | hy
  ·exact tj
  ·obtain ⟨k,hk,hy⟩:=List.mem_flatMap.1 hy;exact he.kept.lt (hF k (List.mem_range.1 hk)).2.2.2 y hy
 ·intro y hy;obtain ⟨k,hk,hy⟩:=List.mem_flatMap.1 hy;exact (hF k (List.mem_range.1 hk)).2.1 y hy
theorem eU.field {α:Type} {E:World→List Value→α→List Nat→Prop} {sz:Nat} {H:Type} {enc:TypeId × Value→H} {W:World} {n:Nat} {cs:List Value} {y:Option (DataW H × List MemPlace)} {f:Field} {off:Nat}
  (he:eU P e E sz) (hf:f.type=e) (ho:f.offset=off) (hy:y.isSome=true) (h:DataW.trod enc P W 0 (fun _=>true) true n f.type ((cs.drop f.offset).take (P.cellsOf f.type))=y) :
  (∀ z∈(cs.drop off).take sz,z.oneCell'=true)∧((cs.drop off).take sz).length=sz∧∃ a U,E W ((cs.drop off).take sz) a U:=by
 obtain ⟨y',rfl⟩:=Option.isSome_iff_exists.1 hy;subst hf ho;rw [he.cells] at h;obtain ⟨h1,h2,h3⟩:=he.op h;exact ⟨h2,h1,h3⟩
theorem eU.GH {α:Type} {E:World→List Value→α→List Nat→Prop} {H:Type} {enc:TypeId × Value→H} {W:World} {v:Value} {d:DataW H} {p:List MemPlace}
  (he:eU P t E 1) (hv:v.cells=#[v]) (h:DataW.Trod enc P W 0 (fun _=>true) true t v d p):∃ a U,E W [v] a U:=by
 obtain ⟨fuel,xV⟩:=h;have:=(he.op (show DataW.trod enc P W 0 (fun _=>true) true fuel t [v]=some (d,p) by simpa [hv] using xV)).2.2;exact this
theorem eU.row {α:Type} {E:World→List Value→α→List Nat→Prop} {sz:Nat} {H:Type} {enc:TypeId × Value→H} {W:World} {r:Reach} {b0:Nat} {v:Value} {d:DataW H} {p:List MemPlace}
  (he:eU P t (mT E sz) 1) (ht:P.underlying t=some (.slice e)) (hv:Value.okWide P W r b0 t v) (h:DataW.Trod enc P W 0 (fun _=>true) true t v d p):∃ l S,GV E sz W v l S:=by
 obtain ⟨ao,len,cap,rfl⟩:=okWide_slice ht hv;obtain ⟨l,S,v',h1,h2⟩:=he.GH rfl h;obtain rfl:_=v':=by simpa using h1
 exact ⟨l,S,h2⟩
theorem eU.agg {α:Type} {E:World→List Value→α→List Nat→Prop} {sz:Nat} {fs:Array Field} {H:Type} {enc:TypeId × Value→H} {W:World} {r:Reach} {b0:Nat} {v:Value} {d:DataW H} {p:List MemPlace}
  (he:eU P t E sz) (ht:P.underlying t=some (.struct fs)) (hv:Value.okWide P W r b0 t v) (h:DataW.Trod enc P W 0 (fun _=>true) true t v d p) :
  ∃ cs a U,v=.agg cs∧cs.size=sz∧E W cs.toList a U∧∀ y∈cs.toList,y.oneCell'=true:=by
 obtain ⟨cs,rfl,js⟩:=okWide_struct ht hv;obtain ⟨fuel,xV⟩:=h;obtain ⟨h1,h2,a,U,h3⟩:=he.op (show DataW.trod enc P W 0 (fun _=>true) true fuel t cs.toList=some (d,p) by simpa [Value.cells] using xV);exact ⟨cs,a,U,rfl,by simpa using h1,h3,h2⟩
end
open Go.RowKit
def KR (k:IntKind) (w:World) (v:Value) (e:TypeId) (l:List Int) (S:List Nat):Prop:=Row w v e 1 l.length (l.map (Value.int k)) S
section
variable {k:IntKind} {w w':World} {v:Value} {l:List Int} {S T:List Nat} {e:TypeId}
end
section
variable {P:Program} {t e:TypeId} {bytes:Nat} {z:Value} {k:IntKind}
end
open Go.RowKit Go.Maps
section
variable {P:Program} {k:TypeId} {w w':World} {b n:Nat} {f:Int→Option Value}
end
open Go.RowKit Go.Maps
section
variable {P:Program} {k:TypeId} {w w':World} {b r n fj:Nat} {f:Int→Option Value} {left:Int→Bool}
end
theorem dF.range {w:World} {g:Nat} {cs:List Value} {t:TypeId} (h:dF w g cs t):w.rangeAt g 0 cs:=fun j v hj=>by
 rw [Nat.zero_add,h.cell];exact hj
section
variable {α:Type} {E:World→List Value→α→List Nat→Prop} {sz:Nat} {w w':World} {l:List α} {S:List Nat}
end
def setFrom (xs:List Value) (j:Nat):List Value→List Value
 | []=>xs
 | c :: cs=>setFrom (xs.set j c) (j + 1) cs
theorem GI:∀ (cs:List Value) (xs:List Value) (j i:Nat),(i < j∨j + cs.length≤i)→(setFrom xs j cs)[i]?=xs[i]?
 | [],xs,j,i,_=>rfl
 | c :: cs,xs,j,i,h=>by
  simp only [List.length_cons] at h;rw [setFrom,GI cs _ _ _ (by omega),List.getElem?_set_ne (by omega)]
section
variable {e:TypeId} {sz:Nat}
theorem Row.eu {g off m cap n:Nat} {T:List Nat}:∀ (cs:List Value) (w:World) (xs:List Value) (j:Nat),Row w (.slice (some ⟨g,off,none⟩) m cap) e sz n xs T→j + cs.length≤xs.length →
  Row (w.setCells g (off + j) cs) (.slice (some ⟨g,off,none⟩) m cap) e sz n (setFrom xs j cs) T∧aE T w (w.setCells g (off + j) cs)
 | [],w,xs,j,h,_=>⟨h,aE.refl _ _⟩
 | c :: cs,w,xs,j,h,hl=>by
  simp only [List.length_cons] at hl;obtain ⟨r1,r2⟩:=h.stored j (by omega) c;obtain ⟨r3,r4⟩:=Row.eu cs _ _ (j + 1) r1 (by simp;omega);exact ⟨r3,r2.trans r4 (fun x hx=>.inl hx)⟩
end
section
variable {α:Type} {E:World→List Value→α→List Nat→Prop} {sz:Nat} {w w':World} {l:List α} {S T:List Nat} {e:TypeId}
end
section
variable {α:Type} {F:World→List Value→α→List Nat→Prop} {P:Program} {t e:TypeId} {sz bytes:Nat} {z:Value}
end
theorem dF.newAt (w:World) (cs:List Value) (e:TypeId) (b:Nat) (hb:b=w.heap.size):dF (w.alloc (.cells cs.toArray e)) b cs e:=by subst hb;exact dF.new w cs e
section
variable {α:Type} {F:World→List Value→α→List Nat→Prop} {P:Program} {t e:TypeId} {sz bytes:Nat} {z:Value}
def GJ (e:TypeId) (w0 w:World) (b:Nat):Prop:=aE [] w0 w∧dF w b [] e∧w0.heap.size≤b
end
section
variable {α:Type} {F:World→List Value→α→List Nat→Prop} {P:Program} {t e:TypeId} {sz bytes:Nat} {z:Value}
theorem fD (w0:World) (e:TypeId):GJ e w0 (w0.alloc (.cells #[] e)) w0.heap.size:=⟨(aE.refl [] w0).alloc _,dF.newAt w0 [] _ _ rfl,Nat.le_refl _⟩
end
section
variable {α:Type} {E:World→List Value→α→List Nat→Prop} {w:World} {l:List α} {S:List Nat}
end
section
variable {P:Program} {ops:Array Oper} {Q:Exit→Act→World→Prop} {md:Region.Mode} {S:World→Prop} {m:Nat}
def waitsFor (md:Region.Mode) (ops:Array Oper) (m i:Nat):Bool:=match ops[m]? with
 | some o=>o.after.any (fun e=>e.on == i && Region.binds md e)
 | none=>false
theorem xW {i:Nat} {oj:Oper} {aH:Array Bool} (hr:i∈Region.ready md ops aH) (nM:∀ e∈oj.after,Region.binds md e=true→aH.getD e.on false=true):∀ e∈oj.after,Region.binds md e=true→e.on≠i:=fun e he hb heq=>by
 have h1:=nM e he hb;have h0:=(mem_ready.1 hr).1;rw [heq] at h1
 by_cases hl:i < aH.size
 ·simp [hl] at h0 h1;rw [h0] at h1;cases h1
 ·simp [Array.getElem?_eq_none (Nat.le_of_not_lt hl)] at h1
end
open Go.RowKit
section
variable {w w':World} {v:Value} {es e:TypeId} {ll:List (List Int)} {T S:List Nat} {Us:List (List Nat)}
end
open Go.RowKit
open Go.RowKit
namespace Fl
inductive A where
 | v (x:Value)
 | r (sz:Nat) (l:List (List A))
mutual
def RA (ok:Nat→Prop) (w:World):A→Value→Prop
 | .v y,x=>x=y∧y.oneCell'=true
 | .r sz l,x=>∃ ao cap,x=.slice ao l.length cap∧l.length≤cap∧cap≤maxLen∧(l=[]∨∃ g off,ao=some ⟨g,off,none⟩∧ok g∧g < w.heap.size∧RL ok w l g off sz)
def RL (ok:Nat→Prop) (w:World):List (List A)→Nat→Nat→Nat→Prop
 | [],_,_,_=>True
 | cs :: l,g,off,sz=>(∃ vs:List Value,vs.length=sz∧w.rangeAt g off vs∧RC ok w cs vs)∧RL ok w l g (off + sz) sz
def RC (ok:Nat→Prop) (w:World):List A→List Value→Prop
 | [],vs=>vs=[]
 | a :: cs,vs=>∃ x xs,vs=x :: xs∧RA ok w a x∧RC ok w cs xs
end
def Mon (ok dL:Nat→Prop) (w w':World):Prop:=w.heap.size≤w'.heap.size∧∀ g,g < w.heap.size→ok g→dL g∧w'.heap[g]?=w.heap[g]?
theorem Mon.refl (ok:Nat→Prop) (w:World):Mon ok ok w w:=⟨Nat.le_refl _,fun g _ h=>⟨h,rfl⟩⟩
theorem Mon.ju {ok dL:Nat→Prop} {S:List Nat} {w w':World} (k:aE S w w') (h:∀ g,g < w.heap.size→ok g→dL g∧g∉S):Mon ok dL w w' :=
 ⟨k.size,fun g hg ho=>⟨(h g hg ho).1,k.block g hg (h g hg ho).2⟩⟩
theorem rangeAt_of_block {w w':World} {g off:Nat} {vs:List Value} (h:w.rangeAt g off vs) (e:w'.heap[g]?=w.heap[g]?):w'.rangeAt g off vs:=fun j v hj=>by
 rw [World.cell?_of_block (w:=w) e];exact h j v hj
mutual
theorem RA.ck {ok dL:Nat→Prop} {w w':World} (m:Mon ok dL w w'):∀ (a:A) (x:Value),RA ok w a x→RA dL w' a x
 | .v y,x,h=>by unfold RA at h ⊢;exact h
 | .r sz l,x,h=>by
  unfold RA at h ⊢;obtain ⟨ao,cap,h1,h2,h3,h4⟩:=h;refine ⟨ao,cap,h1,h2,h3,?_⟩;rcases h4 with h4 | ⟨g,off,h4,h5,h6,h7⟩
  ·exact .inl h4
  ·exact .inr ⟨g,off,h4,(m.2 g h6 h5).1,Nat.lt_of_lt_of_le h6 m.1,RL.ck m l g off sz (m.2 g h6 h5).2 h7⟩
theorem RL.ck {ok dL:Nat→Prop} {w w':World} (m:Mon ok dL w w'):∀ (l:List (List A)) (g off sz:Nat),w'.heap[g]?=w.heap[g]?→RL ok w l g off sz→RL dL w' l g off sz
 | [],_,_,_,_,_=>by unfold RL;trivial
 | cs :: l,g,off,sz,e,h=>by
  unfold RL at h ⊢;obtain ⟨⟨vs,h1,h2,h3⟩,h4⟩:=h;exact ⟨⟨vs,h1,rangeAt_of_block h2 e,RC.ck m cs vs h3⟩,RL.ck m l g (off + sz) sz e h4⟩
theorem RC.ck {ok dL:Nat→Prop} {w w':World} (m:Mon ok dL w w'):∀ (cs:List A) (vs:List Value),RC ok w cs vs→RC dL w' cs vs
 | [],vs,h=>by unfold RC at h ⊢;exact h
 | a :: cs,vs,h=>by
  unfold RC at h ⊢;obtain ⟨x,xs,h1,h2,h3⟩:=h;exact ⟨x,xs,h1,RA.ck m a x h2,RC.ck m cs xs h3⟩
end
section
variable {ok:Nat→Prop} {w:World}
theorem RA.one {a:A} {x:Value} (h:RA ok w a x):x.oneCell'=true:=by
 cases a with
 | v y=>unfold RA at h;obtain ⟨rfl,h⟩:=h;exact h
 | r sz l=>unfold RA at h;obtain ⟨ao,cap,rfl,_⟩:=h;rfl
theorem RC.len:∀ {cs:List A} {vs:List Value},RC ok w cs vs→vs.length=cs.length
 | [],vs,h=>by unfold RC at h;simp [h]
 | a :: cs,vs,h=>by unfold RC at h;obtain ⟨x,xs,rfl,_,h⟩:=h;simp [RC.len h]
theorem RC.one:∀ {cs:List A} {vs:List Value},RC ok w cs vs→∀ v∈vs,v.oneCell'=true
 | [],vs,h=>by unfold RC at h;simp [h]
 | a :: cs,vs,h=>by
  unfold RC at h;obtain ⟨x,xs,rfl,h1,h⟩:=h;intro v hv;rcases List.mem_cons.1 hv with rfl | hv
  ·exact h1.one
  ·exact h.one v hv
theorem RC.nil:RC ok w [] []:=by unfold RC;rfl
theorem RC.cons {a:A} {x:Value} {cs:List A} {xs:List Value} (h:RA ok w a x) (k:RC ok w cs xs):RC ok w (a :: cs) (x :: xs):=by unfold RC;exact ⟨x,xs,rfl,h,k⟩
theorem RC.get:∀ {cs:List A} {vs:List Value} (k:Nat) {a:A},RC ok w cs vs→cs[k]?=some a→∃ x,vs[k]?=some x∧RA ok w a x
 | [],vs,k,a,h,e=>by simp at e
 | b :: cs,vs,0,a,h,e=>by
  unfold RC at h;obtain ⟨x,xs,rfl,h1,h⟩:=h;simp at e;subst e;exact ⟨x,rfl,h1⟩
 | b :: cs,vs,k + 1,a,h,e=>by
  unfold RC at h;obtain ⟨x,xs,rfl,h1,h⟩:=h;simp at e;simpa using RC.get k h e
theorem RC.set:∀ {cs:List A} {vs:List Value} (k:Nat) {a:A} {x:Value},RC ok w cs vs→RA ok w a x→RC ok w (cs.set k a) (vs.set k x)
 | [],vs,k,a,x,h,e=>by unfold RC at h;subst h;simp [RC.nil]
 | b :: cs,vs,0,a,x,h,e=>by
  unfold RC at h;obtain ⟨y,ys,rfl,h1,h⟩:=h;exact RC.cons e h
 | b :: cs,vs,k + 1,a,x,h,e=>by
  unfold RC at h;obtain ⟨y,ys,rfl,h1,h⟩:=h;exact RC.cons h1 (RC.set k h e)
theorem RC.app:∀ {cs ds:List A} {vs us:List Value},RC ok w cs vs→RC ok w ds us→RC ok w (cs ++ ds) (vs ++ us)
 | [],ds,vs,us,h,k=>by unfold RC at h;subst h;exact k
 | a :: cs,ds,vs,us,h,k=>by
  unfold RC at h;obtain ⟨x,xs,rfl,h1,h⟩:=h;exact RC.cons h1 (RC.app h k)
theorem RC.drop:∀ (n:Nat) {cs:List A} {vs:List Value},RC ok w cs vs→RC ok w (cs.drop n) (vs.drop n)
 | 0,cs,vs,h=>h
 | n + 1,[],vs,h=>by unfold RC at h;subst h;exact RC.nil
 | n + 1,a :: cs,vs,h=>by
  unfold RC at h;obtain ⟨x,xs,rfl,h1,h⟩:=h;exact RC.drop n h
theorem RC.take:∀ (n:Nat) {cs:List A} {vs:List Value},RC ok w cs vs→RC ok w (cs.take n) (vs.take n)
 | 0,cs,vs,h=>by simpa using RC.nil
 | n + 1,[],vs,h=>by unfold RC at h;subst h;exact RC.nil
 | n + 1,a :: cs,vs,h=>by
  unfold RC at h;obtain ⟨x,xs,rfl,h1,h⟩:=h;exact RC.cons h1 (RC.take n h)
theorem RL.get:∀ {l:List (List A)} {g off sz:Nat} (k:Nat) {cs:List A},RL ok w l g off sz→l[k]?=some cs→∃ vs:List Value,vs.length=sz∧w.rangeAt g (off + k * sz) vs∧RC ok w cs vs
 | [],g,off,sz,k,cs,h,e=>by simp at e
 | c :: l,g,off,sz,0,cs,h,e=>by
  unfold RL at h;simp at e;subst e;simpa using h.1
 | c :: l,g,off,sz,k + 1,cs,h,e=>by
  unfold RL at h;simp at e;have:=RL.get k h.2 e;rw [show off + (k + 1) * sz=off + sz + k * sz by rw [Nat.add_mul];omega];exact this
theorem RL.drop:∀ {l:List (List A)} {g off sz:Nat} (n:Nat),RL ok w l g off sz→RL ok w (l.drop n) g (off + n * sz) sz
 | l,g,off,sz,0,h=>by simpa using h
 | [],g,off,sz,n + 1,h=>by simp;unfold RL;trivial
 | c :: l,g,off,sz,n + 1,h=>by
  unfold RL at h;have:=RL.drop n h.2;rw [show off + (n + 1) * sz=off + sz + n * sz by rw [Nat.add_mul];omega];exact this
theorem RL.take:∀ {l:List (List A)} {g off sz:Nat} (n:Nat),RL ok w l g off sz→RL ok w (l.take n) g off sz
 | l,g,off,sz,0,h=>by simp;unfold RL;trivial
 | [],g,off,sz,n + 1,h=>by simp;unfold RL;trivial
 | c :: l,g,off,sz,n + 1,h=>by
  unfold RL at h;simp only [List.take_succ_cons];unfold RL;exact ⟨h.1,RL.take n h.2⟩
end
inductive D where
 | c (a:A)
 | agg (cs:List A)
 | aY (l:List D)
 | el (cs:List A) (o:Nat)
 | ow (v:Value) (sz k o:Nat)
 | any
mutual
def RD (ok:Nat→Prop) (w:World):D→Value→Prop
 | .c a,x=>RA ok w a x
 | .agg cs,x=>∃ vs:List Value,x=.agg vs.toArray∧RC ok w cs vs
 | .aY l,x=>∃ vs:List Value,x=.tuple vs.toArray∧bO ok w l vs
 | .el cs o,x=>∃ g off,∃ vs:List Value,x=.pointer (some ⟨g,off + o,none⟩)∧ok g∧g < w.heap.size∧w.rangeAt g off vs∧RC ok w cs vs
 | .ow v sz k o,x=>∃ g off n cap,v=.slice (some ⟨g,off,none⟩) n cap∧x=.pointer (some ⟨g,off + k * sz + o,none⟩)
 | .any,_=>True
def bO (ok:Nat→Prop) (w:World):List D→List Value→Prop
 | [],vs=>vs=[]
 | d :: l,vs=>∃ x xs,vs=x :: xs∧RD ok w d x∧bO ok w l xs
end
mutual
theorem RD.ck {ok dL:Nat→Prop} {w w':World} (m:Mon ok dL w w'):∀ (d:D) (x:Value),RD ok w d x→RD dL w' d x
 | .c a,x,h=>by unfold RD at h ⊢;exact RA.ck m a x h
 | .agg cs,x,h=>by unfold RD at h ⊢;obtain ⟨vs,h1,h2⟩:=h;exact ⟨vs,h1,RC.ck m cs vs h2⟩
 | .aY l,x,h=>by unfold RD at h ⊢;obtain ⟨vs,h1,h2⟩:=h;exact ⟨vs,h1,bO.ck m l vs h2⟩
 | .el cs o,x,h=>by
  unfold RD at h ⊢;obtain ⟨g,off,vs,h1,h2,h3,h4,h5⟩:=h;exact ⟨g,off,vs,h1,(m.2 g h3 h2).1,Nat.lt_of_lt_of_le h3 m.1,rangeAt_of_block h4 (m.2 g h3 h2).2,RC.ck m cs vs h5⟩
 | .ow v sz k o,x,h=>by unfold RD at h ⊢;exact h
 | .any,x,h=>by unfold RD;trivial
theorem bO.ck {ok dL:Nat→Prop} {w w':World} (m:Mon ok dL w w'):∀ (l:List D) (vs:List Value),bO ok w l vs→bO dL w' l vs
 | [],vs,h=>by unfold bO at h ⊢;exact h
 | d :: l,vs,h=>by
  unfold bO at h ⊢;obtain ⟨x,xs,h1,h2,h3⟩:=h;exact ⟨x,xs,h1,RD.ck m d x h2,bO.ck m l xs h3⟩
end
theorem bO.nil {ok:Nat→Prop} {w:World}:bO ok w [] []:=by unfold bO;rfl
theorem bO.cons {ok:Nat→Prop} {w:World} {d:D} {x:Value} {l:List D} {xs:List Value} (h:RD ok w d x) (k:bO ok w l xs):bO ok w (d :: l) (x :: xs):=by unfold bO;exact ⟨x,xs,rfl,h,k⟩
theorem bO.len {ok:Nat→Prop} {w:World}:∀ {l:List D} {vs:List Value},bO ok w l vs→vs.length=l.length
 | [],vs,h=>by unfold bO at h;simp [h]
 | a :: cs,vs,h=>by unfold bO at h;obtain ⟨x,xs,rfl,_,h⟩:=h;simp [bO.len h]
theorem bO.get {ok:Nat→Prop} {w:World}:∀ {l:List D} {vs:List Value} (k:Nat) {d:D},bO ok w l vs→l[k]?=some d→∃ x,vs[k]?=some x∧RD ok w d x
 | [],vs,k,a,h,e=>by simp at e
 | b :: cs,vs,0,a,h,e=>by
  unfold bO at h;obtain ⟨x,xs,rfl,h1,h⟩:=h;simp at e;subst e;exact ⟨x,rfl,h1⟩
 | b :: cs,vs,k + 1,a,h,e=>by
  unfold bO at h;obtain ⟨x,xs,rfl,h1,h⟩:=h;simp at e;simpa using bO.get k h e
def cH:Value→List Nat
 | .slice (some a) _ _=>[a.block]
 | _=>[]
def RX (ok:Nat→Prop) (w:World) (sz:Nat):List (List A)→List Value→Prop
 | [],xs=>xs=[]
 | cs :: l,xs=>∃ vs ys,xs=vs ++ ys∧vs.length=sz∧RC ok w cs vs∧RX ok w sz l ys
inductive ak where
 | box (b:Nat) (t:TypeId) (cs:List A)
 | row (v:Value) (e:TypeId) (sz:Nat) (l:List (List A))
 | obj (T:List Nat) (Φ:World→Prop)
def ak.bR:ak→List Nat
 | .box b _ _=>[b]
 | .row v _ _ _=>cH v
 | .obj T _=>T
def ak.holds (ok:Nat→Prop) (w:World):ak→Prop
 | .box b t cs=>∃ vs,dF w b vs t∧RC ok w cs vs
 | .row v e sz l=>∃ xs,Row w v e sz l.length xs (cH v)∧RX ok w sz l xs
 | .obj T Φ=>(∀ x∈T,x < w.heap.size)∧∀ w' S,aE S w w'→(∀ x∈T,x∉S)→Φ w'
theorem RX.ck {ok dL:Nat→Prop} {w w':World} (m:Mon ok dL w w') {sz:Nat}:∀ (l:List (List A)) (xs:List Value),RX ok w sz l xs→RX dL w' sz l xs
 | [],xs,h=>h
 | cs :: l,xs,h=>by
  obtain ⟨vs,ys,h1,h2,h3,h4⟩:=h;exact ⟨vs,ys,h1,h2,RC.ck m cs vs h3,RX.ck m l ys h4⟩
theorem RX.one {ok:Nat→Prop} {w:World} {sz:Nat}:∀ {l:List (List A)} {xs:List Value},RX ok w sz l xs→∀ v∈xs,v.oneCell'=true
 | [],xs,h=>by unfold RX at h;simp [h]
 | cs :: l,xs,h=>by
  obtain ⟨vs,ys,rfl,h2,h3,h4⟩:=h;intro v hv;rcases List.mem_append.1 hv with hv | hv
  ·exact h3.one v hv
  ·exact h4.one v hv
theorem RX.app {ok:Nat→Prop} {w:World} {sz:Nat}:∀ {l m:List (List A)} {xs ys:List Value},RX ok w sz l xs→RX ok w sz m ys→RX ok w sz (l ++ m) (xs ++ ys)
 | [],m,xs,ys,h,k=>by unfold RX at h;subst h;exact k
 | cs :: l,m,xs,ys,h,k=>by
  obtain ⟨vs,us,rfl,h2,h3,h4⟩:=h;exact ⟨vs,us ++ ys,by simp,h2,h3,RX.app h4 k⟩
theorem RX.len {ok:Nat→Prop} {w:World} {sz:Nat}:∀ {l:List (List A)} {xs:List Value},RX ok w sz l xs→xs.length=l.length * sz
 | [],xs,h=>by unfold RX at h;simp [h]
 | cs :: l,xs,h=>by
  obtain ⟨vs,us,rfl,h2,h3,h4⟩:=h;have:=RX.len h4;simp [this,h2,Nat.add_mul,Nat.add_comm]
theorem RX.get {ok:Nat→Prop} {w:World} {sz:Nat}:∀ {l:List (List A)} {xs:List Value} (k:Nat) {cs:List A},RX ok w sz l xs→l[k]?=some cs→∃ vs:List Value,vs.length=sz∧(∀ j,j < sz→xs[k * sz + j]?=vs[j]?)∧RC ok w cs vs
 | [],xs,k,cs,h,e=>by simp at e
 | c :: l,xs,0,cs,h,e=>by
  obtain ⟨vs,ys,rfl,h2,h3,h4⟩:=h;simp at e;subst e;exact ⟨vs,h2,fun j hj=>by rw [Nat.zero_mul,Nat.zero_add,List.getElem?_append_left (by omega)],h3⟩
 | c :: l,xs,k + 1,cs,h,e=>by
  obtain ⟨vs,ys,rfl,h2,h3,h4⟩:=h;simp at e;obtain ⟨us,g1,g2,g3⟩:=RX.get k h4 e;exact ⟨us,g1,fun j hj=>by
   rw [← g2 j hj,List.getElem?_append_right (by rw [h2,Nat.add_mul];omega),h2]
   congr 1;rw [Nat.add_mul];omega,g3⟩
theorem RX.set {ok:Nat→Prop} {w:World} {sz:Nat}:∀ {l:List (List A)} {xs:List Value} (k o:Nat) {cs:List A} {a:A} {x:Value},RX ok w sz l xs→l[k]?=some cs→o < sz→RA ok w a x→RX ok w sz (l.set k (cs.set o a)) (xs.set (k * sz + o) x)
 | [],xs,k,o,cs,a,x,h,e,ho,ha=>by simp at e
 | c :: l,xs,0,o,cs,a,x,h,e,ho,ha=>by
  obtain ⟨vs,ys,rfl,h2,h3,h4⟩:=h;simp at e;subst e;refine ⟨vs.set o x,ys,?_,by simpa using h2,RC.set o h3 ha,h4⟩;rw [Nat.zero_mul,Nat.zero_add,List.set_append_left _ _ (by omega)]
 | c :: l,xs,k + 1,o,cs,a,x,h,e,ho,ha=>by
  obtain ⟨vs,ys,rfl,h2,h3,h4⟩:=h;simp at e;refine ⟨vs,ys.set (k * sz + o) x,?_,h2,h3,RX.set k o h4 e ho ha⟩;rw [List.set_append_right _ _ (by rw [h2,Nat.add_mul];omega),h2]
  congr 2;rw [Nat.add_mul];omega
theorem ak.holds.ck {ok dL:Nat→Prop} {w w':World} {S:List Nat} (k:aE S w w') (m:Mon ok dL w w'):∀ {r:ak},r.holds ok w→(∀ x∈r.bR,x∉S)→r.holds dL w'
 | .box b t cs,h,hn=>by
  obtain ⟨vs,h1,h2⟩:=h;exact ⟨vs,h1.gf k (hn b (by simp [ak.bR])),RC.ck m cs vs h2⟩
 | .row v e sz l,h,hn=>by
  obtain ⟨xs,h1,h2⟩:=h;exact ⟨xs,h1.gf k hn,RX.ck m l xs h2⟩
 | .obj T Φ,h,hn=>by
  exact ⟨fun x hx=>Nat.lt_of_lt_of_le (h.1 x hx) k.size,fun xS S' k' GK=>h.2 xS (S ++ S') ((k.mono (fun x hx=>.inl (List.mem_append_left S' hx))).trans k' (fun x hx=>.inl (List.mem_append_right S hx))) (fun x hx hm=>by
   rcases List.mem_append.1 hm with hm | hm
   ·exact hn x hx hm
   ·exact GK x hx hm)⟩
theorem ak.holds.lt {ok:Nat→Prop} {w:World}:∀ {r:ak},r.holds ok w→∀ x∈r.bR,x < w.heap.size
 | .box b t cs,h,x,hx=>by
  obtain ⟨vs,h1,h2⟩:=h;simp [ak.bR] at hx;subst hx;exact h1.lt
 | .row v e sz l,h,x,hx=>by obtain ⟨xs,h1,h2⟩:=h;exact h1.lt x hx
 | .obj T Φ,h,x,hx=>h.1 x hx
def aS (L:List ak):List Nat:=L.flatMap ak.bR
theorem cJ {L:List ak} {x:Nat}:x∈aS L↔∃ r∈L,x∈r.bR:=by simp [aS]
end Fl
open Go.RowKit
namespace Fl
structure Cx where
 F:FuncId
 R:Ending→World→Prop
 tn:List Nat
 GM:Nat→Prop
 e:World
 N:Nat
abbrev Fm:=List (Nat × D)
def look:Fm→Nat→Option D
 | [],_=>none
 | (k,d) :: f,t=>cond (Nat.beq k t) (some d) (look f t)
def aZ (c:Cx) (L:List ak) (x:Nat):Prop:=(c.GM x∨x∈c.tn∨c.e.heap.size≤x)∧x∉aS L
def fK (L:List ak):Prop:=L.Pairwise (fun r s=>∀ x∈r.bR,x∉s.bR)
structure St (c:Cx) (f:Fm) (L:List ak) (a:Act) (w:World):Prop where
 kp:aE c.tn c.e w
 size:a.tmps.size=c.N
 iS:a.defers=[]
 res:∀ r∈L,r.holds (aZ c L) w
 ez:∀ x∈aS L,x∈c.tn∨c.e.heap.size≤x
 ap:fK L
 fr:∀ t d,look f t=some d→RD (aZ c L) w d (a.tmps.getD t undef)
theorem St.lt {c:Cx} {f:Fm} {L:List ak} {a:Act} {w:World} (h:St c f L a w):∀ x∈aS L,x < w.heap.size:=fun x hx=>by
 obtain ⟨r,hr,hx⟩:=cJ.1 hx;exact (h.res r hr).lt x hx
def iT (P:Program) (c:Cx) (k:List Item) (a:Act) (w:World):Prop :=
 ∀ (b:Frame) (cs:List Frame),b.fn=c.F→b.kind=.normal→∃ en w' fr,c.R en w'∧Comes P (lone (b.at a k) cs w) (lone fr cs w') en∧fr.fn=c.F∧fr.leaving P w' en
structure J (P:Program) (c:Cx) (k:List Item) (f:Fm) (L:List ak):Prop where
 go:∀ a w,St c f L a w→iT P c k a w
theorem iT.step {P:Program} {c:Cx} {k k':List Item} {a a':Act} {w w':World} (h:iT P c k' a' w') (hs:∀ (b:Frame) (cs:List Frame),step P (lone (b.at a k) cs w)=.next (lone (b.at a' k') cs w')):iT P c k a w:=fun b cs hb hk=>by
 obtain ⟨en,w2,fr,h1,h2,h3⟩:=h b cs hb hk;exact ⟨en,w2,fr,h1,h2.of_steps (.one (hs b cs)),h3⟩
theorem iT.wp {P:Program} {c:Cx} {k:List Item} {x:Code} {a:Act} {w:World} (h:x.wp P (fun e a' w'=>e=.normal∧iT P c k a' w') a w):iT P c (.code x :: k) a w:=fun b cs hb hk=>by
 obtain ⟨e,a',w',⟨rfl,hr⟩,GN⟩:=h b k cs;obtain ⟨en,w2,fr,h1,h2,h3⟩:=hr b cs hb hk;exact ⟨en,w2,fr,h1,h2.of_steps GN,h3⟩
section
variable {P:Program} {c:Cx} {k:List Item} {f:Fm} {L:List ak}
theorem J.seq {x y:Code} (h:J P c (.code x :: .code y :: k) f L):J P c (.code (.seq x y) :: k) f L:=⟨fun a w s=>(h.go a w s).step fun _ _=>step_seq⟩
theorem J.skip (h:J P c k f L):J P c (.code .skip :: k) f L:=⟨fun a w s=>(h.go a w s).step fun _ _=>step_skip⟩
theorem J.block {id:Nat} {x:Code} (h:J P c (.code x :: .inBlock id :: k) f L):J P c (.code (.block id x) :: k) f L:=⟨fun a w s=>(h.go a w s).step fun _ _=>step_block⟩
theorem J.inBlock {id:Nat} (h:J P c k f L):J P c (.inBlock id :: k) f L:=⟨fun a w s=>(h.go a w s).step fun _ _=>step_inBlock⟩
theorem J.exit {id:Nat} {k':List Item} (e:exitTo id k=some k') (h:J P c k' f L):J P c (.code (.exit id) :: k) f L:=⟨fun a w s=>(h.go a w s).step fun _ _=>step_exit e⟩
def aP (f:Fm):Operand→Option D
 | .tmp t=>look f t
 | .const v=>cond v.oneCell' (some (.c (.v v))) none
 | .global g=>some (.c (.v (.pointer (some ⟨g,0,none⟩))))
 | .func fn=>some (.c (.v (.func (.func fn) #[] #[])))
theorem St.ev {a:Act} {w:World} (s:St c f L a w) {x:Operand} {d:D} (h:aP f x=some d):RD (aZ c L) w d (a.eval x):=by
 cases x with
 | tmp t=>exact s.fr t d h
 | const v =>
  simp only [aP] at h
  cases ho:v.oneCell' with
  | false=>rw [ho] at h;cases h
  | true=>rw [ho] at h;cases h;unfold RD RA;exact ⟨rfl,ho⟩
 | global g=>unfold aP at h;cases h;unfold RD RA;exact ⟨rfl,rfl⟩
 | func g=>unfold aP at h;cases h;unfold RD RA;exact ⟨rfl,rfl⟩
theorem St.val {a:Act} {w:World} (s:St c f L a w) {x:Operand} {v:Value} (h:aP f x=some (.c (.v v))):a.eval x=v:=by
 have:=s.ev h;unfold RD RA at this;exact this.1
theorem J.cond {x y:Code} {t:Operand} {b:Bool} (hc:aP f t=some (.c (.v (.bool b)))) (ht:b=true→J P c (.code x :: k) f L) (hf:b=false→J P c (.code y :: k) f L):J P c (.code (.cond t x y) :: k) f L:=⟨fun a w s=>by
 have hv:=s.val hc
 cases b with
 | true=>exact ((ht rfl).go a w s).step fun _ _=>step_cond hv
 | false=>exact ((hf rfl).go a w s).step fun _ _=>step_cond hv⟩
theorem J.fI {x y:Code} {t:Operand} (hc:aP f t=some (.c (.v (.bool true)))) (ht:J P c (.code x :: k) f L):J P c (.code (.cond t x y) :: k) f L:=J.cond hc (fun _=>ht) (fun h=>by cases h)
theorem J.eW {x y:Code} {t:Operand} (hc:aP f t=some (.c (.v (.bool false)))) (hf:J P c (.code y :: k) f L):J P c (.code (.cond t x y) :: k) f L:=J.cond hc (fun h=>by cases h) (fun _=>hf)
theorem J.loop {x:Code} {ι:Type} (fi:ι→Fm) (Li:ι→List ak) (μ:ι→Nat) (i0:ι) (h0:∀ X,J P c X (fi i0) (Li i0)→J P c X f L)
  (round:∀ i,(∀ i',μ i' < μ i→J P c (.inLoop x :: k) (fi i') (Li i'))→J P c (.code x :: .inLoop x :: k) (fi i) (Li i)):J P c (.code (.loop x) :: k) f L:=by
 have key:∀ n i,μ i=n→J P c (.code x :: .inLoop x :: k) (fi i) (Li i):=by
  intro n
  induction n using Nat.strongRecOn with
  | _ n ih =>
   intro i hi;exact round i fun i' fo=>⟨fun a w s=>((ih (μ i') (hi ▸ fo) i' rfl).go a w s).step fun _ _=>step_inLoop⟩
 have h1:=h0 _ (key _ i0 rfl);exact ⟨fun a w s=>(h1.go a w s).step fun _ _=>step_loop⟩
theorem J.less {f':Fm} (hs:∀ t d,look f' t=some d→look f t=some d) (h:J P c k f' L):J P c k f L:=⟨fun a w s =>
 h.go a w ⟨s.kp,s.size,s.iS,s.res,s.ez,s.ap,fun t d ht=>s.fr t d (hs t d ht)⟩⟩
def qZ (f:Fm):Fm→Prop
 | []=>True
 | (t,d) :: f'=>look f t=some d∧qZ f f'
theorem qZ.look {f:Fm}:∀ {f':Fm},qZ f f'→∀ t d,look f' t=some d→look f t=some d
 | [],_,t,d,h=>by simp [Fl.look] at h
 | (s,e) :: f',ho,t,d,h=>by
  simp only [Fl.look] at h
  cases hb:Nat.beq s t with
  | true =>
   rw [hb] at h;have:s=t:=Nat.eq_of_beq_eq_true hb;subst this;simp at h;subst h;exact ho.1
  | false=>rw [hb] at h;exact qZ.look ho.2 t d h
theorem J.only (f':Fm) (ho:qZ f f') (h:J P c k f' L):J P c k f L:=J.less ho.look h
theorem nN {α:Type}:∀ (L:List α) (i:Nat) {r:α},L[i]?=some r→(r :: L.eraseIdx i).Perm L
 | [],i,r,h=>by simp at h
 | x :: L,0,r,h=>by simp at h;subst h;simp
 | x :: L,i + 1,r,h=>by
  simp at h;simp only [List.eraseIdx_cons_succ];exact (List.Perm.swap x r _).trans ((nN L i h).cons x)
theorem J.pull (i:Nat) {r:ak} (hi:L[i]?=some r) (h:J P c k f (r :: L.eraseIdx i)):J P c k f L:=⟨fun a w s=>by
 have hp:(r :: L.eraseIdx i).Perm L:=nN L i hi;have hm:∀ x,x∈aS (r :: L.eraseIdx i)↔x∈aS L:=fun x=>by
  rw [cJ,cJ];exact ⟨fun ⟨q,hq,hx⟩=>⟨q,hp.mem_iff.1 hq,hx⟩,fun ⟨q,hq,hx⟩=>⟨q,hp.mem_iff.2 hq,hx⟩⟩
 have ho:aZ c (r :: L.eraseIdx i)=aZ c L:=by
  funext x;unfold aZ;rw [hm]
 refine h.go a w ⟨s.kp,s.size,s.iS,fun q hq=>by rw [ho];exact s.res q (hp.mem_iff.1 hq),fun x hx=>s.ez x ((hm x).1 hx),?_,fun t d ht=>by rw [ho];exact s.fr t d ht⟩;exact (hp.pairwise_iff (fun {x y} kC z hz nQ=>kC z nQ hz)).2 s.ap⟩
theorem J.drop (i:Nat) (h:J P c k f (L.eraseIdx i)):J P c k f L:=⟨fun a w s=>by
 have hm:∀ q,q∈L.eraseIdx i→q∈L:=fun q hq=>List.mem_of_mem_eraseIdx hq
 have hf:∀ x,x∈aS (L.eraseIdx i)→x∈aS L:=fun x hx=>by
  obtain ⟨q,hq,hx⟩:=cJ.1 hx;exact cJ.2 ⟨q,hm q hq,hx⟩
 have mo:Mon (aZ c L) (aZ c (L.eraseIdx i)) w w:=⟨Nat.le_refl _,fun g _ hg=>⟨⟨hg.1,fun hx=>hg.2 (hf g hx)⟩,rfl⟩⟩
 exact h.go a w ⟨s.kp,s.size,s.iS,fun q hq=>(s.res q (hm q hq)).ck (aE.refl [] w) mo (by simp),fun x hx=>s.ez x (hf x hx),s.ap.sublist (List.eraseIdx_sublist L i),fun t d ht=>RD.ck mo d _ (s.fr t d ht)⟩⟩
end
end Fl
open Go.RowKit
namespace Fl
def tq (P:Program) (T:TypeId) (k:Nat):Option Nat:=match P.underlying T with
 | some (.struct fs)=>match fs[k]? with
  | some f=>match P.info? f.type with
   | some i=>if i.size=0 then none else some f.offset
   | none=>none
  | none=>none
 | _=>none
def iD (P:Program) (T:TypeId):Option Nat:=(P.info? T).map (·.size)
def jY (P:Program) (T:TypeId):Option Bool:=match P.underlying T with
 | some (.struct _) | some (.array _ _)=>some true
 | some _=>some false
 | none=>none
def kD (P:Program) (T:TypeId):Option TypeId:=match P.underlying T with
 | some (.slice e)=>some e
 | _=>none
def nR (P:Program) (T:TypeId):Option (List Value):=(P.info? T).bind (fun i=>i.zero.map (·.cells.toList))
def q8 (P:Program) (T:TypeId):Option IntKind:=match P.underlying T with
 | some (.int k)=>some k
 | _=>none
class aX (P:Program) (T:TypeId) (k:Nat) (off:outParam Nat):Prop where h:tq P T k=some off:=by kernel_rfl
class eE (P:Program) (T:TypeId):Prop where h:jY P T=some false:=by kernel_rfl
class iU (P:Program) (T:TypeId) (n:outParam Nat):Prop where
 h:jY P T=some true:=by kernel_rfl
 s:iD P T=some n:=by kernel_rfl
class dQ (P:Program) (T:TypeId) (e:outParam TypeId) (sz:outParam Nat):Prop where
 h:kD P T=some e:=by kernel_rfl
 s:iD P e=some sz:=by kernel_rfl
class dN (P:Program) (T:TypeId) (n:outParam Nat):Prop where h:iD P T=some n:=by kernel_rfl
class Qc (P:Program) (T:TypeId) (zs:outParam (List Value)):Prop where h:nR P T=some zs:=by kernel_rfl
def ri (P:Program) (T:TypeId):Bool:=match P.underlying T with
 | some .bool=>true
 | _=>false
class tr (P:Program) (T:TypeId):Prop where h:ri P T=true:=by kernel_rfl
class jv (P:Program) (T:TypeId) (k:outParam IntKind):Prop where h:q8 P T=some k:=by kernel_rfl
section
variable {P:Program}
theorem tq.run {T k off:Nat} (h:tq P T k=some off) (w:World) (b o:Nat):(Instr.fieldAt T (.pointer (some ⟨b,o,none⟩)) k).run P w=.ok (.pointer (some ⟨b,o + off,none⟩)) w:=by
 unfold tq at h
 cases hu:P.underlying T with
 | none=>rw [hu] at h;cases h
 | some d =>
  rw [hu] at h
  cases d with
  | struct fs =>
   simp only at h
   cases hf:fs[k]? with
   | none=>rw [hf] at h;cases h
   | some f =>
    rw [hf] at h;simp only at h
    cases hi:P.info? f.type with
    | none=>rw [hi] at h;cases h
    | some i =>
     rw [hi] at h;simp only at h
     by_cases hz:i.size=0
     ·rw [if_pos hz] at h;cases h
     ·rw [if_neg hz] at h;cases h;simp [Instr.fieldAt,Sem.run_bind,run_underlying hu,hf,Instr.sureAddr,fieldPlace,sizeOf,typeInfo,hi,hz,Addr.add_mid]
  | _=>cases h
theorem jY.runT {T:Nat} (h:jY P T=some true) (w:World):(isAgg T).run P w=.ok true w:=by
 unfold jY at h
 cases hu:P.underlying T with
 | none=>rw [hu] at h;cases h
 | some d=>rw [hu] at h;unfold isAgg;rw [Sem.run_bind,run_underlying hu w];cases d <;> first | rfl | (cases h;done)
theorem jY.xX {T:Nat} (h:jY P T=some false) (w:World):(isAgg T).run P w=.ok false w:=by
 unfold jY at h
 cases hu:P.underlying T with
 | none=>rw [hu] at h;cases h
 | some d=>rw [hu] at h;unfold isAgg;rw [Sem.run_bind,run_underlying hu w];cases d <;> first | rfl | (cases h;done)
theorem iD.run {T n:Nat} (h:iD P T=some n) (w:World):(sizeOf T).run P w=.ok n w:=by
 unfold iD at h
 cases hu:P.info? T with
 | none=>rw [hu] at h;cases h
 | some i=>rw [hu] at h;simp at h;simp [sizeOf,typeInfo,Sem.run_bind,hu,h]
theorem kD.jI {T e:Nat} (h:kD P T=some e):P.underlying T=some (.slice e):=by
 unfold kD at h
 cases hu:P.underlying T with
 | none=>rw [hu] at h;cases h
 | some d=>rw [hu] at h;cases d <;> first | (cases h;rfl) | (cases h;done)
theorem ri.jI {T:Nat} (h:ri P T=true):P.underlying T=some .bool:=by
 unfold ri at h
 cases hu:P.underlying T with
 | none=>rw [hu] at h;cases h
 | some d=>rw [hu] at h;cases d <;> first | rfl | (cases h;done)
theorem Bi {X:Nat} (hu:P.underlying X=some .bool) (w:World) (m n:Bool):(Op.equal X (.bool m) (.bool n)).run P w=.ok (m == n) w:=by
 unfold Op.equal;rw [show Op.maxDepth=9999 + 1 from rfl,Op.equalIn];simp [Sem.run_bind,run_underlying hu]
theorem q8.jI {T:Nat} {k:IntKind} (h:q8 P T=some k):P.underlying T=some (.int k):=by
 unfold q8 at h
 cases hu:P.underlying T with
 | none=>rw [hu] at h;cases h
 | some d=>rw [hu] at h;cases d <;> first | (cases h;rfl) | (cases h;done)
end
section
variable (P:Program) (c:Cx)
structure nU (L:List ak) (U:List Nat) (w w':World):Prop where
 go:∃ T,aE T w w'∧(∀ x∈T,x∈aS L)∧∀ x∈T,∀ j∈U,∀ r,L[j]?=some r→x∉r.bR
theorem nU.now (L:List ak) (U:List Nat) (w:World):nU L U w w:=⟨[],aE.refl _ _,by simp,by simp⟩
structure Qt (U:List Nat) (o:Oper) (f:Fm) (L:List ak) (d:D):Prop where
 go:∀ a w,St c f L a w→∃ v,RD (aZ c L) w d v∧∀ w',nU L U w w'→(execOp a.eval o).run P w'=.ok (.value v) w'
def c7 (ops:Array Oper) (o:Oper) (f:Fm):Bool:=match o.guard with
 | none=>true
 | some (j,b)=>match (ops[j]?).bind (·.dst) with
  | none=>false
  | some t=>match look f t with
   | some (.c (.v (.bool b')))=>b == b'
   | _=>false
def tu (ops:Array Oper) (o:Oper) (f:Fm):Bool:=match o.guard with
 | none=>false
 | some (j,b)=>match (ops[j]?).bind (·.dst) with
  | none=>false
  | some t=>match look f t with
   | some (.c (.v (.bool b')))=>b != b'
   | some (.aY _)=>true
   | _=>false
structure JO (ops:Array Oper) (l:List Oper) (k:List Item) (f:Fm) (L:List ak):Prop where
 go:∀ a w,St c f L a w→wpList P ops (fun e a' w'=>e=.normal∧iT P c k a' w') l a w
end
section
variable {P:Program} {c:Cx} {k:List Item} {f:Fm} {L:List ak} {ops:Array Oper} {l:List Oper} {o:Oper}
theorem c7.run (h:c7 ops o f=true) {a:Act} {w:World} (s:St c f L a w):Region.wanted o (yielded ops a.tmps)=true:=by
 unfold c7 at h;unfold Region.wanted
 cases hg:o.guard with
 | none=>rfl
 | some p =>
  obtain ⟨j,b⟩:=p;rw [hg] at h;simp only at h ⊢;unfold yielded
  cases hd:(ops[j]?).bind (·.dst) with
  | none=>rw [hd] at h;cases h
  | some t =>
   rw [hd] at h;simp only at h
   cases hl:look f t with
   | none=>rw [hl] at h;cases h
   | some d =>
    have hr:=s.fr t d hl;rw [hl] at h
    cases d with
    | c x=>cases x with
     | v y=>cases y with
      | bool b' =>
       unfold RD RA at hr;simp at h;subst h;obtain ⟨h1,_⟩:=hr;rw [Array.getD_eq_getD_getElem?] at h1
       cases ht:a.tmps[t]? with
       | none=>rw [ht] at h1;cases h1
       | some z=>rw [ht] at h1;simp at h1;subst h1;simp [ht]
      | _=>cases h
     | r _ _=>cases h
    | _=>cases h
theorem tu.run (h:tu ops o f=true) {a:Act} {w:World} (s:St c f L a w):Region.wanted o (yielded ops a.tmps)=false:=by
 unfold tu at h;unfold Region.wanted
 cases hg:o.guard with
 | none=>rw [hg] at h;cases h
 | some p =>
  obtain ⟨j,b⟩:=p;rw [hg] at h;simp only at h ⊢;unfold yielded
  cases hd:(ops[j]?).bind (·.dst) with
  | none=>rw [hd] at h;cases h
  | some t =>
   rw [hd] at h;simp only at h
   cases hl:look f t with
   | none=>rw [hl] at h;cases h
   | some d =>
    have hr:=s.fr t d hl;rw [hl] at h
    cases d with
    | c x=>cases x with
     | v y=>cases y with
      | bool b' =>
       unfold RD RA at hr;obtain ⟨h1,_⟩:=hr;rw [Array.getD_eq_getD_getElem?] at h1
       cases ht:a.tmps[t]? with
       | none=>rw [ht] at h1;cases h1
       | some z=>rw [ht] at h1;simp at h1;subst h1;simp [ht];intro e;subst e;simp at h
      | _=>cases h
     | r _ _=>cases h
    | aY q =>
     unfold RD at hr;obtain ⟨vs,h1,_⟩:=hr;rw [Array.getD_eq_getD_getElem?] at h1
     cases ht:a.tmps[t]? with
     | none=>simp [ht]
     | some z=>rw [ht] at h1;simp at h1;subst h1;simp [ht]
    | _=>cases h
theorem oR (t:Nat) (d:D) (f:Fm):look ((t,d) :: f) t=some d:=by simp [look,Nat.beq_refl]
theorem rj {t u:Nat} (h:t≠u) (d:D) (f:Fm):look ((t,d) :: f) u=look f u:=by
 have:Nat.beq t u=false:=by
  cases hb:Nat.beq t u with
  | false=>rfl
  | true=>exact absurd (Nat.eq_of_beq_eq_true hb) h
 simp [look,this]
theorem St.put {L':List ak} {a:Act} {w w':World} {t:Nat} {d:D} {v:Value} (s:St c f L a w) (ht:t < c.N) (hd:RD (aZ c L') w' d v) (kp:aE c.tn c.e w') (res:∀ r∈L',r.holds (aZ c L') w') (ez:∀ x∈aS L',x∈c.tn∨c.e.heap.size≤x) (ap:fK L') (m:Mon (aZ c L) (aZ c L') w w') :
  St c ((t,d) :: f) L' (a.put (some t) v) w':=by
 refine ⟨kp,by simp [Act.put,s.size],s.iS,res,ez,ap,fun u e hu=>?_⟩
 by_cases e1:t=u
 ·subst e1;rw [oR] at hu;cases hu;have:(a.put (some t) v).tmps.getD t undef=v:=by
   have:=s.size;simp [Act.put,Array.getD_eq_getD_getElem?,Array.getElem?_setIfInBounds,this,ht]
  rw [this];exact hd
 ·rw [rj e1] at hu;have:(a.put (some t) v).tmps.getD u undef=a.tmps.getD u undef:=by
   simp [Act.put,Array.getD_eq_getD_getElem?,Array.getElem?_setIfInBounds_ne e1]
  rw [this];exact RD.ck m e _ (s.fr u e hu)
theorem St.jZ {a:Act} {w:World} {t:Nat} {d:D} {v:Value} (s:St c f L a w) (ht:t < c.N) (hd:RD (aZ c L) w d v):St c ((t,d) :: f) L (a.put (some t) v) w :=
 s.put ht hd s.kp s.res s.ez s.ap (Mon.refl _ _)
theorem JO.nil (h:J P c k f L):JO P c ops [] k f L:=⟨fun a w s=>wpList_nil ⟨rfl,h.go a w s⟩⟩
theorem J.region {id:Nat} (h:JO P c l.toArray l k f L):J P c (.code (.region id l.toArray false) :: k) f L:=⟨fun a w s=>iT.wp (wp_region_lit (h.go a w s))⟩
theorem JO.q {t:Nat} {d:D} (hd:o.dst=some t) (hw:c7 ops o f=true) (ht:t < c.N) {U:List Nat} (q:Qt P c U o f L d) (h:JO P c ops l k ((t,d) :: f) L):JO P c ops (o :: l) k f L:=⟨fun a w s=>by
 obtain ⟨v,h1,h2⟩:=q.go a w s;refine wpList_step fun K hK=>?_
 rw [c7.run hw s];simp only [↓reduceIte,Oper.wp,h2 w (nU.now _ _ _),Oper.upon];exact hK _ _ (h.go _ _ (by rw [hd];exact s.jZ ht h1))⟩
theorem JO.no {t:Nat} (hd:o.dst=some t) (hw:tu ops o f=true) (ht:t < c.N) (h:JO P c ops l k ((t,.aY []) :: f) L):JO P c ops (o :: l) k f L:=⟨fun a w s=>by
 refine wpList_step fun K hK=>?_
 rw [tu.run hw s];simp only [Bool.false_eq_true,↓reduceIte];exact hK _ _ (h.go _ _ (by rw [hd];exact s.jZ ht (by unfold RD;exact ⟨[],rfl,rfl⟩)))⟩
end
class j4 (L:List ak) (b:Nat) (t:outParam TypeId) (cs:outParam (List A)) (i:outParam Nat):Prop where h:L[i]?=some (.box b t cs)
class eY (L:List ak) (v:Value) (e:outParam TypeId) (sz:outParam Nat) (l:outParam (List (List A))) (i:outParam Nat):Prop where h:L[i]?=some (.row v e sz l)
instance j4.succ {q:ak} {M:List ak} {b:Nat} {t:TypeId} {cs:List A} {i:Nat} [h:j4 M b t cs i]:j4 (q :: M) b t cs (i + 1):=⟨by simpa using h.h⟩
instance j4.zero {M:List ak} {b:Nat} {t:TypeId} {cs:List A}:j4 (.box b t cs :: M) b t cs 0:=⟨rfl⟩
instance eY.succ {q:ak} {M:List ak} {v:Value} {e:TypeId} {sz:Nat} {l:List (List A)} {i:Nat} [h:eY M v e sz l i]:eY (q :: M) v e sz l (i + 1):=⟨by simpa using h.h⟩
instance eY.zero {M:List ak} {v:Value} {e:TypeId} {sz:Nat} {l:List (List A)}:eY (.row v e sz l :: M) v e sz l 0:=⟨rfl⟩
class jJ (L:List ak) (i:Nat) (r:ak) (L':outParam (List ak)):Prop where h:L.set i r=L'
instance jJ.succ {q r:ak} {M M':List ak} {i:Nat} [h:jJ M i r M']:jJ (q :: M) (i + 1) r (q :: M'):=⟨by rw [List.set_cons_succ,h.h]⟩
instance jJ.zero {q r:ak} {M:List ak}:jJ (q :: M) 0 r (r :: M):=⟨rfl⟩
class jK (L:List ak) (i:Nat) (L':outParam (List ak)):Prop where h:L.eraseIdx i=L'
instance jK.succ {q:ak} {M M':List ak} {i:Nat} [h:jK M i M']:jK (q :: M) (i + 1) (q :: M'):=⟨by rw [List.eraseIdx_cons_succ,h.h]⟩
instance jK.zero {q:ak} {M:List ak}:jK (q :: M) 0 M:=⟨rfl⟩
section
variable {P:Program} {c:Cx} {f:Fm} {L:List ak} {t:Option Tmp} {T:TypeId} {ps:String} {af:Array Edge} {gd:Option (Nat × Bool)}
theorem Qt.move {x:Operand} {d:D} (h:aP f x=some d):Qt P c [] ⟨t,.move x,T,ps,af,gd⟩ f L d:=⟨fun a w s=>⟨_,s.ev h,fun w' k=>rfl⟩⟩
theorem Qt.assign {x:Operand} {d:D} (h:aP f x=some d):Qt P c [] ⟨t,.assign x,T,ps,af,gd⟩ f L d:=⟨fun a w s=>⟨_,s.ev h,fun w' k=>rfl⟩⟩
def shift (n:Nat):D→Option D
 | .c (.v (.pointer (some ⟨b,o,none⟩)))=>some (.c (.v (.pointer (some ⟨b,o + n,none⟩))))
 | .el cs o=>some (.el cs (o + n))
 | .ow v sz k o=>some (.ow v sz k (o + n))
 | _=>none
theorem shift.rep {n:Nat} {d d':D} (h:shift n d=some d') {ok:Nat→Prop} {w:World} {x:Value} (r:RD ok w d x):∃ b o,x=.pointer (some ⟨b,o,none⟩)∧RD ok w d' (.pointer (some ⟨b,o + n,none⟩)):=by
 unfold shift at h
 split at h
 ·cases h;unfold RD RA at r ⊢;obtain ⟨rfl,_⟩:=r;exact ⟨_,_,rfl,rfl,rfl⟩
 ·cases h;unfold RD at r ⊢;obtain ⟨g,off,vs,rfl,h⟩:=r;exact ⟨_,_,rfl,g,off,vs,by rw [Nat.add_assoc],h⟩
 ·cases h;unfold RD at r ⊢;obtain ⟨g,off,m,cap,rfl,rfl⟩:=r;exact ⟨_,_,rfl,g,off,m,cap,rfl,by rw [Nat.add_assoc]⟩
 ·cases h
theorem Qt.fieldAddr {x:Operand} {X k off:Nat} {d d':D} [i:aX P X k off] (h:aP f x=some d) (hs:shift off d=some d'):Qt P c [] ⟨t,.fieldAddr X x k,T,ps,af,gd⟩ f L d':=⟨fun a w s=>by
 obtain ⟨b,o,hx,hr⟩:=shift.rep hs (s.ev h);refine ⟨_,hr,fun w' k=>?_⟩;simp only [execOp,hx,Sem.run_bind,tq.run i.h,Result.andThen_ok,Sem.run_pure]⟩
def Bj:D→Bool
 | .c (.v (.pointer (some _)))=>true
 | .el _ _=>true
 | .ow _ _ _ _=>true
 | _=>false
theorem Qt.nilCheck {x:Operand} {d:D} (h:aP f x=some d) (hp:Bj d=true):Qt P c [] ⟨t,.nilCheck x,T,ps,af,gd⟩ f L d:=⟨fun a w s=>by
 have r:=s.ev h;have:∃ p,a.eval x=.pointer (some p):=by
  unfold Bj at hp
  split at hp
  ·unfold RD RA at r;exact ⟨_,r.1⟩
  ·unfold RD at r;obtain ⟨g,off,vs,h1,_⟩:=r;exact ⟨_,h1⟩
  ·unfold RD at r;obtain ⟨g,off,vs,cap,_,h1⟩:=r;exact ⟨_,h1⟩
  ·cases hp
 obtain ⟨p,hp⟩:=this;refine ⟨_,r,fun w' k=>?_⟩;simp only [execOp,hp,Sem.run_pure]⟩
inductive Cells (L:List ak):D→List A→Nat→List Nat→Prop
 | box (i:Nat) {b t cs o}:L[i]?=some (.box b t cs)→Cells L (.c (.v (.pointer (some ⟨b,o,none⟩)))) cs o [i]
 | el {cs o}:Cells L (.el cs o) cs o []
 | ow (i:Nat) {v e sz l k o cs}:L[i]?=some (.row v e sz l)→l[k]?=some cs→Cells L (.ow v sz k o) cs o [i]
theorem xY {w w':World} {g off:Nat} {vs:List Value} {T:List Nat} (h:w.rangeAt g off vs) (k:aE T w w') (hg:g∉T):w'.rangeAt g off vs:=fun j v hj=>k.cell (h j v hj) hg
theorem Cells.rep {d:D} {cs:List A} {o:Nat} {U:List Nat} (h:Cells L d cs o U) {a:Act} {w:World} (s:St c f L a w) {x:Value} (r:RD (aZ c L) w d x):∃ b off,∃ vs:List Value,x=.pointer (some ⟨b,off + o,none⟩)∧(∀ w',nU L U w w'→w'.rangeAt b off vs)∧RC (aZ c L) w cs vs:=by
 cases h with
 | @box i b t _ _ hi =>
  obtain ⟨vs,h1,h2⟩:=s.res _ (List.mem_of_getElem? hi);unfold RD RA at r;exact ⟨b,0,vs,by rw [r.1,Nat.zero_add],fun w' ⟨T,k1,k2,k3⟩=>xY h1.range k1 fun hm=>k3 b hm i (by simp) _ hi (by simp [ak.bR]),h2⟩
 | el=>unfold RD at r;obtain ⟨g,off,vs,h1,h2,h3,h4,h5⟩:=r;exact ⟨g,off,vs,h1,fun w' ⟨T,k1,k2,k3⟩=>xY h4 k1 fun hm=>h2.2 (k2 g hm),h5⟩
 | @ow i v e sz l k _ _ hi hl =>
  obtain ⟨xs,h1,h2⟩:=s.res _ (List.mem_of_getElem? hi);unfold RD at r;obtain ⟨g,off,n,cap,rfl,hx⟩:=r;obtain ⟨vs,g1,g2,g3⟩:=h2.get k hl;have hk:k < l.length:=(List.getElem?_eq_some_iff.1 hl).1;obtain ⟨g',AW,h5,h6,h7,h8,h9⟩:=h1.cells (by omega);obtain ⟨rfl,rfl⟩:=by simpa using h5
  have GO:g∈cH (.slice (some ⟨g,off,none⟩) n cap):=by simp [cH]
  refine ⟨g,off + k * sz,vs,hx,fun w' ⟨T,k1,k2,k3⟩=>xY (fun j v hj=>?_) k1 fun hm=>k3 g hm i (by simp) _ hi GO,g3⟩;have GP:j < sz:=by rw [← g1];exact (List.getElem?_eq_some_iff.1 hj).1
  have hlen:=RX.len h2;have hb:k * sz + j < xs.length:=by
   rw [hlen]
   calc k * sz + j < k * sz + sz:=by omega
    _=(k + 1) * sz:=by rw [Nat.add_mul];omega
    _≤l.length * sz:=Nat.mul_le_mul_right _ hk
  rw [Nat.add_assoc,h8 _ hb,g2 j GP,hj]
theorem Qt.rm {x:Operand} {X o:Nat} {d:D} {cs:List A} {e:A} {U:List Nat} [i:eE P X] (h:aP f x=some d) (hc:Cells L d cs o U) (he:cs[o]?=some e):Qt P c U ⟨t,.load X x,T,ps,af,gd⟩ f L (.c e):=⟨fun a w s=>by
 obtain ⟨b,off,vs,hx,h1,h2⟩:=hc.rep s (s.ev h);obtain ⟨y,hy,hr⟩:=h2.get o he;refine ⟨y,by unfold RD;exact hr,fun w' k=>?_⟩;have qY:=h1 w' k o y hy;have hl:(load ⟨b,off + o,none⟩).run P w'=.ok y w':=by simp [load,Sem.run,qY]
 simp only [execOp,hx,Instr.loadAt,Instr.sureAddr,loadVar,Sem.run_bind,Sem.run_pure,Result.andThen_ok,jY.xX i.h,Bool.false_eq_true,↓reduceIte,hl]⟩
theorem GQ {w:World} {b off:Nat} {vs:List Value} (h:w.rangeAt b off vs) (o n:Nat):w.rangeAt b (off + o) ((vs.drop o).take n):=fun j v hj=>by
 rw [List.getElem?_take] at hj
 split at hj
 ·rw [List.getElem?_drop] at hj;rw [Nat.add_assoc];exact h (o + j) v hj
 ·cases hj
theorem Qt.rq {x:Operand} {X o n:Nat} {d:D} {cs es:List A} {U:List Nat} [i:iU P X n] (h:aP f x=some d) (hc:Cells L d cs o U) (he:(cs.drop o).take n=es) (hn:es.length=n):Qt P c U ⟨t,.load X x,T,ps,af,gd⟩ f L (.agg es):=⟨fun a w s=>by
 obtain ⟨b,off,vs,hx,h1,h2⟩:=hc.rep s (s.ev h);have h4:=(h2.drop o).take n;rw [he] at h4;refine ⟨.agg ((vs.drop o).take n).toArray,by unfold RD;exact ⟨_,rfl,h4⟩,fun w' k=>?_⟩;have hr:=GQ (h1 w' k) o n;have js:=i.s;have hl:((vs.drop o).take n).length=n:=by rw [h4.len,hn]
 have tv:(loadCells ⟨b,off + o,none⟩ ((vs.drop o).take n).length).run P w'=.ok ((vs.drop o).take n).toArray w' :=
  run_loadCells_list (P:=P) w' ⟨b,off + o,none⟩ _ (fun j v hv=>by rw [Addr.add_mid];exact hr j v hv)
 rw [hl] at tv;simp only [execOp,hx,Instr.loadAt,Instr.sureAddr,loadVar,Sem.run_bind,Sem.run_pure,Result.andThen_ok,jY.runT i.h,↓reduceIte,iD.run i.s,tv]⟩
theorem Qt.ru {x:Operand} {X n:Nat} {d:D} {cs:List A} {U:List Nat} [i:iU P X n] (h:aP f x=some d) (hc:Cells L d cs 0 U) (hn:cs.length=n):Qt P c U ⟨t,.load X x,T,ps,af,gd⟩ f L (.agg cs) :=
 Qt.rq h hc (by subst hn;simp) hn
theorem Qt.kE {x:Operand} {X b o B j:Nat} {cs:List A} {e:A} [i:eE P X] [bx:j4 L b B cs j] (h:aP f x=some (.c (.v (.pointer (some ⟨b,o,none⟩))))) (he:cs[o]?=some e):Qt P c [j] ⟨t,.load X x,T,ps,af,gd⟩ f L (.c e):=Qt.rm h (.box j bx.h) he
theorem Qt.qc {x:Operand} {X b B j n:Nat} {cs:List A} [i:iU P X n] [bx:j4 L b B cs j] (h:aP f x=some (.c (.v (.pointer (some ⟨b,0,none⟩))))) (hn:cs.length=n):Qt P c [j] ⟨t,.load X x,T,ps,af,gd⟩ f L (.agg cs):=Qt.ru h (.box j bx.h) hn
theorem Qt.vN {x:Operand} {X b o B j n:Nat} {cs es:List A} [i:iU P X n] [bx:j4 L b B cs j] (h:aP f x=some (.c (.v (.pointer (some ⟨b,o,none⟩))))) (he:(cs.drop o).take n=es) (hn:es.length=n):Qt P c [j] ⟨t,.load X x,T,ps,af,gd⟩ f L (.agg es):=Qt.rq h (.box j bx.h) he hn
theorem Qt.dx {x:Operand} {X sz q o e j:Nat} {v:Value} {l:List (List A)} {cs:List A} {u:A} [i:eE P X] [bx:eY L v e sz l j] (h:aP f x=some (.ow v sz q o)) (hq:l[q]?=some cs) (he:cs[o]?=some u):Qt P c [j] ⟨t,.load X x,T,ps,af,gd⟩ f L (.c u):=Qt.rm h (.ow j bx.h hq) he
theorem Qt.Bk {x:Operand} {X sz q e j n:Nat} {v:Value} {l:List (List A)} {cs:List A} [i:iU P X n] [bx:eY L v e sz l j] (h:aP f x=some (.ow v sz q 0)) (hq:l[q]?=some cs) (hn:cs.length=n):Qt P c [j] ⟨t,.load X x,T,ps,af,gd⟩ f L (.agg cs):=Qt.ru h (.ow j bx.h hq) hn
theorem Qt.cE {x y:Operand} {X e sz:Nat} {kd:IntKind} {n:Int} {l:List (List A)} {cs:List A} [i:dQ P X e sz] (h:aP f x=some (.c (.r sz l))) (hy:aP f y=some (.c (.v (.int kd n)))) (hn:0≤n) (hk:l[n.toNat]?=some cs):Qt P c [] ⟨t,.indexAddr X x y,T,ps,af,gd⟩ f L (.el cs 0):=⟨fun a w s=>by
 have r:=s.ev h;have ry:=s.val hy;unfold RD RA at r;obtain ⟨ao,cap,hx,h1,h2,h3⟩:=r;have fo:=(List.getElem?_eq_some_iff.1 hk).1;rcases h3 with rfl | ⟨g,off,rfl,qd,hg,hl⟩
 ·simp at fo
 obtain ⟨vs,g1,g2,g3⟩:=hl.get _ hk;refine ⟨.pointer (some ⟨g,off + n.toNat * sz,none⟩),by unfold RD;exact ⟨g,_,vs,by rw [Nat.add_zero],qd,hg,g2,g3⟩,fun w' k=>?_⟩;have hb:0≤n∧n < (l.length:Int):=by omega
 simp only [execOp,hx,ry,Instr.indexAt,asIntOf,Sem.run_bind,Sem.run_pure,Result.andThen_ok,run_underlying (kD.jI i.h),hb,and_self,↓reduceIte,iD.run i.s,Addr.add_mid]⟩
theorem Qt.cB {x y:Operand} {X e sz j:Nat} {kd:IntKind} {n:Int} {v:Value} {l:List (List A)} [i:dQ P X e sz] [bx:eY L v e sz l j] (h:aP f x=some (.c (.v v))) (hy:aP f y=some (.c (.v (.int kd n)))) (hn:0≤n) (hk:n < l.length):Qt P c [] ⟨t,.indexAddr X x y,T,ps,af,gd⟩ f L (.ow v sz n.toNat 0):=⟨fun a w s=>by
 have rx:=s.val h;have ry:=s.val hy;obtain ⟨xs,h1,h2⟩:=s.res _ (List.mem_of_getElem? bx.h);obtain ⟨ao,cap,rfl⟩:=h1.shape;obtain ⟨g,off,rfl,_⟩:=h1.cells (by omega);refine ⟨.pointer (some ⟨g,off + n.toNat * sz,none⟩),by unfold RD;exact ⟨g,off,_,cap,rfl,by rw [Nat.add_zero]⟩,fun w' k=>?_⟩;simp only [execOp,rx,ry,Instr.indexAt,asIntOf,Sem.run_bind,Sem.run_pure,Result.andThen_ok,run_underlying (kD.jI i.h),hn,hk,and_self,↓reduceIte,iD.run i.s,Addr.add_mid]⟩
def rz:BinOp→Int→Int→Option Bool
 | .eql,a,b=>some (a == b)
 | .neq,a,b=>some (a != b)
 | .lss,a,b=>some (decide (a < b))
 | .leq,a,b=>some (decide (a≤b))
 | .gtr,a,b=>some (decide (a > b))
 | .geq,a,b=>some (decide (a ≥ b))
 | _,_,_=>none
theorem Qt.cmp {op:BinOp} {x y:Operand} {X Y:Nat} {kd:IntKind} {m n:Int} {b:Bool} (h:aP f x=some (.c (.v (.int kd m)))) (hy:aP f y=some (.c (.v (.int kd n)))) (hb:rz op m n=some b):Qt P c [] ⟨t,.binOp op X x y Y,T,ps,af,gd⟩ f L (.c (.v (.bool b))):=⟨fun a w s=>by
 have rx:=s.val h;have ry:=s.val hy;refine ⟨.bool b,by unfold RD RA;exact ⟨rfl,rfl⟩,fun w' k=>?_⟩
 cases op <;> simp only [rz,Option.some.injEq,reduceCtorEq] at hb <;> subst hb <;> simp [execOp,rx,ry,eqGuard_at_int,binOp,Op.intCmp,Sem.run_bind]⟩
theorem Qt.tw {x y:Operand} {X Y:Nat} {m n:Bool} [i:tr P X] (h:aP f x=some (.c (.v (.bool m)))) (hy:aP f y=some (.c (.v (.bool n)))):Qt P c [] ⟨t,.binOp .eql X x y Y,T,ps,af,gd⟩ f L (.c (.v (.bool (m == n)))):=⟨fun a w s=>by
 have rx:=s.val h;have ry:=s.val hy;refine ⟨.bool (m == n),by unfold RD RA;exact ⟨rfl,rfl⟩,fun w' k=>?_⟩;have hu:=Bi (ri.jI i.h) w' m n;simp [execOp,rx,ry,eqGuard_at_bool,binOp,Sem.run_bind,hu,bne]⟩
theorem Qt.tA {x y:Operand} {X Y:Nat} {m n:Bool} [i:tr P X] (h:aP f x=some (.c (.v (.bool m)))) (hy:aP f y=some (.c (.v (.bool n)))):Qt P c [] ⟨t,.binOp .neq X x y Y,T,ps,af,gd⟩ f L (.c (.v (.bool (m != n)))):=⟨fun a w s=>by
 have rx:=s.val h;have ry:=s.val hy;refine ⟨.bool (m != n),by unfold RD RA;exact ⟨rfl,rfl⟩,fun w' k=>?_⟩;have hu:=Bi (ri.jI i.h) w' m n;simp [execOp,rx,ry,eqGuard_at_bool,binOp,Sem.run_bind,hu,bne]⟩
def Bl:BinOp→Int→Int→Option Int
 | .add,a,b=>some (a + b)
 | .sub,a,b=>some (a - b)
 | .mul,a,b=>some (a * b)
 | _,_,_=>none
theorem Qt.dy {op:BinOp} {x y:Operand} {X Y:Nat} {kd:IntKind} {m n r r':Int} (h:aP f x=some (.c (.v (.int kd m)))) (hy:aP f y=some (.c (.v (.int kd n)))) (hr:Bl op m n=some r) (hf:kd.wrap r=r'):Qt P c [] ⟨t,.binOp op X x y Y,T,ps,af,gd⟩ f L (.c (.v (.int kd r'))):=⟨fun a w s=>by
 have rx:=s.val h;have ry:=s.val hy;subst hf;refine ⟨.int kd (kd.wrap r),by unfold RD RA;exact ⟨rfl,rfl⟩,fun w' k=>?_⟩
 cases op <;> simp only [Bl,Option.some.injEq,reduceCtorEq] at hr <;> subst hr <;> simp [execOp,rx,ry,eqGuard_at_int,binOp,Op.intArith,Sem.run_bind]⟩
theorem Qt.rem {x y:Operand} {X Y:Nat} {kd:IntKind} {m n r:Int} (h:aP f x=some (.c (.v (.int kd m)))) (hy:aP f y=some (.c (.v (.int kd n)))) (hn:n≠0) (hr:m.tmod n=r):Qt P c [] ⟨t,.binOp .rem X x y Y,T,ps,af,gd⟩ f L (.c (.v (.int kd r))):=⟨fun a w s=>by
 have rx:=s.val h;have ry:=s.val hy;subst hr;refine ⟨.int kd (m.tmod n),by unfold RD RA;exact ⟨rfl,rfl⟩,fun w' k=>?_⟩;simp [execOp,rx,ry,eqGuard_at_int,binOp,Op.intDiv,Sem.run_bind,hn]⟩
theorem Qt.quo {x y:Operand} {X Y:Nat} {kd:IntKind} {m n r:Int} (h:aP f x=some (.c (.v (.int kd m)))) (hy:aP f y=some (.c (.v (.int kd n)))) (hn:n≠0) (hr:kd.wrap (m.tdiv n)=r):Qt P c [] ⟨t,.binOp .quo X x y Y,T,ps,af,gd⟩ f L (.c (.v (.int kd r))):=⟨fun a w s=>by
 have rx:=s.val h;have ry:=s.val hy;subst hr;refine ⟨.int kd (kd.wrap (m.tdiv n)),by unfold RD RA;exact ⟨rfl,rfl⟩,fun w' k=>?_⟩;simp [execOp,rx,ry,eqGuard_at_int,binOp,Op.intDiv,Sem.run_bind,hn]⟩
theorem Qt.not {x:Operand} {X:Nat} {b:Bool} (h:aP f x=some (.c (.v (.bool b)))):Qt P c [] ⟨t,.unOp .not X x,T,ps,af,gd⟩ f L (.c (.v (.bool (!b)))):=⟨fun a w s=>by
 have rx:=s.val h;refine ⟨.bool (!b),by unfold RD RA;exact ⟨rfl,rfl⟩,fun w' k=>?_⟩;simp [execOp,rx,Op.unary,Sem.run_bind]⟩
theorem Qt.extract {x:Operand} {n:Nat} {l:List D} {d:D} (h:aP f x=some (.aY l)) (hn:l[n]?=some d):Qt P c [] ⟨t,.extract x n,T,ps,af,gd⟩ f L d:=⟨fun a w s=>by
 have r:=s.ev h;unfold RD at r;obtain ⟨vs,hx,hr⟩:=r;obtain ⟨y,hy,h2⟩:=hr.get n hn;refine ⟨y,h2,fun w' k=>?_⟩;simp [execOp,hx,Instr.extract,Sem.run_bind,hy]⟩
theorem Qt.tC {x:Operand} {X sz:Nat} {l:List (List A)} {e nV:Nat} [i:dQ P X e nV] (h:aP f x=some (.c (.r sz l))):Qt P c [] ⟨t,.call ⟨.builtin .len,#[x],#[X]⟩,T,ps,af,gd⟩ f L (.c (.v (.int .i64 l.length))):=⟨fun a w s=>by
 have r:=s.ev h;unfold RD RA at r;obtain ⟨ao,cap,hx,_⟩:=r;refine ⟨.int .i64 l.length,by unfold RD RA;exact ⟨rfl,rfl⟩,fun w' k=>?_⟩;simp [execOp,resolve,invoke,builtin,hx,Sem.run_bind,Builtin.len_,run_underlying (kD.jI i.h),goInt]⟩
theorem Qt.rA {x:Operand} {X sz:Nat} {α:Type} {g:α→List A} {l:List α} {e nV:Nat} [i:dQ P X e nV] (h:aP f x=some (.c (.r sz (l.map g)))):Qt P c [] ⟨t,.call ⟨.builtin .len,#[x],#[X]⟩,T,ps,af,gd⟩ f L (.c (.v (.int .i64 l.length))):=by
 have:=Qt.tC (P:=P) (c:=c) (t:=t) (T:=T) (ps:=ps) (af:=af) (gd:=gd) (L:=L) (X:=X) h;rw [List.length_map] at this;exact this
theorem Qt.tD {x:Operand} {X sz j:Nat} {v:Value} {l:List (List A)} {e e' nV:Nat} [i:dQ P X e' nV] [bx:eY L v e sz l j] (h:aP f x=some (.c (.v v))):Qt P c [] ⟨t,.call ⟨.builtin .len,#[x],#[X]⟩,T,ps,af,gd⟩ f L (.c (.v (.int .i64 l.length))):=⟨fun a w s=>by
 have rx:=s.val h;obtain ⟨xs,h1,h2⟩:=s.res _ (List.mem_of_getElem? bx.h);obtain ⟨ao,cap,rfl⟩:=h1.shape;refine ⟨.int .i64 l.length,by unfold RD RA;exact ⟨rfl,rfl⟩,fun w' k=>?_⟩;simp [execOp,resolve,invoke,builtin,rx,Sem.run_bind,Builtin.len_,run_underlying (kD.jI i.h),goInt]⟩
theorem Qt.vO {x:Operand} {X:Nat} {ao:Option Addr} {n m:Nat} {e' nV:Nat} [i:dQ P X e' nV] (h:aP f x=some (.c (.v (.slice ao n m)))):Qt P c [] ⟨t,.call ⟨.builtin .len,#[x],#[X]⟩,T,ps,af,gd⟩ f L (.c (.v (.int .i64 n))):=⟨fun a w s=>by
 have rx:=s.val h;refine ⟨.int .i64 n,by unfold RD RA;exact ⟨rfl,rfl⟩,fun w' k=>?_⟩;simp [execOp,resolve,invoke,builtin,rx,Sem.run_bind,Builtin.len_,run_underlying (kD.jI i.h),goInt]⟩
theorem Qt.pick {x y z:Operand} {b:Bool} {d:D} (h:aP f x=some (.c (.v (.bool b)))) (hd:aP f (cond b y z)=some d):Qt P c [] ⟨t,.pick x y z,T,ps,af,gd⟩ f L d:=⟨fun a w s=>by
 have rx:=s.val h;refine ⟨_,s.ev hd,fun w' k=>?_⟩
 cases b <;> simp [execOp,rx,asBool,Sem.run_bind]⟩
theorem Qt.conv {x:Operand} {X Y:Nat} {kd tE:IntKind} {m r:Int} [i:jv P X kd] [j:jv P Y tE] (h:aP f x=some (.c (.v (.int kd m)))) (hr:tE.wrap m=r):Qt P c [] ⟨t,.convert X Y x,T,ps,af,gd⟩ f L (.c (.v (.int tE r))):=⟨fun a w s=>by
 have rx:=s.val h;subst hr;refine ⟨.int tE (tE.wrap m),by unfold RD RA;exact ⟨rfl,rfl⟩,fun w' k=>?_⟩;simp [execOp,rx,convert,Sem.run_bind,run_underlying (q8.jI i.h),run_underlying (q8.jI j.h),Conv.intToInt]⟩
end
end Fl
open Go.RowKit
namespace Fl
class aR (P:Program) (T:TypeId) (zs:outParam (List Value)):Prop where
 h:nR P T=some zs:=by kernel_rfl
 o:zs.all (·.oneCell')=true:=by kernel_rfl
 s:iD P T=some zs.length:=by kernel_rfl
class eK (P:Program) (T:TypeId) (e:outParam TypeId) (sz bytes:outParam Nat) (z:outParam Value):Prop where h:AY P T e sz bytes z
def xZ (P:Program) (F:FuncId):Bool:=match P.funcs[F]? with
 | some fn=>fn.name != "runtime.NumGoroutine" && fn.body.isSome
 | none=>false
class aK (P:Program) (F:FuncId):Prop where h:xZ P F=true:=by kernel_rfl
def vs (zs:List Value):List A:=zs.map A.v
theorem RC.vs {ok:Nat→Prop} {w:World}:∀ {zs:List Value},zs.all (·.oneCell')=true→RC ok w (vs zs) zs
 | [],_=>RC.nil
 | z :: zs,h=>by
  simp only [List.all_cons,Bool.and_eq_true] at h;exact RC.cons (by unfold RA;exact ⟨rfl,h.1⟩) (RC.vs h.2)
section
variable (P:Program) (c:Cx)
structure Ld (o:Oper) (f:Fm) (L:List ak) (S:List Nat) {ι:Type} (f':ι→Fm) (L':ι→List ak):Prop where
 go:∀ a w,St c f L a w→∀ (K:Act→World→Prop) (Q:Exit→Act→World→Prop),(∀ x v w',aE S w w'→St c (f' x) (L' x) (a.put o.dst v) w'→(∀ y∈aS (L' x),y∈aS L∨w.heap.size≤y)→K (a.put o.dst v) w')→o.wp P a w K Q
end
section
variable {P:Program} {c:Cx} {k:List Item} {f:Fm} {L:List ak} {ops:Array Oper} {l:List Oper} {o:Oper}
theorem JO.ld {S:List Nat} {ι:Type} {f':ι→Fm} {L':ι→List ak} (h:Ld P c o f L S f' L') (hw:c7 ops o f=true) (hr:∀ x,JO P c ops l k (f' x) (L' x)):JO P c ops (o :: l) k f L:=⟨fun a w s=>by
 refine wpList_step fun K hK=>?_
 rw [c7.run hw s];simp only [↓reduceIte];exact h.go a w s K _ fun x v w' _ hp _=>hK _ _ ((hr x).go _ w' hp)⟩
theorem ya {r:ak} {w:World} (hr:∀ x∈r.bR,w.heap.size≤x):∀ g,g < w.heap.size→aZ c L g→aZ c (r :: L) g:=fun g hg ho =>
 ⟨ho.1,fun hm=>by
  obtain ⟨q,hq,hx⟩:=cJ.1 hm;rcases List.mem_cons.1 hq with rfl | hq
  ·have:=hr g hx;omega
  ·exact ho.2 (cJ.2 ⟨q,hq,hx⟩)⟩
theorem St.new {a:Act} {w w':World} {t:Nat} {d:D} {v:Value} {r:ak} (s:St c f L a w) (ht:t < c.N) (k:aE [] w w') (hr:∀ x∈r.bR,w.heap.size≤x) (h:r.holds (aZ c (r :: L)) w') (hd:RD (aZ c (r :: L)) w' d v):St c ((t,d) :: f) (r :: L) (a.put (some t) v) w':=by
 have m:Mon (aZ c L) (aZ c (r :: L)) w w':=Mon.ju k fun g hg ho=>⟨ya hr g hg ho,by simp⟩
 refine s.put ht hd (s.kp.then k) ?_ ?_ ?_ m
 ·intro q hq;rcases List.mem_cons.1 hq with rfl | hq
  ·exact h
  ·exact (s.res q hq).ck k m (by simp)
 ·intro x hx;obtain ⟨q,hq,kF⟩:=cJ.1 hx;rcases List.mem_cons.1 hq with e | hq
  ·exact .inr (Nat.le_trans s.kp.size (hr x (e ▸ kF)))
  ·exact s.ez x (cJ.2 ⟨q,hq,kF⟩)
 ·refine List.pairwise_cons.2 ⟨fun q hq x hx eH=>?_,s.ap⟩;have h1:=hr x hx;have h2:=s.lt x (cJ.2 ⟨q,hq,eH⟩);omega
theorem rB {r:ak} {w:World} (hr:∀ x∈r.bR,w.heap.size≤x):∀ y∈aS (r :: L),y∈aS L∨w.heap.size≤y:=fun y hy=>by
 obtain ⟨q,hq,h⟩:=cJ.1 hy;rcases List.mem_cons.1 hq with e | hq
 ·exact .inr (hr y (e ▸ h))
 ·exact .inl (cJ.2 ⟨q,hq,h⟩)
theorem St.more {a:Act} {w w':World} {t:Nat} {d:D} {v:Value} (s:St c f L a w) (ht:t < c.N) (k:aE [] w w') (hd:RD (aZ c L) w' d v):St c ((t,d) :: f) L (a.put (some t) v) w':=by
 have m:Mon (aZ c L) (aZ c L) w w':=Mon.ju k fun g hg ho=>⟨ho,by simp⟩
 exact s.put ht hd (s.kp.then k) (fun q hq=>(s.res q hq).ck k m (by simp)) s.ez s.ap m
theorem nR.run {T:Nat} {zs:List Value} (h:nR P T=some zs):∃ z:Value,z.cells.toList=zs∧∀ w,(zeroValue T).run P w=.ok z w:=by
 unfold nR at h
 cases hi:P.info? T with
 | none=>rw [hi] at h;cases h
 | some i =>
  rw [hi] at h
  cases hz:i.zero with
  | none=>simp [hz] at h
  | some z=>simp [hz] at h;exact ⟨z,h,fun w=>by simp [zeroValue,typeInfo,Sem.run_bind,hi,hz]⟩
variable {T X:TypeId} {ps:String} {af:Array Edge} {gd:Option (Nat × Bool)} {t:Nat}
theorem Ld.alloc {zs:List Value} [i:aR P X zs] (ht:t < c.N):Ld P c ⟨some t,.alloc X,T,ps,af,gd⟩ f L [] (fun b:Nat=>(t,.c (.v (.pointer (some ⟨b,0,none⟩)))) :: f) (fun b=>.box b X (vs zs) :: L):=⟨fun a w s K Q hK=>by
 obtain ⟨z,hz,hr⟩:=nR.run i.h;have hk:aE [] w (w.alloc (.cells z.cells X)):=(aE.refl [] w).alloc _;have eL:(execOp a.eval ⟨some t,.alloc X,T,ps,af,gd⟩).run P w=.ok (.value (.pointer (some ⟨w.heap.size,0,none⟩))) (w.alloc (.cells z.cells X)):=by
  simp [execOp,Instr.alloc,Sem.run_bind,hr,newVar,newRow]
 unfold Oper.wp;rw [eL];refine hK w.heap.size _ _ hk (s.new ht hk (by simp [ak.bR]) ⟨zs,?_,RC.vs i.o⟩ (by unfold RD RA;exact ⟨rfl,rfl⟩)) (rB (by simp [ak.bR]));subst hz;have:=dF.new w z.cells.toList X;simpa using this⟩
def gi:D→Option (List A)
 | .c a=>some [a]
 | .agg cs=>some cs
 | _=>none
theorem gi.rep {d:D} {cs:List A} (h:gi d=some cs) {ok:Nat→Prop} {w:World} {x:Value} (r:RD ok w d x):RC ok w cs x.cells.toList:=by
 unfold gi at h
 split at h
 ·cases h;unfold RD at r;have h1:=r.one;have:x.cells.toList=[x]:=by cases x <;> first | rfl | (cases h1;done)
  rw [this];exact RC.cons r RC.nil
 ·cases h;unfold RD at r;obtain ⟨vs,rfl,h⟩:=r;simpa [Value.cells] using h
 ·cases h
theorem Ld.box {x:Operand} {d:D} {cs:List A} (ht:t < c.N) (h:aP f x=some d) (hc:gi d=some cs):Ld P c ⟨some t,.box X x,T,ps,af,gd⟩ f L [] (fun b:Nat=>(t,.c (.v (.pointer (some ⟨b,0,none⟩)))) :: f) (fun b=>.box b X cs :: L):=⟨fun a w s K Q hK=>by
 have hr:=gi.rep hc (s.ev h);have hk:aE [] w (w.alloc (.cells (a.eval x).cells X)):=(aE.refl [] w).alloc _;have eL:(execOp a.eval ⟨some t,.box X x,T,ps,af,gd⟩).run P w=.ok (.value (.pointer (some ⟨w.heap.size,0,none⟩))) (w.alloc (.cells (a.eval x).cells X)):=by
  simp [execOp,Instr.box,Sem.run_bind,newVar,newRow]
 unfold Oper.wp;rw [eL];have hf:∀ y∈(ak.box w.heap.size X cs).bR,w.heap.size≤y:=by simp [ak.bR]
 refine hK w.heap.size _ _ hk (s.new ht hk hf ⟨(a.eval x).cells.toList,?_,?_⟩ (by unfold RD RA;exact ⟨rfl,rfl⟩)) (rB hf)
 ·have:=dF.new w (a.eval x).cells.toList X;simpa using this
 ·exact RC.ck (Mon.ju hk fun g hg ho=>⟨ya hf g hg ho,by simp⟩) cs _ hr⟩
theorem rC {i:Nat} {r r':ak} (hi:L[i]?=some r) (hf:r'.bR=r.bR) (x:Nat):x∈aS (L.set i r')↔x∈aS L:=by
 have:(L.set i r').map ak.bR=L.map ak.bR:=by
  rw [List.map_set];apply List.ext_getElem?;intro j;rw [List.getElem?_set]
  split
  ·rename_i e;subst e
   split
   ·rw [List.getElem?_map,hi];simp [hf]
   ·rename_i hn;simp at hn;rw [List.getElem?_eq_none (by simpa using hn)]
  ·rfl
 unfold aS;rw [List.flatMap_def,List.flatMap_def,this]
theorem GR {i:Nat} {r r':ak} (hi:L[i]?=some r) (hf:r'.bR=r.bR):aZ c (L.set i r')=aZ c L:=by
 funext x;unfold aZ;rw [rC hi hf]
theorem Bm:∀ {L:List ak} {i:Nat} {r r':ak},L[i]?=some r→(∀ x,x∈r'.bR→x∈r.bR)→fK L→fK (L.set i r')
 | [],i,r,r',h,hf,ha=>by simp at h
 | q :: L,0,r,r',h,hf,ha=>by
  simp at h;subst h;have:=List.pairwise_cons.1 ha;exact List.pairwise_cons.2 ⟨fun s hs x hx=>this.1 s hs x (hf x hx),this.2⟩
 | q :: L,i + 1,r,r',h,hf,ha=>by
  simp at h;have:=List.pairwise_cons.1 ha;simp only [List.set_cons_succ];refine List.pairwise_cons.2 ⟨fun s hs x hx eH=>?_,Bm h hf this.2⟩;rcases List.mem_or_eq_of_mem_set hs with hs | rfl
  ·exact this.1 s hs x hx eH
  ·exact this.1 r (List.mem_of_getElem? h) x hx (hf x eH)
theorem fK.ne:∀ {L:List ak} {i j:Nat} {r q:ak},fK L→L[i]?=some r→L[j]?=some q→i≠j→∀ x∈r.bR,x∉q.bR
 | [],i,j,r,q,ha,hi,hj,hn,x,hx=>by simp at hi
 | p :: L,0,0,r,q,ha,hi,hj,hn,x,hx=>by simp at hn
 | p :: L,0,j + 1,r,q,ha,hi,hj,hn,x,hx=>by
  simp at hi hj;subst hi;exact (List.pairwise_cons.1 ha).1 q (List.mem_of_getElem? hj) x hx
 | p :: L,i + 1,0,r,q,ha,hi,hj,hn,x,hx=>fun eH=>by
  simp at hi hj;subst hj;exact (List.pairwise_cons.1 ha).1 r (List.mem_of_getElem? hi) x eH hx
 | p :: L,i + 1,j + 1,r,q,ha,hi,hj,hn,x,hx=>by
  simp at hi hj;exact fK.ne (List.pairwise_cons.1 ha).2 hi hj (by omega) x hx
theorem St.set {a:Act} {w w':World} {i:Nat} {r r':ak} (s:St c f L a w) (hi:L[i]?=some r) (hf:r'.bR=r.bR) (k:aE r.bR w w') (h:r'.holds (aZ c L) w'):St c f (L.set i r') a w':=by
 have ho:=GR (c:=c) hi hf;have jw:∀ x∈r.bR,x∈aS L:=fun x hx=>cJ.2 ⟨r,List.mem_of_getElem? hi,hx⟩
 have m:Mon (aZ c L) (aZ c L) w w':=Mon.ju k fun g hg eZ=>⟨eZ,fun hm=>eZ.2 (jw g hm)⟩
 refine ⟨s.kp.trans k (fun x hx=>s.ez x (jw x hx)),s.size,s.iS,fun q hq=>?_,fun x hx=>s.ez x ((rC hi hf x).1 hx),Bm hi (fun x hx=>hf ▸ hx) s.ap,fun t d hd=>by rw [ho];exact RD.ck m d _ (s.fr t d hd)⟩;rw [ho];obtain ⟨j,hj⟩:=List.getElem?_of_mem hq;rw [List.getElem?_set] at hj
 split at hj
 ·split at hj
  ·simp at hj;subst hj;exact h
  ·cases hj
 ·rename_i cq;exact (s.res q (List.mem_of_getElem? hj)).ck k m (fun x hx hm=>fK.ne s.ap hi hj cq x hm hx)
theorem dF.eu {t:TypeId} {g:Nat}:∀ (cs p z q:List Value) (w:World),z.length=cs.length→dF w g (p ++ z ++ q) t→dF (w.setCells g p.length cs) g (p ++ cs ++ q) t∧aE [g] w (w.setCells g p.length cs)
 | [],p,z,q,w,h,hb=>by
  have:z=[]:=List.length_eq_zero_iff.1 h;subst this;exact ⟨hb,aE.refl _ _⟩
 | c :: cs,p,[],q,w,h,hb=>by simp at h
 | c :: cs,p,x :: z,q,w,h,hb=>by
  have h1:=hb.set p.length c;have e:(p ++ x :: z ++ q).set p.length c=(p ++ [c]) ++ z ++ q:=by simp
  rw [e] at h1;obtain ⟨h2,k2⟩:=dF.eu cs (p ++ [c]) z q (w.setCell ⟨g,p.length,none⟩ c) (by simpa using h) h1;simp only [List.length_append,List.length_cons,List.length_nil,Nat.zero_add] at h2 k2;rw [World.setCells];refine ⟨by simpa using h2,((aE.refl [g] w).setCell (by simp) c).trans k2 (fun x hx=>.inl hx)⟩
def ic (cs:List A) (o:Nat) (new:List A):List A:=cs.take o ++ new ++ cs.drop (o + new.length)
theorem Bn {T n:Nat} (hn:iD P T=some n) (w:World) (b o:Nat) (x:Value) (hx:x.cells.size=n) (ht:w.there b o n) (h1:∀ v∈x.cells.toList,v.oneCell'=true):(storeVar T ⟨b,o,none⟩ x).run P w=.ok () (w.setCells b o x.cells.toList):=by
 have:=run_storeCells_cells (P:=P) b o x.cells.toList 0 w (fun j hj=>by simpa using (ht j (by simpa [hx] using hj)).1) (fun j hj=>by simpa using (ht j (by simpa [hx] using hj)).2) h1;simp only [Nat.add_zero] at this;simp [storeVar,Sem.run_bind,iD.run hn,hx,this]
theorem Ld.yb (i:Nat) {x y:Operand} {b o n:Nat} {B:TypeId} {cs es:List A} {d:D} [it:dN P X n] (hx:aP f x=some (.c (.v (.pointer (some ⟨b,o,none⟩))))) (hi:L[i]?=some (.box b B cs)) (hy:aP f y=some d) (hd:gi d=some es) (hn:es.length=n) (hl:Nat.ble (o + n) cs.length=true) :
  Ld P c ⟨none,.store X x y,T,ps,af,gd⟩ f L [b] (fun _:Unit=>f) (fun _=>L.set i (.box b B (ic cs o es))):=⟨fun a w s K Q hK=>by
 have vP:o + n≤cs.length:=Nat.le_of_ble_eq_true hl;have rx:=s.val hx;have ry:=gi.rep hd (s.ev hy);obtain ⟨us,h1,h2⟩:=s.res _ (List.mem_of_getElem? hi);have hlen:=h2.len;have js:(a.eval y).cells.size=n:=by have:=ry.len;simp at this;omega
 have hb:dF w b (us.take o ++ (us.drop o).take n ++ us.drop (o + n)) B:=by
  have e:us.take o ++ (us.drop o).take n ++ us.drop (o + n)=us:=by
   rw [← List.drop_drop,List.append_assoc,List.take_append_drop,List.take_append_drop]
  rw [e];exact h1
 have hp:=dF.eu (a.eval y).cells.toList (us.take o) ((us.drop o).take n) (us.drop (o + n)) w (by simp;omega) hb;have ho:(us.take o).length=o:=by simp;omega
 rw [ho] at hp;have eL:=Bn it.h w b o (a.eval y) js (fun j hj=>⟨by rw [h1.cell];simp;omega,h1.free _⟩) ry.one;have mU:(execOp a.eval ⟨none,.store X x y,T,ps,af,gd⟩).run P w=.ok .skip (w.setCells b o (a.eval y).cells.toList):=by
  simp [execOp,Sem.run_bind,Instr.storeAt,rx,Instr.sureAddr,eL]
 unfold Oper.wp;rw [mU];refine hK () undef _ hp.2 (s.set hi rfl hp.2 ⟨_,hp.1,?_⟩) (fun y hy=>.inl ((rC (r':=.box b B (ic cs o es)) hi rfl y).1 hy));have m:Mon (aZ c L) (aZ c L) w (w.setCells b o (a.eval y).cells.toList):=Mon.ju hp.2 fun g hg eZ=>⟨eZ,fun hm=>eZ.2 (cJ.2 ⟨_,List.mem_of_getElem? hi,by simpa [ak.bR] using hm⟩)⟩
 unfold ic;rw [hn];exact RC.app (RC.app (RC.ck m _ _ (h2.take o)) (RC.ck m _ _ ry)) (RC.ck m _ _ (h2.drop (o + n)))⟩
theorem Bo {cs es:List A} (h:es.length=cs.length):ic cs 0 es=es:=by simp [ic,h]
theorem Bp {cs:List A} {o:Nat} {a:A} (h:o < cs.length):ic cs o [a]=cs.set o a:=by
 unfold ic;apply List.ext_getElem?;intro j;simp only [List.length_cons,List.length_nil,Nat.zero_add];rcases Nat.lt_trichotomy j o with hj | hj | hj
 ·rw [List.append_assoc,List.getElem?_append_left (by simp;omega),List.getElem?_take,if_pos hj,List.getElem?_set_ne (by omega)]
 ·subst hj;rw [List.append_assoc,List.getElem?_append_right (by simp;omega),List.getElem?_set_self h];have:j - (List.take j cs).length=0:=by simp;omega
  rw [this];rfl
 ·rw [List.getElem?_append_right (by simp;omega),List.getElem?_set_ne (by omega),List.getElem?_drop]
  congr 1;simp;omega
end
end Fl
open Go.RowKit
namespace Fl
theorem GS (cs:List A) (o:Nat) (a:A) (es:List A) (h:o < cs.length):ic cs o (a :: es)=ic (cs.set o a) (o + 1) es:=by
 unfold ic;rw [List.take_add_one,List.take_set,List.getElem?_set_self h];simp only [List.length_cons,Option.toList_some];rw [List.set_eq_of_length_le (by simp;omega),List.drop_set,if_pos (by omega)];simp only [List.append_assoc,List.singleton_append,List.cons_append,List.nil_append];rw [show o + (es.length + 1)=o + 1 + es.length by omega]
theorem GU (cs:List A) (o:Nat):ic cs o []=cs:=by simp [ic]
theorem RX.put {ok:Nat→Prop} {w:World} {sz:Nat} {k:Nat}:∀ (es:List A) (us:List Value) {l:List (List A)} {xs:List Value} {cs:List A} (o:Nat),RX ok w sz l xs→l[k]?=some cs→cs.length=sz→RC ok w es us→o + es.length≤sz→RX ok w sz (l.set k (ic cs o es)) (setFrom xs (k * sz + o) us)
 | [],us,l,xs,cs,o,h,e,hc,hr,ho=>by
  unfold RC at hr;subst hr;rw [GU,setFrom,List.GW e];exact h
 | a :: es,us,l,xs,cs,o,h,e,hc,hr,ho=>by
  unfold RC at hr;obtain ⟨x,ys,rfl,h1,h2⟩:=hr;simp only [List.length_cons] at ho;have fo:=(List.getElem?_eq_some_iff.1 e).1;have h3:=RX.set k o h e (by omega) h1;have:=RX.put es ys (o + 1) h3 (List.getElem?_set_self fo) (by simpa using hc) h2 (by omega);rw [List.set_set] at this;rw [GS cs o a es (by omega),setFrom];exact this
where
 List.GW {α:Type} {l:List α} {k:Nat} {a:α} (e:l[k]?=some a):l.set k a=l:=by
  apply List.ext_getElem?;intro j;rw [List.getElem?_set]
  split
  ·rename_i h;subst h
   split
   ·exact e.symm
   ·rename_i hn;rw [List.getElem?_eq_none (by omega)] at e;cases e
  ·rfl
theorem RX.yc {ok:Nat→Prop} {w:World} {sz:Nat} {l:List (List A)} {xs:List Value} {k:Nat} {cs:List A} (h:RX ok w sz l xs) (e:l[k]?=some cs):cs.length=sz:=by
 obtain ⟨vs,h1,_,h3⟩:=h.get k e;rw [← h3.len,h1]
section
variable {P:Program} {c:Cx} {k:List Item} {f:Fm} {L:List ak} {ops:Array Oper} {l:List Oper} {o:Oper} {T X:TypeId} {ps:String} {af:Array Edge} {gd:Option (Nat × Bool)} {t:Nat}
theorem Ld.Bq (i:Nat) {x y:Operand} {v:Value} {sz q o n:Nat} {e:TypeId} {ll:List (List A)} {cs es:List A} {d:D} [it:dN P X n] (hx:aP f x=some (.ow v sz q o)) (hi:L[i]?=some (.row v e sz ll)) (hq:ll[q]?=some cs) (hy:aP f y=some d) (hd:gi d=some es) (hn:es.length=n) (hl:Nat.ble (o + n) sz=true) :
  Ld P c ⟨none,.store X x y,T,ps,af,gd⟩ f L (cH v) (fun _:Unit=>f) (fun _=>L.set i (.row v e sz (ll.set q (ic cs o es)))):=⟨fun a w s K Q hK=>by
 have vP:o + n≤sz:=Nat.le_of_ble_eq_true hl;have rx:=s.ev hx;have ry:=gi.rep hd (s.ev hy);unfold RD at rx;obtain ⟨g,off,mm,cap,rfl,rx⟩:=rx;obtain ⟨xs,h1,h2⟩:=s.res _ (List.mem_of_getElem? hi);have hlen:=RX.len h2;have tF:=(List.getElem?_eq_some_iff.1 hq).1;have GX:=RX.yc h2 hq;have js:(a.eval y).cells.size=n:=by have:=ry.len;simp at this;omega
 have GY:(q + 1) * sz≤ll.length * sz:=Nat.mul_le_mul_right _ tF;rw [Nat.add_mul] at GY;obtain ⟨r1,r2⟩:=Row.eu (a.eval y).cells.toList w xs (q * sz + o) h1 (by simp;omega);obtain ⟨g',AW,e1,e2,hg,hc,hf⟩:=h1.cells (by omega);obtain ⟨rfl,rfl⟩:=by simpa using e1
 rw [← Nat.add_assoc] at r1 r2;have eL:=Bn it.h w g (off + q * sz + o) (a.eval y) js (fun j hj=>⟨by
  rw [show off + q * sz + o + j=off + (q * sz + o + j) by omega,hc _ (by omega)];simp;omega,by
  rw [show off + q * sz + o + j=off + (q * sz + o + j) by omega];exact hf _⟩) ry.one
 have mU:(execOp a.eval ⟨none,.store X x y,T,ps,af,gd⟩).run P w=.ok .skip (w.setCells g (off + q * sz + o) (a.eval y).cells.toList):=by
  simp [execOp,Sem.run_bind,Instr.storeAt,rx,Instr.sureAddr,eL]
 unfold Oper.wp;rw [mU];have m:Mon (aZ c L) (aZ c L) w (w.setCells g (off + q * sz + o) (a.eval y).cells.toList):=Mon.ju r2 fun g' hg eZ=>⟨eZ,fun hm=>eZ.2 (cJ.2 ⟨_,List.mem_of_getElem? hi,by simpa [ak.bR] using hm⟩)⟩
 refine hK () undef _ r2 (s.set hi rfl r2 ⟨_,by rw [List.length_set];exact r1,?_⟩) (fun y hy=>.inl ((rC (r':=.row (.slice (some ⟨g,off,none⟩) mm cap) e sz (ll.set q (ic cs o es))) hi rfl y).1 hy));exact RX.put es _ o (RX.ck m _ _ h2) hq GX (RC.ck m _ _ ry) (by omega)⟩
theorem Ld.fD {e sz:Nat} [i:dQ P X e sz] (ht:t < c.N):Ld P c ⟨some t,.buildSlice X 0 #[],T,ps,af,gd⟩ f L [] (fun b:Nat=>(t,.c (.v (.slice (some ⟨b,0,none⟩) 0 0))) :: f) (fun b=>.row (.slice (some ⟨b,0,none⟩) 0 0) e sz [] :: L):=⟨fun a w s K Q hK=>by
 have hk:aE [] w (w.alloc (.cells #[] e)):=(aE.refl [] w).alloc _;have eL:(execOp a.eval ⟨some t,.buildSlice X 0 #[],T,ps,af,gd⟩).run P w=.ok (.value (.slice (some ⟨w.heap.size,0,none⟩) 0 0)) (w.alloc (.cells #[] e)):=by
  simp [execOp,Instr.buildSlice,Sem.run_bind,run_underlying (kD.jI i.h),iD.run i.s,Instr.fill,newRow,Array.range_zero']
 unfold Oper.wp;rw [eL];refine hK w.heap.size _ _ hk (s.new ht hk (by simp [ak.bR,cH]) ⟨[],Row.lit w [] e sz 0 (by simp) (by simp [maxLen]),rfl⟩ (by unfold RD RA;exact ⟨rfl,rfl⟩)) (rB (by simp [ak.bR,cH]))⟩
theorem Ld.dZ {e sz:Nat} {x:Operand} {d:D} {cs:List A} {zs:List Value} [i:dQ P X e sz] [z:aR P e zs] (ht:t < c.N) (h:aP f x=some d) (hc:gi d=some cs) (hn:cs.length=sz) (h0:Nat.ble 1 sz=true) (hs:Nat.ble sz 1000=true):Ld P c ⟨some t,.buildSlice X 1 #[(0,x)],T,ps,af,gd⟩ f L [] (fun b:Nat=>(t,.c (.v (.slice (some ⟨b,0,none⟩) 1 1))) :: f) (fun b=>.row (.slice (some ⟨b,0,none⟩) 1 1) e sz [cs] :: L):=⟨fun a w s K Q hK=>by
 have Qd:1≤sz:=Nat.le_of_ble_eq_true h0;have Qe:sz≤1000:=Nat.le_of_ble_eq_true hs;have ry:=gi.rep hc (s.ev h);have js:(a.eval x).cells.size=sz:=by have:=ry.len;simp at this;omega
 obtain ⟨zv,yd,ye⟩:=nR.run z.h;have td:zv.cells.size=sz:=by
  have h1:=z.s.symm.trans i.s;simp at h1;rw [← yd] at h1;simpa using h1
 have hk:aE [] w (w.alloc (.cells (a.eval x).cells e)):=(aE.refl [] w).alloc _;have GZ:Instr.fill (fun j=>some (j * sz,sz)) ((Array.range sz).map (zv.cells[· % zv.cells.size]!)) [(0,a.eval x)]=some (a.eval x).cells:=by
  have e1:=G0 (a.eval x).cells ((Array.range sz).map (zv.cells[· % zv.cells.size]!)) (by simp [js]);simp only [Nat.zero_add] at e1;simpa [Instr.fill,js] using e1
 have eL:(execOp a.eval ⟨some t,.buildSlice X 1 #[(0,x)],T,ps,af,gd⟩).run P w=.ok (.value (.slice (some ⟨w.heap.size,0,none⟩) 1 1)) (w.alloc (.cells (a.eval x).cells e)):=by
  have h1:¬ sz > 2 ^ 24:=by omega
  have h2:¬ sz=0:=by omega
  simp only [execOp,Instr.buildSlice,Sem.run_bind,run_underlying (kD.jI i.h),iD.run i.s,Result.andThen_ok,Nat.one_mul,h1,h2,↓reduceIte,ye,Sem.run_pure,List.map_toArray,List.map_cons,List.map_nil,GZ,newRow,run_newObj_alloc]
 unfold Oper.wp;rw [eL];have hf:∀ y∈(ak.row (.slice (some ⟨w.heap.size,0,none⟩) 1 1) e sz [cs]).bR,w.heap.size≤y:=by simp [ak.bR,cH]
 refine hK w.heap.size _ _ hk (s.new ht hk hf ⟨(a.eval x).cells.toList,?_,?_⟩ (by unfold RD RA;exact ⟨rfl,rfl⟩)) (rB hf)
 ·have:=Row.lit w (a.eval x).cells.toList e sz 1 (by simp [js]) (by simp [maxLen]);simpa [cH] using this
 ·refine ⟨(a.eval x).cells.toList,[],by simp,by simpa using js,?_,rfl⟩;exact RC.ck (Mon.ju hk fun g hg ho=>⟨ya hf g hg ho,by simp⟩) cs _ ry⟩
where
 G0 (u z:Array Value) (h:z.size=u.size):u.zipIdx.foldl (fun cs x=>cs.setIfInBounds (0 + x.2) x.1) z=u:=by
  have key:∀ (l:List Value) (k:Nat) (z:Array Value),k + l.length≤z.size→(l.zipIdx k).foldl (fun cs x=>cs.setIfInBounds (0 + x.2) x.1) z=(z.toList.take k ++ l ++ z.toList.drop (k + l.length)).toArray:=by
   intro l
   induction l with
   | nil=>intro k z hz;simp
   | cons x l ih =>
    intro k z hz;simp only [List.length_cons] at hz;rw [List.zipIdx_cons,List.foldl_cons,ih (k + 1) _ (by simp;omega)];simp only [Nat.zero_add];apply congrArg;simp only [Array.toList_setIfInBounds,List.length_cons];rw [List.take_add_one,List.take_set,List.getElem?_set_self (by simp;omega)];rw [List.set_eq_of_length_le (by simp;omega),List.drop_set,if_pos (by omega)];simp only [Option.toList_some,List.append_assoc,List.singleton_append,List.cons_append,List.nil_append];rw [show k + (l.length + 1)=k + 1 + l.length by omega]
  rw [← Array.foldl_toList,Array.toList_zipIdx,key u.toList 0 z (by simp [h])];have:List.drop u.size z.toList=[]:=List.drop_eq_nil_of_le (by simp [h]);simp [this]
end
end Fl
open Go.RowKit
namespace Fl
theorem iV (r:ak) (L:List ak) (x:Nat):x∈aS (r :: L)↔x∈r.bR∨x∈aS L:=by simp [aS]
theorem RA.view {ok:Nat→Prop} {w:World} {sz:Nat} {l:List (List A)} {x:Value} (h:RA ok w (.r sz l) x):∃ ys S,View w x sz l.length ys S∧RX ok w sz l ys∧∀ g∈S,ok g:=by
 unfold RA at h;obtain ⟨ao,cap,rfl,h1,h2,h3⟩:=h;rcases h3 with rfl | ⟨g,off,rfl,qd,hg,hl⟩
 ·exact ⟨[],[],⟨by simp,ao,cap,rfl,by simpa using h1,h2,.inl ⟨rfl,rfl⟩⟩,rfl,by simp⟩
 ·have key:∀ (l:List (List A)) (off:Nat),RL ok w l g off sz→∃ ys:List Value,ys.length=l.length * sz∧w.rangeAt g off ys∧RX ok w sz l ys:=by
   intro l
   induction l with
   | nil=>intro off _;exact ⟨[],by simp,fun j v hj=>by simp at hj,rfl⟩
   | cons cs l ih =>
    intro off h;unfold RL at h;obtain ⟨⟨vs,a1,a2,a3⟩,h4⟩:=h;obtain ⟨ys,b1,b2,b3⟩:=ih _ h4;refine ⟨vs ++ ys,by simp [a1,b1,Nat.add_mul,Nat.add_comm],fun j v hj=>?_,vs,ys,rfl,a1,a3,b3⟩
    by_cases fo:j < vs.length
    ·rw [List.getElem?_append_left fo] at hj;exact a2 j v hj
    ·rw [List.getElem?_append_right (by omega)] at hj;have:=b2 _ v hj;rw [show off + sz + (j - vs.length)=off + j by omega] at this;exact this
  obtain ⟨ys,b1,b2,b3⟩:=key l off hl;exact ⟨ys,[g],⟨b1,_,cap,rfl,h1,h2,.inr ⟨g,off,rfl,rfl,hg,fun j hj=>by rw [List.getElem?_eq_getElem hj];exact b2 j _ (List.getElem?_eq_getElem hj)⟩⟩,b3,by simpa using qd⟩
theorem RA.vQ {ok:Nat→Prop} {w:World} {sz:Nat} {l:List (List A)} {x:Value} {ys:List Value} {S:List Nat} (h:View w x sz l.length ys S) (hr:RX ok w sz l ys) (hS:∀ g∈S,ok g):RA ok w (.r sz l) x:=by
 unfold RA;obtain ⟨hl,ao,cap,rfl,h1,h2,h3⟩:=h;refine ⟨ao,cap,rfl,h1,h2,?_⟩;rcases h3 with ⟨h3,_⟩ | ⟨g,off,rfl,rfl,hg,hc⟩
 ·exact .inl (List.length_eq_zero_iff.1 h3)
 ·refine .inr ⟨g,off,rfl,hS g (by simp),hg,?_⟩;have key:∀ (l:List (List A)) (ys:List Value) (off:Nat),w.rangeAt g off ys→RX ok w sz l ys→RL ok w l g off sz:=by
   intro l
   induction l with
   | nil=>intro ys off _ _;unfold RL;trivial
   | cons cs l ih =>
    intro ys off hc h;obtain ⟨vs,us,rfl,a1,a2,a3⟩:=h;unfold RL;refine ⟨⟨vs,a1,fun j v hj=>hc j v (by rw [List.getElem?_append_left (List.getElem?_eq_some_iff.1 hj).1];exact hj),a2⟩,ih us (off + sz) (fun j v hj=>?_) a3⟩;have:=hc (sz + j) v (by rw [List.getElem?_append_right (by omega),a1,Nat.add_sub_cancel_left];exact hj);rw [Nat.add_assoc];exact this
  exact key l ys off (fun j v hj=>by rw [hc j (List.getElem?_eq_some_iff.1 hj).1];exact hj) hr
theorem G2 {w:World} {v:Value} {e:TypeId} {sz n:Nat} {xs:List Value} {S:List Nat} (h:Row w v e sz n xs S):cH v=S:=by
 obtain ⟨h0,ao,cap,rfl,h2,h3,h4⟩:=h;rcases h4 with ⟨rfl,_,_,rfl⟩ | ⟨g,off,cur,rfl,rfl,_⟩ <;> rfl
section
variable {P:Program} {c:Cx} {k:List Item} {f:Fm} {L:List ak} {ops:Array Oper} {l:List Oper} {o:Oper} {T X:TypeId} {ps:String} {af:Array Edge} {gd:Option (Nat × Bool)} {t:Nat}
inductive tG (L:List ak) (e:TypeId) (sz:Nat):Value→List (List A)→List ak→Prop
 | own {v m L'}:L=.row v e sz m :: L'→tG L e sz v m L'
 | nil:tG L e sz (.slice none 0 0) [] L
inductive kW (L:List ak) (sz:Nat):D→List (List A)→Prop
 | read {m}:kW L sz (.c (.r sz m)) m
 | own (i:Nat) {v e m}:L[i]?=some (.row v e sz m)→kW L sz (.c (.v v)) m
 | nil:kW L sz (.c (.v (.slice none 0 0))) []
theorem Ld.G3 {e sz bytes:Nat} {z:Value} [E:eK P X e sz bytes z] {x y:Operand} {v:Value} {l1 l2:List (List A)} {L':List ak} {d2:D} (h1:aP f x=some (.c (.v v))) (hd:tG L e sz v l1 L') (h2:aP f y=some d2) (hs:kW L' sz d2 l2) (hb:(l1.length + l2.length) * bytes≤140737488355328)
  {a:Act} {w:World} (s:St c f L a w):∃ v' w',(execOp a.eval ⟨some t,.call ⟨.builtin .append,#[x,y],#[X,X]⟩,T,ps,af,gd⟩).run P w=.ok (.value v') w'∧aE (cH v) w w'∧Mon (aZ c L) (aZ c (.row v' e sz (l1 ++ l2) :: L')) w w'∧(ak.row v' e sz (l1 ++ l2)).holds (aZ c (.row v' e sz (l1 ++ l2) :: L')) w'∧(∀ g∈cH v',g∈cH v∨w.heap.size≤g)∧(∀ q∈L',q∈L∧∀ g∈q.bR,g∉cH v)∧fK L'∧(∀ g∈cH v,g∈aS L):=by
 have rx:=s.val h1;have ry:=s.ev h2;have hD:∃ xs,Row w v e sz l1.length xs (cH v)∧RX (aZ c L) w sz l1 xs∧(∀ q∈L',q∈L∧∀ g∈q.bR,g∉cH v)∧fK L'∧(∀ g∈cH v,g∈aS L):=by
  cases hd with
  | own e1 =>
   subst e1;obtain ⟨xs,g1,g2⟩:=s.res _ (List.mem_cons_self ..);have ap:=List.pairwise_cons.1 s.ap;exact ⟨xs,g1,g2,fun q hq=>⟨List.mem_cons_of_mem _ hq,fun g hg eZ=>ap.1 q hq g eZ hg⟩,ap.2,fun g hg=>cJ.2 ⟨_,List.mem_cons_self ..,hg⟩⟩
  | nil=>exact ⟨[],Row.nil w e sz,rfl,fun q hq=>⟨hq,fun g _ hg=>by simp [cH] at hg⟩,s.ap,fun g hg=>by simp [cH] at hg⟩
 obtain ⟨xs,r1,r2,r3,r4,r5⟩:=hD;have hS:∃ ys S,View w (a.eval y) sz l2.length ys S∧RX (aZ c L) w sz l2 ys:=by
  cases hs with
  | read=>unfold RD at ry;obtain ⟨ys,S,g1,g2,_⟩:=ry.view;exact ⟨ys,S,g1,g2⟩
  | own i hi =>
   obtain ⟨ys,g1,g2⟩:=s.res _ (r3 _ (List.mem_of_getElem? hi)).1;unfold RD RA at ry;rw [ry.1];exact ⟨ys,_,g1.view,g2⟩
  | nil =>
   unfold RD RA at ry;rw [ry.1];exact ⟨[],[],View.nil w sz,rfl⟩
 obtain ⟨ys,S,s1,s2⟩:=hS;obtain ⟨ao,cap,w',S',eL,g1,g2,g3,_⟩:=Gn E.h T r1 s1 s2.one hb;have yf:=G2 g1;have hm:Mon (aZ c L) (aZ c (.row (.slice ao (l1.length + l2.length) cap) e sz (l1 ++ l2) :: L')) w w':=by
  refine Mon.ju g2 fun g hg ho=>⟨⟨ho.1,fun jw=>?_⟩,fun jw=>ho.2 (r5 g jw)⟩
  rcases (iV _ _ _).1 jw with jw | jw
  ·rw [ak.bR,yf] at jw;rcases g3 g jw with h | h
   ·exact ho.2 (r5 g h)
   ·omega
  ·obtain ⟨q,hq,G4⟩:=cJ.1 jw;exact ho.2 (cJ.2 ⟨q,(r3 q hq).1,G4⟩)
 refine ⟨.slice ao (l1.length + l2.length) cap,w',?_,g2,hm,⟨xs ++ ys,by rw [yf,List.length_append];exact g1,RX.app (RX.ck hm _ _ r2) (RX.ck hm _ _ s2)⟩,fun g hg=>by rw [yf] at hg;exact g3 g hg,r3,r4,r5⟩;simp [execOp,resolve,invoke,builtin,rx,Sem.run_bind,eL]
theorem St.G5 {e sz:Nat} {v v':Value} {l1 l2:List (List A)} {L':List ak} {a:Act} {w w':World} (s:St c f L a w) (ht:t < c.N) (k:aE (cH v) w w') (m:Mon (aZ c L) (aZ c (.row v' e sz (l1 ++ l2) :: L')) w w') (hh:(ak.row v' e sz (l1 ++ l2)).holds (aZ c (.row v' e sz (l1 ++ l2) :: L')) w') (hv:∀ g∈cH v',g∈cH v∨w.heap.size≤g) (h3:∀ q∈L',q∈L∧∀ g∈q.bR,g∉cH v) (h4:fK L') (h5:∀ g∈cH v,g∈aS L) (h1:v'.oneCell'=true) :
  St c ((t,.c (.v v')) :: f) (.row v' e sz (l1 ++ l2) :: L') (a.put (some t) v') w':=by
 refine s.put ht (by unfold RD RA;exact ⟨rfl,h1⟩) (s.kp.trans k (fun g hg=>s.ez g (h5 g hg))) ?_ ?_ ?_ m
 ·intro q hq;rcases List.mem_cons.1 hq with rfl | hq
  ·exact hh
  ·exact (s.res q (h3 q hq).1).ck k m (fun g hg eZ=>(h3 q hq).2 g hg eZ)
 ·intro x hx;rcases (iV _ _ _).1 hx with hx | hx
  ·rcases hv x hx with h | h
   ·exact s.ez x (h5 x h)
   ·exact .inr (Nat.le_trans s.kp.size h)
  ·obtain ⟨q,hq,kF⟩:=cJ.1 hx;exact s.ez x (cJ.2 ⟨q,(h3 q hq).1,kF⟩)
 ·refine List.pairwise_cons.2 ⟨fun q hq x hx eH=>?_,h4⟩;rcases hv x hx with h | h
  ·exact (h3 q hq).2 x eH h
  ·have:=s.lt x (cJ.2 ⟨q,(h3 q hq).1,eH⟩);omega
theorem Ld.yg {e sz bytes:Nat} {z:Value} [E:eK P X e sz bytes z] {x y:Operand} {v:Value} {l1 l2:List (List A)} {L':List ak} {d2:D} (ht:t < c.N) (h1:aP f x=some (.c (.v v))) (hd:tG L e sz v l1 L') (h2:aP f y=some d2) (hs:kW L' sz d2 l2) (hb:(l1.length + l2.length) * bytes≤140737488355328) :
  Ld P c ⟨some t,.call ⟨.builtin .append,#[x,y],#[X,X]⟩,T,ps,af,gd⟩ f L (cH v) (fun v':Value=>(t,.c (.v v')) :: f) (fun v'=>.row v' e sz (l1 ++ l2) :: L'):=⟨fun a w s K Q hK=>by
 obtain ⟨v',w',eL,g1,g2,g3,g4,g5,g6,g7⟩:=Ld.G3 (P:=P) (X:=X) (t:=t) (T:=T) (ps:=ps) (af:=af) (gd:=gd) h1 hd h2 hs hb s;unfold Oper.wp;rw [eL];have G6:v'.oneCell'=true:=by
  obtain ⟨xs,r,_⟩:=g3;obtain ⟨ao,cap,rfl⟩:=r.shape;rfl
 exact hK v' _ _ g1 (s.G5 ht g1 g2 g3 g4 g5 g6 g7 G6) fun y hy=>by
  rcases (iV _ _ _).1 hy with hy | hy
  ·rcases g4 y hy with h | h
   ·exact .inl (g7 y h)
   ·exact .inr h
  ·obtain ⟨q,hq,G7⟩:=cJ.1 hy;exact .inl (cJ.2 ⟨q,(g5 q hq).1,G7⟩)⟩
theorem St.freeze {e sz:Nat} {v:Value} {l:List (List A)} {a:Act} {w:World} (s:St c ((t,.c (.v v)) :: f) (.row v e sz l :: L) a w):St c ((t,.c (.r sz l)) :: f) L a w:=by
 have m:Mon (aZ c (.row v e sz l :: L)) (aZ c L) w w:=⟨Nat.le_refl _,fun g _ ho=>⟨⟨ho.1,fun hx=>ho.2 ((iV _ _ _).2 (.inr hx))⟩,rfl⟩⟩
 have ap:=List.pairwise_cons.1 s.ap;refine ⟨s.kp,s.size,s.iS,fun q hq=>(s.res q (List.mem_cons_of_mem _ hq)).ck (aE.refl [] w) m (by simp),fun x hx=>s.ez x ((iV _ _ _).2 (.inr hx)),ap.2,fun u e' hu=>?_⟩
 by_cases e1:t=u
 ·subst e1;rw [oR] at hu;cases hu;have hv:=s.fr t _ (oR _ _ _);obtain ⟨xs,r1,r2⟩:=s.res _ (List.mem_cons_self ..);unfold RD RA at hv;rw [hv.1];unfold RD;refine RA.vQ r1.view (RX.ck m _ _ r2) fun g hg=>⟨.inr (s.ez g ((iV _ _ _).2 (.inl hg))),fun hx=>?_⟩
  obtain ⟨q,hq,kF⟩:=cJ.1 hx;exact ap.1 q hq g hg kF
 ·rw [rj e1] at hu;exact RD.ck m e' _ (s.fr u e' (by rw [rj e1];exact hu))
theorem Ld.Br {e sz bytes:Nat} {z:Value} [E:eK P X e sz bytes z] {x y:Operand} {v:Value} {l1 l2:List (List A)} {L':List ak} {d2:D} (ht:t < c.N) (h1:aP f x=some (.c (.v v))) (hd:tG L e sz v l1 L') (h2:aP f y=some d2) (hs:kW L' sz d2 l2) (hb:(l1.length + l2.length) * bytes≤140737488355328) :
  Ld P c ⟨some t,.call ⟨.builtin .append,#[x,y],#[X,X]⟩,T,ps,af,gd⟩ f L (cH v) (fun _:Unit=>(t,.c (.r sz (l1 ++ l2))) :: f) (fun _=>L'):=⟨fun a w s K Q hK =>
 (Ld.yg ht h1 hd h2 hs hb).go a w s K Q fun v' u w' k' s' hf=>hK () u w' k' s'.freeze fun y hy=>hf y ((iV _ _ _).2 (.inr hy))⟩
end
end Fl
open Go.RowKit
namespace Fl
inductive j5:A→A→Prop
 | refl {a}:j5 a a
 | nil {sz}:j5 (.v (.slice none 0 0)) (.r sz [])
inductive iW:List A→List A→Prop
 | nil:iW [] []
 | cons {a b xs ys}:j5 a b→iW xs ys→iW (a :: xs) (b :: ys)
 | refl {xs}:iW xs xs
mutual
inductive c9:D→D→Prop
 | refl {d}:c9 d d
 | c {a b}:j5 a b→c9 (.c a) (.c b)
 | agg {a b}:iW a b→c9 (.agg a) (.agg b)
 | any {d}:c9 d .any
 | aY {a b}:br a b→c9 (.aY a) (.aY b)
inductive br:List D→List D→Prop
 | nil:br [] []
 | cons {a b xs ys}:c9 a b→br xs ys→br (a :: xs) (b :: ys)
end
theorem c9.of_eq {a b:D} (h:a=b):c9 a b:=h ▸ .refl
section
variable {ok:Nat→Prop} {w:World}
theorem j5.rep {a b:A} (h:j5 a b) {x:Value} (r:RA ok w a x):RA ok w b x:=by
 cases h with
 | refl=>exact r
 | nil=>unfold RA at r ⊢;exact ⟨none,0,r.1,by simp,by simp [maxLen],.inl rfl⟩
theorem iW.rep {a b:List A} (h:iW a b):∀ {x:List Value},RC ok w a x→RC ok w b x:=by
 induction h with
 | nil=>exact id
 | refl=>exact id
 | cons h1 h2 ih=>intro x r;unfold RC at r;obtain ⟨y,ys,rfl,r1,r2⟩:=r;exact RC.cons (h1.rep r1) (ih r2)
mutual
theorem c9.rep {a b:D}:c9 a b→∀ {x:Value},RD ok w a x→RD ok w b x
 | .refl,x,r=>r
 | .c h,x,r=>by unfold RD at r ⊢;exact h.rep r
 | .agg h,x,r=>by unfold RD at r ⊢;obtain ⟨vs,h1,h2⟩:=r;exact ⟨vs,h1,h.rep h2⟩
 | .any,x,r=>by unfold RD;trivial
 | .aY h,x,r=>by unfold RD at r ⊢;obtain ⟨vs,h1,h2⟩:=r;exact ⟨vs,h1,br.rep h h2⟩
theorem br.rep {a b:List D}:br a b→∀ {x:List Value},bO ok w a x→bO ok w b x
 | .nil,x,r=>r
 | .cons h1 h2,x,r=>by unfold bO at r;obtain ⟨y,ys,rfl,r1,r2⟩:=r;exact bO.cons (c9.rep h1 r1) (br.rep h2 r2)
end
end
def fL (ok:Nat→Prop) (e:World) (L pL:List ak) (g:Nat):Prop:=(ok g∨g∈aS L∨e.heap.size≤g)∧g∉aS pL
def G8 (ok:Nat→Prop) (e:World) (L:List ak) (pd:D) (pL:List ak) (en:Ending) (w':World):Prop :=
 ∃ x,en=.returned x∧aE (aS L) e w'∧(∀ y∈aS pL,y∈aS L∨e.heap.size≤y)∧fK pL∧(∀ r∈pL,r.holds (fL ok e L pL) w')∧RD (fL ok e L pL) w' pd x
def yh {ι:Type} (ok:Nat→Prop) (e:World) (L:List ak) (post:ι→D × List ak) (en:Ending) (w':World):Prop:=∃ i,G8 ok e L (post i).1 (post i).2 en w'
structure aq (P:Program) (F:FuncId) (ds:List D) (L:List ak) {ι:Type} (post:ι→D × List ak):Prop where
 go:∀ (ok:Nat→Prop) (e:World) (xs:List Value),bO ok e ds xs→(∀ r∈L,r.holds ok e)→fK L→(∀ x∈aS L,¬ ok x)→Calls P F xs.toArray e (yh ok e L post)
abbrev Pure (P:Program) (F:FuncId) (ds:List D) (d:D):Prop:=aq P F ds [] (fun _:Unit=>(d,[]))
def cx (F:FuncId) {ι:Type} (ok:Nat→Prop) (e:World) (L:List ak) (post:ι→D × List ak) (N:Nat):Cx:=⟨F,yh ok e L post,aS L,ok,e,N⟩
def rD:Nat→List D→Fm
 | _,[]=>[]
 | k,d :: ds=>(k,d) :: rD (k + 1) ds
theorem Bs:∀ (ds:List D) (k t:Nat) (d:D),look (rD k ds) t=some d→k≤t∧ds[t - k]?=some d
 | [],k,t,d,h=>by simp [rD,look] at h
 | x :: ds,k,t,d,h=>by
  simp only [rD,look] at h
  cases hb:Nat.beq k t with
  | true =>
   rw [hb] at h;have:=Nat.eq_of_beq_eq_true hb;subst this;simp at h;subst h;simp
  | false =>
   rw [hb] at h;obtain ⟨h1,h2⟩:=Bs ds (k + 1) t d h;exact ⟨by omega,by rw [show t - k=t - (k + 1) + 1 by omega];simpa using h2⟩
section
variable {P:Program} {F:FuncId} {ds:List D} {L:List ak} {ι:Type} {post:ι→D × List ak} {fn:Func} {body:Code} {N:Nat}
theorem aq.intro (hf:P.funcs[F]?=some fn) (hb:fn.body=some body) (hN:fn.ntmps=N) (hn:Nat.ble ds.length N=true)
  (h:∀ ok e,J P (cx F ok e L post N) [.code body] (rD 0 ds) L):aq P F ds L post:=⟨fun ok e xs hd hr ha ho cs=>by
 have hlen:=hd.len;have Qf:ds.length≤N:=Nat.le_of_ble_eq_true hn
 let b:Frame:={ (default:Frame) with fn:=F,kind:=.normal }
 have G9:Frame.enter P F xs.toArray .normal=b.at { tmps:=xs.toArray ++ Array.replicate (fn.ntmps - xs.toArray.size) undef,defers:=[] } [.code body]:=by
  simp [Frame.enter,Frame.at,hf,hb,b]
 have m:Mon ok (aZ (cx F ok e L post N) L) e e:=⟨Nat.le_refl _,fun g _ hg=>⟨⟨.inl hg,fun hx=>ho g hx hg⟩,rfl⟩⟩
 have lU:St (cx F ok e L post N) (rD 0 ds) L { tmps:=xs.toArray ++ Array.replicate (fn.ntmps - xs.toArray.size) undef,defers:=[] } e:=by
  refine ⟨aE.refl _ _,by simp [cx];omega,rfl,fun r yj=>(hr r yj).ck (aE.refl [] e) m (by simp),fun x hx=>.inl hx,ha,fun t d ht=>?_⟩;obtain ⟨_,h2⟩:=Bs ds 0 t d ht;rw [Nat.sub_zero] at h2;obtain ⟨x,hx,nW⟩:=hd.get t h2;have fo:=(List.getElem?_eq_some_iff.1 hx).1;have:(xs.toArray ++ Array.replicate (fn.ntmps - xs.toArray.size) undef).getD t undef=x:=by
   rw [Array.getD_eq_getD_getElem?,Array.getElem?_append_left (by simpa using fo)];simp [hx]
  rw [this];exact RD.ck m d _ nW
 obtain ⟨en,w',fr,h1,h2,h3,h4⟩:=(h ok e).go _ e lU b cs rfl rfl;exact ⟨en,w',fr,h1,by rw [G9];exact h2,h3,h4⟩⟩
end
inductive rE (P:Program) (f:Fm) (L:List ak):ResultVar→D→Prop
 | tmp {t d}:look f t=some d→rE P f L (.tmp t) d
 | cell (i:Nat) {t b T B n cs} [iU P T n]:look f t=some (.c (.v (.pointer (some ⟨b,0,none⟩))))→L[i]?=some (.box b B cs)→cs.length=n→rE P f L (.cell t T) (.agg cs)
 | He (i:Nat) {t b T B a} [eE P T]:look f t=some (.c (.v (.pointer (some ⟨b,0,none⟩))))→L[i]?=some (.box b B [a])→rE P f L (.cell t T) (.c a)
inductive gj (P:Program) (f:Fm) (L:List ak):List ResultVar→List D→Prop
 | nil:gj P f L [] []
 | cons {r d rs ds}:rE P f L r d→gj P f L rs ds→gj P f L (r :: rs) (d :: ds)
def nX:List D→D
 | [d]=>d
 | ds=>.aY ds
def tH (tmps:Array Value):ResultVar→Sem Value
 | .tmp t=>pure (tmps.getD t undef)
 | .cell a t=>do loadVar t (← asAddr (tmps.getD a undef))
theorem Hf (fn:Func) (tmps:Array Value):results fn tmps=(do let vs ← fn.results.mapM (tH tmps);pure (if h:vs.size=1 then vs[0] else .tuple vs)):=rfl
section
variable {P:Program} {c:Cx} {f:Fm} {L:List ak}
theorem rE.run {r:ResultVar} {d:D} (h:rE P f L r d) {a:Act} {w:World} (s:St c f L a w):∃ x,RD (aZ c L) w d x∧(tH a.tmps r).run P w=.ok x w:=by
 cases h with
 | tmp h1=>exact ⟨_,s.fr _ _ h1,rfl⟩
 | @cell i t b T B n cs it h1 h2 h3 =>
  have hv:=s.fr _ _ h1;unfold RD RA at hv;obtain ⟨vs,g1,g2⟩:=s.res _ (List.mem_of_getElem? h2);refine ⟨.agg vs.toArray,by unfold RD;exact ⟨vs,rfl,g2⟩,?_⟩;have hlen:=g2.len;have tv:(loadCells ⟨b,0,none⟩ vs.length).run P w=.ok vs.toArray w:=run_loadCells_list (P:=P) w ⟨b,0,none⟩ _ (fun j v hv=>by rw [Addr.add_mid];exact g1.range j v hv);rw [hlen,h3] at tv;simp only [tH,hv.1,asAddr,Sem.run_bind,Sem.run_pure,Result.andThen_ok,loadVar,jY.runT it.h,↓reduceIte,iD.run it.s,tv]
 | @He i t b T B e it h1 h2 =>
  have hv:=s.fr _ _ h1;unfold RD RA at hv;obtain ⟨vs,g1,g2⟩:=s.res _ (List.mem_of_getElem? h2);obtain ⟨x,hx,hr⟩:=g2.get 0 rfl;refine ⟨x,by unfold RD;exact hr,?_⟩;have qY:w.cell? ⟨b,0,none⟩=some x:=by rw [g1.cell];exact hx
  have hl:(load ⟨b,0,none⟩).run P w=.ok x w:=by simp [load,Sem.run,qY]
  simp only [tH,hv.1,asAddr,Sem.run_bind,Sem.run_pure,Result.andThen_ok,loadVar,jY.xX it.h,Bool.false_eq_true,↓reduceIte,hl]
theorem gj.run {rs:List ResultVar} {ds:List D} (h:gj P f L rs ds) {a:Act} {w:World} (s:St c f L a w):∃ xs,bO (aZ c L) w ds xs∧(rs.mapM (tH a.tmps)).run P w=.ok xs w:=by
 induction h with
 | nil=>exact ⟨[],bO.nil,rfl⟩
 | cons h1 h2 ih =>
  obtain ⟨x,a1,a2⟩:=h1.run s;obtain ⟨xs,b1,b2⟩:=ih;refine ⟨x :: xs,bO.cons a1 b1,?_⟩;rw [List.mapM_cons,Sem.run_bind,a2];simp [Sem.run_bind,b2]
end
section
variable {P:Program} {F:FuncId} {ok:Nat→Prop} {e:World} {L0 L L':List ak} {ι:Type} {post:ι→D × List ak} {fn:Func} {N:Nat} {f:Fm} {k:List Item}
theorem mapM_some {α:Type} {L L':List α}:∀ {idx:List Nat},idx.map (fun i=>L[i]?)=L'.map some→∀ q∈L',q∈L
 | [],h=>by cases L' with | nil=>simp | cons x l=>simp at h
 | i :: idx,h=>by
  cases L' with
  | nil=>simp
  | cons x l =>
   simp only [List.map_cons,List.cons.injEq] at h;intro q hq;rcases List.mem_cons.1 hq with rfl | hq
   ·exact List.mem_of_getElem? h.1
   ·exact mapM_some h.2 q hq
theorem Bt {L:List ak} (ha:fK L):∀ {idx:List Nat} {L':List ak},idx.Nodup→idx.map (fun i=>L[i]?)=L'.map some→fK L'
 | [],L',hn,h=>by cases L' with | nil=>exact List.Pairwise.nil | cons x l=>simp at h
 | i :: idx,L',hn,h=>by
  cases L' with
  | nil=>simp at h
  | cons x l =>
   simp only [List.map_cons,List.cons.injEq] at h;have oS:=List.nodup_cons.1 hn;refine List.pairwise_cons.2 ⟨fun q hq=>?_,Bt ha oS.2 h.2⟩;have:∃ j∈idx,L[j]?=some q:=by
    have hm:some q∈l.map some:=List.mem_map.2 ⟨q,hq,rfl⟩;rw [← h.2] at hm;exact List.mem_map.1 hm
   obtain ⟨j,hj,dH⟩:=this;exact fK.ne ha h.1 dH (fun e=>oS.1 (e ▸ hj))
theorem Bu (hf:P.funcs[F]?=some fn) {rs:List ResultVar} {ds:List D} (kG:fn.results=rs.toArray) (h:gj P f L rs ds) {d:D} {i:ι} (hle:c9 (nX ds) d) (idx:List Nat) (dJ:idx.Nodup) (hL:idx.map (fun i=>L[i]?)=L'.map some) (hp:post i=(d,L')) {a:Act} {w:World} (s:St (cx F ok e L0 post N) f L a w) :
  ∃ x,(results fn a.tmps).run P w=.ok x w∧yh ok e L0 post (.returned x) w:=by
 obtain ⟨xs,h1,h2⟩:=h.run s;have hr:(results fn a.tmps).run P w=.ok (if h:xs.toArray.size=1 then xs.toArray[0] else .tuple xs.toArray) w:=by
  rw [Hf,kG,List.mapM_toArray,Sem.run_bind,map_eq_pure_bind,Sem.run_bind,h2];rfl
 refine ⟨_,hr,i,?_⟩;rw [hp];have Bv:=mapM_some hL;have Bw:∀ x,x∈aS L'→x∈aS L:=fun x hx=>by
  obtain ⟨q,hq,hx⟩:=cJ.1 hx;exact cJ.2 ⟨q,Bv q hq,hx⟩
 have m:Mon (aZ (cx F ok e L0 post N) L) (fL ok e L0 L') w w:=⟨Nat.le_refl _,fun g _ hg=>⟨⟨hg.1,fun hx=>hg.2 (Bw g hx)⟩,rfl⟩⟩
 refine ⟨_,rfl,s.kp,fun y hy=>s.ez y (Bw y hy),Bt s.ap dJ hL,fun r hr=>(s.res r (Bv r hr)).ck (aE.refl [] w) m (by simp),RD.ck m _ _ (hle.rep ?_)⟩
 cases ds with
 | nil=>unfold bO at h1;subst h1;unfold nX RD;exact ⟨[],rfl,bO.nil⟩
 | cons d1 ds =>
  unfold bO at h1;obtain ⟨x,ys,rfl,h3,h4⟩:=h1
  cases ds with
  | nil=>unfold bO at h4;subst h4;exact h3
  | cons d2 ds =>
   unfold bO at h4;obtain ⟨y,zs,rfl,h5,h6⟩:=h4;unfold nX RD;exact ⟨x :: y :: zs,rfl,bO.cons h3 (bO.cons h5 h6)⟩
theorem J.ret (hf:P.funcs[F]?=some fn) {rs:List ResultVar} {ds:List D} (kG:fn.results=rs.toArray) (h:gj P f L rs ds) {d:D} (i:ι) (hle:c9 (nX ds) d) (idx:List Nat) (dJ:idx.Nodup) (hL:idx.map (fun i=>L[i]?)=L'.map some) (hp:post i=(d,L')):J P (cx F ok e L0 post N) (.code .ret :: k) f L:=⟨fun a w s=>by
 obtain ⟨x,h1,h2⟩:=Bu hf kG h hle idx dJ hL hp s;exact fun b cs hb hk=>⟨.returned x,w,_,h2,Steps.one step_ret,hb,rfl,s.iS,hk,fn,by simpa [Frame.at,hb,cx] using hf,h1⟩⟩
theorem J.fin (hf:P.funcs[F]?=some fn) {rs:List ResultVar} {ds:List D} (kG:fn.results=rs.toArray) (h:gj P f L rs ds) {d:D} (i:ι) (hle:c9 (nX ds) d) (idx:List Nat) (dJ:idx.Nodup) (hL:idx.map (fun i=>L[i]?)=L'.map some) (hp:post i=(d,L')):J P (cx F ok e L0 post N) [] f L:=⟨fun a w s=>by
 obtain ⟨x,h1,h2⟩:=Bu hf kG h hle idx dJ hL hp s;exact fun b cs hb hk=>⟨.returned x,w,_,h2,Steps.one step_end,hb,rfl,s.iS,hk,fn,by simpa [Frame.at,hb,cx] using hf,h1⟩⟩
end
end Fl
open Go.RowKit
namespace Fl
theorem lX (L M:List ak) (x:Nat):x∈aS (L ++ M)↔x∈aS L∨x∈aS M:=by simp [aS]
def gq (f:Fm):List Operand→Option (List D)
 | []=>some []
 | x :: xs=>match aP f x,gq f xs with
  | some d,some ds=>some (d :: ds)
  | _,_=>none
section
variable {P:Program} {c:Cx} {k:List Item} {f:Fm} {L:List ak} {ops:Array Oper} {l:List Oper} {o:Oper} {T X:TypeId} {ps:String} {af:Array Edge} {gd:Option (Nat × Bool)} {t:Nat}
theorem St.Bx {a:Act} {w:World} (s:St c f L a w):∀ {xs:List Operand} {ds:List D},gq f xs=some ds→bO (aZ c L) w ds (xs.map a.eval)
 | [],ds,h=>by simp [gq] at h;subst h;exact bO.nil
 | x :: xs,ds,h=>by
  unfold gq at h
  cases h1:aP f x with
  | none=>rw [h1] at h;cases h
  | some d =>
   cases h2:gq f xs with
   | none=>rw [h1,h2] at h;cases h
   | some rF=>rw [h1,h2] at h;cases h;exact bO.cons (s.ev h1) (St.Bx s h2)
theorem By {F:FuncId} (h:xZ P F=true) (args:Array Value) (w:World):(callFunc F args).run P w=.ok (.enter F args) w:=by
 unfold xZ at h
 cases hf:P.funcs[F]? with
 | none=>rw [hf] at h;cases h
 | some fn =>
  rw [hf] at h;simp at h;have h2:fn.body≠none:=by intro hb;simp [hb] at h
  simp [callFunc,Sem.run_bind,hf,h.1,h2]
theorem Ld.call {F:FuncId} {args:List Operand} {tys:Array TypeId} {cM ds:List D} {Ll Lr:List ak} {ι:Type} {post:ι→D × List ak} [i:aK P F] (hC:aq P F ds Ll post) (ht:t < c.N) (h:gq f args=some cM) (hle:br cM ds) (hL:L=Ll ++ Lr) :
  Ld P c ⟨some t,.call ⟨.value (.func F),args.toArray,tys⟩,T,ps,af,gd⟩ f L (aS Ll) (fun i=>(t,(post i).1) :: f) (fun i=>(post i).2 ++ Lr):=⟨fun a w s K Q hK=>by
 have Hg:=hle.rep (s.Bx h);have mU:(execOp a.eval ⟨some t,.call ⟨.value (.func F),args.toArray,tys⟩,T,ps,af,gd⟩).run P w=.ok (.enter F (args.map a.eval).toArray) w:=by
  simp [execOp,resolve,Deferred.ofValue,invoke,Act.eval,Sem.run_bind,By i.h]
 unfold Oper.wp;rw [mU];have qf:=List.pairwise_append.1 (show List.Pairwise _ (Ll ++ Lr) from hL ▸ s.ap);have Hh:∀ r∈Ll,r∈L:=fun r hr=>hL ▸ List.mem_append_left Lr hr
 have Hi:∀ r∈Lr,r∈L:=fun r hr=>hL ▸ List.mem_append_right Ll hr
 have nY:∀ x,x∈aS Ll→x∈aS L:=fun x hx=>by rw [hL,lX];exact .inl hx
 have rG:∀ x,x∈aS Lr→x∈aS L:=fun x hx=>by rw [hL,lX];exact .inr hx
 have lY:∀ x,x∈aS Ll→x∉aS Lr:=fun x hx eH=>by
  obtain ⟨q,hq,h1⟩:=cJ.1 hx;obtain ⟨r,hr,h2⟩:=cJ.1 eH;exact qf.2.2 q hq r hr x h1 h2
 refine Calls.mono (hC.go (aZ c L) w (args.map a.eval) Hg (fun r hr=>s.res r (Hh r hr)) qf.1 (fun x hx ho=>ho.2 (nY x hx))) ?_
 rintro en w' ⟨i,x,rfl,kp,g1,g2,g3,g4⟩
 have qd:∀ g,g < w'.heap.size→fL (aZ c L) w Ll (post i).2 g→aZ c ((post i).2 ++ Lr) g:=fun g _ hg=>by
  obtain ⟨hg,hn⟩:=hg;rcases hg with hg | hg | hg
  ·exact ⟨hg.1,fun hx=>by rcases (lX _ _ _).1 hx with hx | hx;exact hn hx;exact hg.2 (rG g hx)⟩
  ·exact ⟨.inr (s.ez g (nY g hg)),fun hx=>by rcases (lX _ _ _).1 hx with hx | hx;exact hn hx;exact lY g hg hx⟩
  ·exact ⟨.inr (.inr (Nat.le_trans s.kp.size hg)),fun hx=>by
    rcases (lX _ _ _).1 hx with hx | hx
    ·exact hn hx
    ·have:=s.lt g (rG g hx);omega⟩
 have m1:Mon (fL (aZ c L) w Ll (post i).2) (aZ c ((post i).2 ++ Lr)) w' w':=⟨Nat.le_refl _,fun g hg ho=>⟨qd g hg ho,rfl⟩⟩
 have nZ:∀ y,y∈aS (post i).2→y∈aS Ll∨w.heap.size≤y:=g1;have m2:Mon (aZ c L) (aZ c ((post i).2 ++ Lr)) w w':=Mon.ju kp fun g hg ho=>⟨⟨ho.1,fun hx=>by
  rcases (lX _ _ _).1 hx with hx | hx
  ·rcases nZ g hx with h | h
   ·exact ho.2 (nY g h)
   ·omega
  ·exact ho.2 (rG g hx)⟩,fun hx=>ho.2 (nY g hx)⟩
 refine hK i _ _ kp (s.put ht (RD.ck m1 _ _ g4) (s.kp.trans kp (fun x hx=>s.ez x (nY x hx))) ?_ ?_ ?_ m2) (fun y hy=>by
  rcases (lX _ _ _).1 hy with hy | hy
  ·rcases nZ y hy with h | h
   ·exact .inl (nY y h)
   ·exact .inr h
  ·exact .inl (rG y hy))
 ·intro q hq;rcases List.mem_append.1 hq with hq | hq
  ·exact (g3 q hq).ck (aE.refl [] w') m1 (by simp)
  ·exact (s.res q (Hi q hq)).ck kp m2 (fun x hx eH=>lY x eH (cJ.2 ⟨q,hq,hx⟩))
 ·intro x hx;rcases (lX _ _ _).1 hx with hx | hx
  ·rcases nZ x hx with h | h
   ·exact s.ez x (nY x h)
   ·exact .inr (Nat.le_trans s.kp.size h)
  ·exact s.ez x (rG x hx)
 ·refine List.pairwise_append.2 ⟨g2,qf.2.1,fun q hq r hr x hx eH=>?_⟩;have n9:x∈aS Lr:=cJ.2 ⟨r,hr,eH⟩;rcases nZ x (cJ.2 ⟨q,hq,hx⟩) with h | h
  ·exact lY x h n9
  ·have:=s.lt x (rG x n9);omega⟩
theorem JO.alloc {zs:List Value} [i:aR P X zs] (hw:c7 ops ⟨some t,.alloc X,T,ps,af,gd⟩ f=true) (ht:t < c.N) (h:∀ b,JO P c ops l k ((t,.c (.v (.pointer (some ⟨b,0,none⟩)))) :: f) (.box b X (vs zs) :: L)):JO P c ops (⟨some t,.alloc X,T,ps,af,gd⟩ :: l) k f L :=
 JO.ld (Ld.alloc ht) hw h
theorem JO.box {x:Operand} {d:D} {cs:List A} (hw:c7 ops ⟨some t,.box X x,T,ps,af,gd⟩ f=true) (ht:t < c.N) (hx:aP f x=some d) (hc:gi d=some cs) (h:∀ b,JO P c ops l k ((t,.c (.v (.pointer (some ⟨b,0,none⟩)))) :: f) (.box b X cs :: L)):JO P c ops (⟨some t,.box X x,T,ps,af,gd⟩ :: l) k f L :=
 JO.ld (Ld.box ht hx hc) hw h
theorem Ld.aT {x y:Operand} {b n B i:Nat} {cs es:List A} {d:D} {L':List ak} [it:dN P X n] [bx:j4 L b B cs i] [st:jJ L i (.box b B es) L'] (hx:aP f x=some (.c (.v (.pointer (some ⟨b,0,none⟩))))) (hy:aP f y=some d) (hd:gi d=some es) (hn:es.length=n) (hl:cs.length=n) :
  Ld P c ⟨none,.store X x y,T,ps,af,gd⟩ f L [b] (fun _:Unit=>f) (fun _=>L'):=by
 have h:=Ld.yb (P:=P) (c:=c) (T:=T) (X:=X) (ps:=ps) (af:=af) (gd:=gd) i hx bx.h hy hd hn (by rw [hl,Nat.zero_add];exact Nat.ble_self_eq_true _);rw [Bo (hn.trans hl.symm),st.h] at h;exact h
theorem Ld.cr {x y:Operand} {b o B i:Nat} {cs:List A} {e:A} {L':List ak} [it:dN P X 1] [bx:j4 L b B cs i] [st:jJ L i (.box b B (cs.set o e)) L'] (hx:aP f x=some (.c (.v (.pointer (some ⟨b,o,none⟩))))) (hy:aP f y=some (.c e)) (hl:Nat.ble (o + 1) cs.length=true) :
  Ld P c ⟨none,.store X x y,T,ps,af,gd⟩ f L [b] (fun _:Unit=>f) (fun _=>L'):=by
 have h:=Ld.yb (P:=P) (c:=c) (T:=T) (X:=X) (ps:=ps) (af:=af) (gd:=gd) i hx bx.h hy rfl rfl hl;rw [Bp (Nat.le_of_ble_eq_true hl),st.h] at h;exact h
theorem Ld.oa {x y:Operand} {b o n B i:Nat} {cs es:List A} {d:D} {L':List ak} [it:dN P X n] [bx:j4 L b B cs i] [st:jJ L i (.box b B (ic cs o es)) L'] (hx:aP f x=some (.c (.v (.pointer (some ⟨b,o,none⟩))))) (hy:aP f y=some d) (hd:gi d=some es) (hn:es.length=n) (hl:Nat.ble (o + n) cs.length=true) :
  Ld P c ⟨none,.store X x y,T,ps,af,gd⟩ f L [b] (fun _:Unit=>f) (fun _=>L'):=by
 have h:=Ld.yb (P:=P) (c:=c) (T:=T) (X:=X) (ps:=ps) (af:=af) (gd:=gd) i hx bx.h hy hd hn hl;rw [st.h] at h;exact h
theorem Ld.dV {x y:Operand} {v:Value} {sz q e i:Nat} {ll:List (List A)} {es:List A} {d:D} {L':List ak} [it:dN P X sz] [bx:eY L v e sz ll i] [st:jJ L i (.row v e sz (ll.set q es)) L'] (hx:aP f x=some (.ow v sz q 0)) (hy:aP f y=some d) (hd:gi d=some es) (hn:es.length=sz) (hq:q < ll.length) :
  Ld P c ⟨none,.store X x y,T,ps,af,gd⟩ f L (cH v) (fun _:Unit=>f) (fun _=>L'):=⟨fun a w s=>by
 obtain ⟨xs,h1,h2⟩:=s.res _ (List.mem_of_getElem? bx.h);have hl:=RX.yc h2 (List.getElem?_eq_getElem hq);have h:=Ld.Bq (P:=P) (c:=c) (T:=T) (X:=X) (ps:=ps) (af:=af) (gd:=gd) i hx bx.h (List.getElem?_eq_getElem hq) hy hd hn (by rw [Nat.zero_add];exact Nat.ble_self_eq_true _);rw [Bo (hn.trans hl.symm),st.h] at h;exact h.go a w s⟩
theorem Ld.j6 {x y:Operand} {v:Value} {sz q o e i:Nat} {ll:List (List A)} {cs:List A} {u:A} {L':List ak} [it:dN P X 1] [bx:eY L v e sz ll i] [st:jJ L i (.row v e sz (ll.set q (cs.set o u))) L'] (hx:aP f x=some (.ow v sz q o)) (hy:aP f y=some (.c u)) (hl:Nat.ble (o + 1) sz=true) (hq:ll[q]?=some cs) :
  Ld P c ⟨none,.store X x y,T,ps,af,gd⟩ f L (cH v) (fun _:Unit=>f) (fun _=>L'):=⟨fun a w s=>by
 obtain ⟨xs,h1,h2⟩:=s.res _ (List.mem_of_getElem? bx.h);have hle:=RX.yc h2 hq;have h:=Ld.Bq (P:=P) (c:=c) (T:=T) (X:=X) (ps:=ps) (af:=af) (gd:=gd) i hx bx.h hq hy rfl rfl hl;rw [Bp (by have:=Nat.le_of_ble_eq_true hl;omega),st.h] at h;exact h.go a w s⟩
theorem Ld.pure {F:FuncId} {args:List Operand} {tys:Array TypeId} {cM ds:List D} {d:D} [i:aK P F] (hC:Pure P F ds d) (ht:t < c.N) (h:gq f args=some cM) (hle:br cM ds) :
  Ld P c ⟨some t,.call ⟨.value (.func F),args.toArray,tys⟩,T,ps,af,gd⟩ f L [] (fun _:Unit=>(t,d) :: f) (fun _=>L):=Ld.call hC ht h hle (Ll:=[]) (Lr:=L) rfl
theorem JO.fD {e sz:Nat} [i:dQ P X e sz] (hw:c7 ops ⟨some t,.buildSlice X 0 #[],T,ps,af,gd⟩ f=true) (ht:t < c.N) (h:∀ b,JO P c ops l k ((t,.c (.v (.slice (some ⟨b,0,none⟩) 0 0))) :: f) (.row (.slice (some ⟨b,0,none⟩) 0 0) e sz [] :: L)):JO P c ops (⟨some t,.buildSlice X 0 #[],T,ps,af,gd⟩ :: l) k f L :=
 JO.ld (Ld.fD ht) hw h
theorem JO.dZ {e sz:Nat} {x:Operand} {d:D} {cs:List A} {zs:List Value} [i:dQ P X e sz] [z:aR P e zs] (hw:c7 ops ⟨some t,.buildSlice X 1 #[(0,x)],T,ps,af,gd⟩ f=true) (ht:t < c.N) (hx:aP f x=some d) (hc:gi d=some cs) (hn:cs.length=sz) (h0:Nat.ble 1 sz=true) (hs:Nat.ble sz 1000=true)
  (h:∀ b,JO P c ops l k ((t,.c (.v (.slice (some ⟨b,0,none⟩) 1 1))) :: f) (.row (.slice (some ⟨b,0,none⟩) 1 1) e sz [cs] :: L)):JO P c ops (⟨some t,.buildSlice X 1 #[(0,x)],T,ps,af,gd⟩ :: l) k f L :=
 JO.ld (Ld.dZ ht hx hc hn h0 hs) hw h
theorem JO.call {F:FuncId} {args:List Operand} {tys:Array TypeId} {cM ds:List D} {Ll Lr:List ak} {ι:Type} {post:ι→D × List ak} [i:aK P F] (hC:aq P F ds Ll post) (hw:c7 ops ⟨some t,.call ⟨.value (.func F),args.toArray,tys⟩,T,ps,af,gd⟩ f=true) (ht:t < c.N) (h:gq f args=some cM) (hle:br cM ds) (hL:L=Ll ++ Lr)
  (hk:∀ i,JO P c ops l k ((t,(post i).1) :: f) ((post i).2 ++ Lr)):JO P c ops (⟨some t,.call ⟨.value (.func F),args.toArray,tys⟩,T,ps,af,gd⟩ :: l) k f L :=
 JO.ld (Ld.call hC ht h hle hL) hw hk
theorem JO.pure {F:FuncId} {args:List Operand} {tys:Array TypeId} {cM ds:List D} {d:D} [i:aK P F] (hC:Pure P F ds d) (hw:c7 ops ⟨some t,.call ⟨.value (.func F),args.toArray,tys⟩,T,ps,af,gd⟩ f=true) (ht:t < c.N) (h:gq f args=some cM) (hle:br cM ds)
  (hk:JO P c ops l k ((t,d) :: f) L):JO P c ops (⟨some t,.call ⟨.value (.func F),args.toArray,tys⟩,T,ps,af,gd⟩ :: l) k f L :=
 JO.call hC hw ht h hle (Ll:=[]) (Lr:=L) rfl fun _=>hk
theorem J.rH (i j n:Nat) {v:Value} {e:TypeId} {sz:Nat} {ll:List (List A)} {b:Nat} {B:TypeId} {cs:List A} (hi:L[i]?=some (.row v e sz ll)) (hj:L[j]?=some (.box b B cs)) (hc:cs[n]?=some (.v v))
  (h:J P c k f ((L.set j (.box b B (cs.set n (.r sz ll)))).eraseIdx i)):J P c k f L:=⟨fun a w s=>by
 have cq:i≠j:=fun e=>by subst e;rw [hi] at hj;cases hj
 have fo:=(List.getElem?_eq_some_iff.1 hj).1;have hm:∀ q,q∈L.eraseIdx i→q∈L:=fun q hq=>List.mem_of_mem_eraseIdx hq
 have ho:∀ q∈L.eraseIdx i,∀ x∈q.bR,x∉cH v:=fun q hq x hx eH=>by
  obtain ⟨m,vT⟩:=List.mem_iff_getElem?.1 hq;rw [List.getElem?_eraseIdx] at vT
  split at vT
  ·exact fK.ne s.ap hi vT (by omega) x eH hx
  ·exact fK.ne s.ap hi vT (by omega) x eH hx
 have hf:∀ x,x∈aS (L.eraseIdx i)→x∈aS L:=fun x hx=>by
  obtain ⟨q,hq,hx⟩:=cJ.1 hx;exact cJ.2 ⟨q,hm q hq,hx⟩
 have mo:Mon (aZ c L) (aZ c (L.eraseIdx i)) w w:=⟨Nat.le_refl _,fun g _ hg=>⟨⟨hg.1,fun hx=>hg.2 (hf g hx)⟩,rfl⟩⟩
 have s1:St c f (L.eraseIdx i) a w:=⟨s.kp,s.size,s.iS,fun q hq=>(s.res q (hm q hq)).ck (aE.refl [] w) mo (by simp),fun x hx=>s.ez x (hf x hx),s.ap.sublist (List.eraseIdx_sublist L i),fun t d ht=>RD.ck mo d _ (s.fr t d ht)⟩
 obtain ⟨xs,r1,r2⟩:=s.res _ (List.mem_of_getElem? hi);have hR:RA (aZ c (L.eraseIdx i)) w (.r sz ll) v:=RA.vQ r1.view (RX.ck mo _ _ r2) fun g hg=>⟨.inr (s.ez g (cJ.2 ⟨_,List.mem_of_getElem? hi,hg⟩)),fun hx=>by
  obtain ⟨q,hq,kF⟩:=cJ.1 hx;exact ho q hq g kF hg⟩
 have Hj:∃ j',(L.eraseIdx i)[j']?=some (.box b B cs)∧(L.set j (.box b B (cs.set n (.r sz ll)))).eraseIdx i=(L.eraseIdx i).set j' (.box b B (cs.set n (.r sz ll))):=by
  by_cases tI:j < i
  ·refine ⟨j,by rw [List.getElem?_eraseIdx,if_pos tI];exact hj,?_⟩;apply List.ext_getElem?;intro m;rw [List.getElem?_eraseIdx,List.getElem?_set,List.getElem?_set,List.getElem?_set,List.getElem?_eraseIdx,List.length_eraseIdx];have jy:=(List.getElem?_eq_some_iff.1 hi).1
   split <;> split <;> (try split) <;> (try split) <;> (try split) <;> first | rfl | omega
  ·refine ⟨j - 1,by rw [List.getElem?_eraseIdx,if_neg (by omega),show j - 1 + 1=j by omega];exact hj,?_⟩;apply List.ext_getElem?;intro m;rw [List.getElem?_eraseIdx,List.getElem?_set,List.getElem?_set,List.getElem?_set,List.getElem?_eraseIdx,List.length_eraseIdx];have jy:=(List.getElem?_eq_some_iff.1 hi).1
   split <;> split <;> (try split) <;> (try split) <;> (try split) <;> first | rfl | omega
 obtain ⟨j',e1,e2⟩:=Hj;rw [e2] at h;obtain ⟨vs,b1,b2⟩:=s1.res _ (List.mem_of_getElem? e1);refine h.go a w (s1.set e1 rfl (aE.refl _ w) ⟨vs,b1,?_⟩);have bX:=b2.get n (by exact hc);obtain ⟨x,hx,Bz⟩:=bX;unfold RA at Bz;obtain ⟨rfl,_⟩:=Bz;have:=RC.set n b2 hR;have e3:vs.set n x=vs:=by
  apply List.ext_getElem?;intro m;rw [List.getElem?_set]
  split
  ·rename_i e;subst e
   split
   ·exact hx.symm
   ·rename_i hn;rw [List.getElem?_eq_none (by omega)] at hx;cases hx
  ·rfl
 rw [e3] at this;exact this⟩
end
end Fl
open Go.RowKit
namespace Fl
section
variable {P:Program} {ops:Array Oper} {Q:Exit→Act→World→Prop} {md:Region.Mode} {S:World→Prop} {m:Option Nat}
def Gx (P:Program) (md:Region.Mode) (ops:Array Oper) (Q:Exit→Act→World→Prop) (S:World→Prop) (m:Option Nat):Nat→Array Bool→Act→World→Prop
 | 0,aH,a,w=>Region.ready md ops aH=[]∧Q .normal a w
 | n + 1,aH,a,w=>(Region.ready md ops aH=[]→Q .normal a w) ∧
  ∀ i∈Region.ready md ops aH,wpOp P ops Q i (fun a' w'=>(some i=m∧wpAny P md ops Q n (aH.setIfInBounds i true) a' w')∨(S w'∧Gx P md ops Q S m n (aH.setIfInBounds i true) a' w')) a w
theorem Gx.any:∀ (n:Nat) (aH:Array Bool) (a:Act) (w:World),Gx P md ops Q S m n aH a w→wpAny P md ops Q n aH a w
 | 0,_,_,_,h=>h
 | n + 1,_,_,_,h=>⟨h.1,fun i hi=>wpOp_mono (fun a' w' h'=>h'.elim (·.2) (fun h'=>Gx.any n _ a' w' h'.2)) (h.2 i hi)⟩
def yo (md:Region.Mode) (ops:Array Oper) (m:Option Nat) (i:Nat):Bool:=match m with
 | none=>true
 | some j=>waitsFor md ops j i
theorem Gx.first {i:Nat} {oi:Oper} {v:Value} (hi:ops[i]?=some oi) (qh:∀ (j:Nat) (o:Oper) cs b,ops[j]?=some o→o.op≠.select cs b) (hQ:∀ c a w,Q (.panic c) (a.put oi.dst v) w→Q (.panic c) a w) (hm:yo md ops m i=true) :
  ∀ (n:Nat) (aH:Array Bool) (a:Act) (w:World),(∀ (j:Nat) oj,ops[j]?=some oj→j≠i→aH.getD j true=false→(∀ e∈oj.after,Region.binds md e=true→e.on≠i)→oi.apart ops oj=true) →
   i∈Region.ready md ops aH→YieldsIf P ops S oi v a→S w→Gx P md ops Q S m n (aH.setIfInBounds i true) (a.put oi.dst v) w→Gx P md ops Q S m (n + 1) aH a w
 | n,aH,a,w,tJ,hr,hy,hS,H=>by
  refine ⟨fun h=>(by rw [h] at hr;cases hr),fun j hj=>?_⟩
  by_cases jL:j=i
  ·subst jL;exact hy.wpOp hi hS (.inr ⟨hS,H⟩)
  ·cases n with
   | zero =>
    have:=ready_mono hj jL;rw [H.1] at this
    cases this
   | succ n =>
    obtain ⟨tK,oj,kX,nM⟩:=mem_ready.1 hj;have mV:=xW hr nM;have mW:some j≠m:=fun e=>by
     subst e;unfold yo waitsFor at hm;simp only at hm;rw [kX] at hm;obtain ⟨x,hx,hp⟩:=Array.any_eq_true'.1 hm;simp only [Bool.and_eq_true,beq_iff_eq] at hp;exact mV x hx hp.2 hp.1
    have h2:=wpOp_putIf kX (tJ j oj kX jL tK mV) (fun cs b=>qh i oi cs b hi) (fun cs b=>qh j oj cs b kX) hQ hy (H.2 j (ready_mono hj jL));have iX:i∈Region.ready md ops (aH.setIfInBounds j true):=ready_mono hr (Ne.symm jL);refine wpOp_mono (fun a' w' h3=>?_) h2;have yq:=Array.setIfInBounds_comm (xs:=aH) true true jL;obtain ⟨h4,h5⟩:S w'∧_:=h3.2.resolve_left (fun h=>mW h.1);exact .inr ⟨h4,Gx.first hi qh hQ hm n (aH.setIfInBounds j true) a' w' (fun k ok hk yt tM mV=>by
     refine tJ k ok hk yt ?_ mV
     by_cases tN:j=k
     ·subst tN;exact tK
     ·rw [getD_set_ne true tN] at tM;exact tM) iX h3.1 h4 (by rw [yq];exact h5)⟩
end
def yu (md:Region.Mode) (ops:Array Oper) (m:Option Nat) (aH:Array Bool) (i:Nat):Bool :=
 Region.noSelect ops && Region.free md ops aH i && (Region.ready md ops aH).contains i && yo md ops m i
def iE (L:List ak) (T:List Nat):List Nat:=T.flatMap fun i=>match L[i]? with
 | some r=>r.bR
 | none=>[]
theorem tO {L:List ak} {T:List Nat} {x:Nat}:x∈iE L T↔∃ i∈T,∃ r,L[i]?=some r∧x∈r.bR:=by
 unfold iE;rw [List.mem_flatMap]
 constructor
 ·rintro ⟨i,hi,hx⟩
  cases h:L[i]? with
  | none=>rw [h] at hx;cases hx
  | some r=>rw [h] at hx;exact ⟨i,hi,r,h,hx⟩
 ·rintro ⟨i,hi,r,h,hx⟩
  exact ⟨i,hi,by rw [h];exact hx⟩
theorem vU {L:List ak} {T:List Nat} {x:Nat} (h:x∈iE L T):x∈aS L:=by
 obtain ⟨i,_,r,hr,hx⟩:=tO.1 h;exact cJ.2 ⟨r,List.mem_of_getElem? hr,hx⟩
section
variable (P:Program) (c:Cx)
structure JW (ops:Array Oper) (n:Nat) (aH:Array Bool) (k:List Item) (f:Fm) (L:List ak):Prop where
 go:∀ a w,St c f L a w→wpAny P .any ops (fun e a' w'=>e=.normal∧iT P c k a' w') n aH a w
structure JD (ops:Array Oper) (m:Option Nat) (T:List Nat) (n:Nat) (aH:Array Bool) (k:List Item) (f:Fm) (L:List ak) (f0:Fm) (L0:List ak):Prop where
 go:∀ a w w0,St c f L a w→St c f0 L0 a w0→aE (iE L0 T) w0 w→(∀ x∈aS L,x∈aS L0∨w0.heap.size≤x)→Gx P .any ops (fun e a' w'=>e=.normal∧iT P c k a' w') (fun w'=>aE (iE L0 T) w0 w') m n aH a w
end
section
variable {P:Program} {c:Cx} {k:List Item} {f f0:Fm} {L L0:List ak} {ops:Array Oper} {l:List Oper} {o:Oper} {m:Option Nat} {T:List Nat} {n:Nat} {aH:Array Bool}
theorem J.draw {id:Nat} (hm:P.follows .mixedOrders=true) (hn:l.length=n) (h:JW P c l.toArray n (Array.replicate n false) k f L):J P c (.code (.region id l.toArray true) :: k) f L:=⟨fun a w s=>by
 refine iT.wp (wp_region_any hm ?_);have s':St c f L a w.drew:=⟨s.kp.drew,s.size,s.iS,fun r hr=>(s.res r hr).ck ((aE.refl [] w).drew) (Mon.ju ((aE.refl [] w).drew) fun g _ hg=>⟨hg,by simp⟩) (by simp),s.ez,s.ap,fun t d ht=>RD.ck (Mon.ju ((aE.refl [] w).drew) fun g _ hg=>⟨hg,by simp⟩) d _ (s.fr t d ht)⟩
 have:=h.go a w.drew s';subst hn;simpa using this⟩
theorem JW.gw (T:List Nat) (m:Option Nat) (h:JD P c ops m T n aH k f L f L):JW P c ops n aH k f L:=⟨fun a w s =>
 Gx.any (S:=fun w'=>aE (iE L T) w w') (m:=m) _ _ _ _ (h.go a w w s s (aE.refl _ _) (fun g hg=>.inl hg))⟩
theorem JW.base (m:Option Nat) (h:JD P c ops m [] n aH k f L f L):JW P c ops n aH k f L:=JW.gw [] m h
theorem JW.done (hl:Region.ready .any ops aH=[]) (h:J P c k f L):JW P c ops n aH k f L:=⟨fun a w s=>wpAny_done hl ⟨rfl,h.go _ w s⟩ n⟩
theorem St.undef {a:Act} {w:World} {t:Nat} (s:St c f L a w) (ht:t < c.N):St c ((t,.aY []) :: f) L (a.put (some t) Go.undef) w:=s.jZ ht (by unfold RD;exact ⟨[],rfl,rfl⟩)
theorem JD.take (i:Nat) {t:Nat} {d:D} {U:List Nat} (hi:ops[i]?=some o) (hd:o.dst=some t) (hk:yu .any ops m aH i=true) (hw:c7 ops o f0=true) (ht:t < c.N) (q:Qt P c U o f0 L0 d) (hu:(U.all fun j=>!T.contains j)=true) (h:JD P c ops m T n (aH.setIfInBounds i true) k ((t,d) :: f) L ((t,d) :: f0) L0):JD P c ops m T (n + 1) aH k f L f0 L0:=⟨fun a w w0 s s0 kp ho=>by
 obtain ⟨v,h1,h2⟩:=q.go a w0 s0;unfold yu at hk;simp only [Bool.and_eq_true] at hk;obtain ⟨⟨⟨k1,k2⟩,k3⟩,k4⟩:=hk;have m1:Mon (aZ c L0) (aZ c L) w0 w:=Mon.ju kp fun g hg eZ=>⟨⟨eZ.1,fun hx=>by rcases ho g hx with h | h;exact eZ.2 h;omega⟩,fun hm=>eZ.2 (vU hm)⟩
 have yw:∀ w',aE (iE L0 T) w0 w'→nU L0 U w0 w':=fun w' qj=>⟨_,qj,fun x hx=>vU hx,fun x hx j hj r hr n9=>by
  obtain ⟨i,hi,r2,iX,nW⟩:=tO.1 hx;have tI:j≠i:=fun e=>by
   subst e;have:=List.all_eq_true.1 hu j hj;simp [hi] at this
  exact fK.ne s0.ap hr iX tI x n9 nW⟩
 refine Gx.first hi (Region.noSelect_spec k1) (fun c a w h=>by cases h.1) k4 n aH a w (Region.free_spec hi k2) (by simpa using k3) (v:=v) (.inl ⟨c7.run hw s0,fun w' qj=>h2 w' (yw w' qj)⟩) kp ?_
 have:=h.go (a.put o.dst v) w w0 (by rw [hd];exact s.jZ ht (RD.ck m1 _ _ h1)) (by rw [hd];exact s0.jZ ht h1) kp ho;exact this⟩
def stays:D→D
 | .c (.v x)=>.c (.v x)
 | _=>.any
theorem stays.rep {d:D} {ok dL:Nat→Prop} {w w':World} {x:Value} (h:RD ok w d x):RD dL w' (stays d) x:=by
 unfold stays
 split
 ·unfold RD RA at h ⊢;exact h
 ·unfold RD;trivial
inductive oT (L0:List ak):List ak→Prop
 | refl:oT L0 L0
 | cons {r L}:oT L0 L→oT L0 (r :: L)
theorem oT.mem {L0 L:List ak} (h:oT L0 L):∀ q∈L0,q∈L:=by
 induction h with
 | refl=>exact fun _ h=>h
 | cons _ ih=>exact fun q hq=>List.mem_cons_of_mem _ (ih q hq)
inductive Since (T:List Nat) (L0 L:List ak):List Nat→Prop
 | none:Since T L0 L []
 | nil:Since T L0 L (cH (.slice none 0 0))
 | first {v e sz m Lr}:L=.row v e sz m :: Lr→oT L0 Lr→Since T L0 L (cH v)
 | any {r i Lr}:L[i]?=some r→L.eraseIdx i=Lr→oT L0 Lr→Since T L0 L r.bR
 | there {r j}:L0[j]?=some r→T.contains j=true→Since T L0 L r.bR
theorem Since.row {L0 L L':List ak} {v:Value} {e sz i:Nat} {m:List (List A)} [bx:eY L v e sz m i] [er:jK L i L'] (ht:oT L0 L'):Since T L0 L (cH v):=.any bx.h er.h ht
theorem Since.oU {L0 L:List ak} {v:Value} {e sz i:Nat} {m:List (List A)} [bx:eY L0 v e sz m i] (ht:T.contains i=true):Since T L0 L (cH v):=.there bx.h ht
theorem Since.ig {L0 L:List ak} {b B i:Nat} {cs:List A} [bx:j4 L0 b B cs i] (ht:T.contains i=true):Since T L0 L [b]:=.there bx.h ht
theorem Since.keeps {S:List Nat} (hS:Since T L0 L S) {a:Act} {w w0 w':World} (s:St c f L a w) (kp:aE (iE L0 T) w0 w) (ho:∀ x∈aS L,x∈aS L0∨w0.heap.size≤x) (kY:aE S w w'):aE (iE L0 T) w0 w':=by
 refine kp.trans kY fun x hx=>?_
 cases hS with
 | none=>cases hx
 | nil=>cases hx
 | first e ht =>
  subst e;rcases ho x (cJ.2 ⟨_,List.mem_cons_self ..,hx⟩) with h | h
  ·obtain ⟨q,hq,kF⟩:=cJ.1 h;exact absurd kF ((List.pairwise_cons.1 s.ap).1 q (ht.mem q hq) x hx)
  ·exact .inr h
 | any h1 e ht =>
  rcases ho x (cJ.2 ⟨_,List.mem_of_getElem? h1,hx⟩) with h | h
  ·obtain ⟨q,hq,kF⟩:=cJ.1 h;have hm:=ht.mem q hq;rw [← e] at hm;obtain ⟨j,hj⟩:=List.mem_iff_getElem?.1 hm;rw [List.getElem?_eraseIdx] at hj
   exfalso
   split at hj
   ·exact fK.ne s.ap h1 hj (by omega) x hx kF
   ·exact fK.ne s.ap h1 hj (by omega) x hx kF
  ·exact .inr h
 | there h1 ht=>exact .inl (tO.2 ⟨_,by simpa using ht,_,h1,hx⟩)
structure JS (P:Program) (c:Cx) (ops:Array Oper) (m:Option Nat) (T:List Nat) (n:Nat) (aH:Array Bool) (k:List Item) (f:Fm) (L:List ak) (f0:Fm) (L0:List ak) (i:Nat):Prop where
 go:∀ a w w0,St c f L a w→St c f0 L0 a w0→aE (iE L0 T) w0 w→(∀ x∈aS L,x∈aS L0∨w0.heap.size≤x) →
  wpOp P ops (fun e a' w'=>e=.normal∧iT P c k a' w') i (fun a' w'=>(some i=m∧wpAny P .any ops (fun e a' w'=>e=.normal∧iT P c k a' w') n (aH.setIfInBounds i true) a' w')∨(aE (iE L0 T) w0 w'∧Gx P .any ops (fun e a' w'=>e=.normal∧iT P c k a' w') (fun w'=>aE (iE L0 T) w0 w') m n (aH.setIfInBounds i true) a' w')) a w
theorem JS.bt {S:List Nat} {i t:Nat} {ι:Type} {g:ι→D} {L':ι→List ak} (hi:ops[i]?=some o) (hd:o.dst=some t) (hw:c7 ops o f=true) (ht:t < c.N) (q:Ld P c o f L S (fun x=>(t,g x) :: f) L') (hS:Since T L0 L S)
  (h:∀ x,JD P c ops m T n (aH.setIfInBounds i true) k ((t,g x) :: f) (L' x) ((t,stays (g x)) :: f0) L0):JS P c ops m T n aH k f L f0 L0 i:=⟨fun a w w0 s s0 kp ho=>by
 refine wpOp_step hi (fun K hK=>?_);rw [c7.run hw s,if_pos rfl];refine q.go a w s K _ fun x v w' kY sx hf=>?_
 have oV:=hS.keeps s kp ho kY;refine hK _ _ (.inr ⟨oV,(h x).go _ w' w0 sx ?_ oV ?_⟩)
 ·rw [hd];exact s0.jZ ht (stays.rep (by
   have h1:=sx.fr t (g x) (oR _ _ _);have h2:=s.size;rw [hd] at h1;simpa [Act.put,Array.getD_eq_getD_getElem?,Array.getElem?_setIfInBounds,h2,ht] using h1))
 ·intro y hy;rcases hf y hy with h1 | h1
  ·exact ho y h1
  ·exact .inr (Nat.le_trans kp.size h1)⟩
theorem JS.st {S:List Nat} {i:Nat} {ι:Type} {L':ι→List ak} (hi:ops[i]?=some o) (hd:o.dst=none) (hw:c7 ops o f=true) (q:Ld P c o f L S (fun _=>f) L') (hS:Since T L0 L S)
  (h:∀ x,JD P c ops m T n (aH.setIfInBounds i true) k f (L' x) f0 L0):JS P c ops m T n aH k f L f0 L0 i:=⟨fun a w w0 s s0 kp ho=>by
 refine wpOp_step hi (fun K hK=>?_);rw [c7.run hw s,if_pos rfl];refine q.go a w s K _ fun x v w' kY sx hf=>?_
 have oV:=hS.keeps s kp ho kY;refine hK _ _ (.inr ⟨oV,(h x).go _ w' w0 sx (by rw [hd];exact s0) oV ?_⟩);intro y hy;rcases hf y hy with h1 | h1
 ·exact ho y h1
 ·exact .inr (Nat.le_trans kp.size h1)⟩
theorem JS.q {i t:Nat} {d:D} {U:List Nat} (hi:ops[i]?=some o) (hd:o.dst=some t) (hw:c7 ops o f=true) (ht:t < c.N) (q:Qt P c U o f L d)
  (h:JD P c ops m T n (aH.setIfInBounds i true) k ((t,d) :: f) L ((t,stays d) :: f0) L0):JS P c ops m T n aH k f L f0 L0 i:=⟨fun a w w0 s s0 kp ho=>by
 obtain ⟨v,h1,h2⟩:=q.go a w s;refine wpOp_step hi (fun K hK=>?_);rw [c7.run hw s,if_pos rfl];simp only [Oper.wp,h2 w (nU.now _ _ _),Oper.upon];exact hK _ _ (.inr ⟨kp,h.go _ w w0 (by rw [hd];exact s.jZ ht h1) (by rw [hd];exact s0.jZ ht (stays.rep h1)) kp ho⟩)⟩
theorem JS.last {i:Nat} {ι:Type} {f':ι→Fm} {L':ι→List ak} {S:List Nat} (hi:ops[i]?=some o) (hw:c7 ops o f=true) (q:Ld P c o f L S f' L') (h:∀ x,JW P c ops n (aH.setIfInBounds i true) k (f' x) (L' x)):JS P c ops (some i) T n aH k f L f0 L0 i:=⟨fun a w w0 s s0 kp ho=>by
 refine wpOp_step hi (fun K hK=>?_);rw [c7.run hw s,if_pos rfl];exact q.go a w s K _ fun x v w' kY sx hf=>hK _ _ (.inl ⟨rfl,(h x).go _ w' sx⟩)⟩
theorem JD.fR {i:Nat} (hr:Region.ready .any ops aH=[i]) (h:JS P c ops m T n aH k f L f0 L0 i):JD P c ops m T (n + 1) aH k f L f0 L0:=⟨fun a w w0 s s0 kp ho=>by
 refine ⟨fun h0=>(by rw [hr] at h0;cases h0),fun j hj=>?_⟩;rw [hr] at hj;simp at hj;subst hj;exact h.go a w w0 s s0 kp ho⟩
theorem JD.cy {i j:Nat} (hr:Region.ready .any ops aH=[i,j]) (h1:JS P c ops m T n aH k f L f0 L0 i) (h2:JS P c ops m T n aH k f L f0 L0 j):JD P c ops m T (n + 1) aH k f L f0 L0:=⟨fun a w w0 s s0 kp ho=>by
 refine ⟨fun h0=>(by rw [hr] at h0;cases h0),fun j hj=>?_⟩;rw [hr] at hj;simp at hj;rcases hj with rfl | rfl
 ·exact h1.go a w w0 s s0 kp ho
 ·exact h2.go a w w0 s s0 kp ho⟩
theorem JD.BA {i j q:Nat} (hr:Region.ready .any ops aH=[i,j,q]) (h1:JS P c ops m T n aH k f L f0 L0 i) (h2:JS P c ops m T n aH k f L f0 L0 j) (h3:JS P c ops m T n aH k f L f0 L0 q):JD P c ops m T (n + 1) aH k f L f0 L0:=⟨fun a w w0 s s0 kp ho=>by
 refine ⟨fun h0=>(by rw [hr] at h0;cases h0),fun j hj=>?_⟩;rw [hr] at hj;simp at hj;rcases hj with rfl | rfl | rfl
 ·exact h1.go a w w0 s s0 kp ho
 ·exact h2.go a w w0 s s0 kp ho
 ·exact h3.go a w w0 s s0 kp ho⟩
theorem JD.done (hl:Region.ready .any ops aH=[]) (h:J P c k f L):JD P c ops m T n aH k f L f0 L0:=⟨fun a w w0 s s0 kp ho=>by
 have hq:=h.go _ w s
 cases n with
 | zero=>exact ⟨hl,rfl,hq⟩
 | succ n=>exact ⟨fun _=>⟨rfl,hq⟩,fun k hk=>by rw [hl] at hk;cases hk⟩⟩
end
end Fl
open Go.RowKit
namespace Fl
def rI (P:Program) (T:TypeId):Option (List (Nat × Nat)):=match P.underlying T with
 | some (.struct fs)=>fs.toList.mapM fun f=>(P.info? f.type).map fun i=>(f.offset,i.size)
 | _=>none
class gF (P:Program) (T:TypeId) (pl:outParam (List (Nat × Nat))):Prop where h:rI P T=some pl:=by kernel_rfl
def oW (pl:List (Nat × Nat)):List A→List (Nat × List A)→Option (List A)
 | cs,[]=>some cs
 | cs,(i,es) :: r=>match pl[i]? with
  | none=>none
  | some (off,size)=>cond (Nat.beq es.length size && Nat.ble (off + es.length) cs.length) (oW pl (ic cs off es) r) none
def tS:List (Nat × Nat)→Nat→List (Nat × List A)→List A→List A
 | [],_,_,_=>[]
 | (_,n) :: pl,k,[],zs=>zs.take n ++ tS pl (k + 1) [] (zs.drop n)
 | (_,n) :: pl,k,(i,es) :: r,zs=>cond (Nat.beq i k) (es ++ tS pl (k + 1) r (zs.drop n)) (zs.take n ++ tS pl (k + 1) ((i,es) :: r) (zs.drop n))
theorem Hl (l:List Value):∀ (k:Nat) (z:Array Value),k + l.length≤z.size→∀ off,off≤k→(l.zipIdx (k - off)).foldl (fun cs x=>cs.setIfInBounds (off + x.2) x.1) z=(z.toList.take k ++ l ++ z.toList.drop (k + l.length)).toArray:=by
 induction l with
 | nil=>intro k z hz off ho;simp
 | cons x l ih =>
  intro k z hz off ho;simp only [List.length_cons] at hz;rw [List.zipIdx_cons,List.foldl_cons];have:=ih (k + 1) (z.setIfInBounds (off + (k - off)) x) (by simp;omega) off (by omega);rw [show k + 1 - off=k - off + 1 by omega] at this;rw [this];simp only [show off + (k - off)=k by omega];apply congrArg;simp only [Array.toList_setIfInBounds,List.length_cons];rw [List.take_add_one,List.take_set,List.getElem?_set_self (by simp;omega)];rw [List.set_eq_of_length_le (by simp;omega),List.drop_set,if_pos (by omega)];simp only [Option.toList_some,List.append_assoc,List.singleton_append,List.cons_append,List.nil_append];rw [show k + (l.length + 1)=k + 1 + l.length by omega]
theorem oW.run {ok:Nat→Prop} {w:World} {pl:List (Nat × Nat)}:∀ (ps:List (Nat × List A)) (xs:List (Nat × Value)) (cs eV:List A) (us:Array Value),oW pl cs ps=some eV→RC ok w cs us.toList→xs.map (·.1)=ps.map (·.1)→(∀ (j:Nat) (p:Nat × List A) (x:Nat × Value),ps[j]?=some p→xs[j]?=some x→RC ok w p.2 x.2.cells.toList) →
  ∃ vV,Instr.fill (pl.toArray[·]?) us xs=some vV∧RC ok w eV vV.toList
 | [],xs,cs,eV,us,h,hr,hm,hx=>by
  have:xs=[]:=by simpa using hm
  subst this;simp [oW] at h;subst h;exact ⟨us,rfl,hr⟩
 | (i,es) :: ps,[],cs,eV,us,h,hr,hm,hx=>by simp at hm
 | (i,es) :: ps,(i',x) :: xs,cs,eV,us,h,hr,hm,hx=>by
  simp only [List.map_cons,List.cons.injEq] at hm;obtain ⟨rfl,hm⟩:=hm;have yx:=hx 0 _ _ rfl rfl;simp only at yx;unfold oW at h
  cases hp:pl[i']? with
  | none=>rw [hp] at h;cases h
  | some q =>
   obtain ⟨off,size⟩:=q;rw [hp] at h;simp only at h
   cases hc:(Nat.beq es.length size && Nat.ble (off + es.length) cs.length) with
   | false=>rw [hc] at h;cases h
   | true =>
    rw [hc] at h;simp only [Bool.and_eq_true] at hc;have h1:=Nat.eq_of_beq_eq_true hc.1;have h2:=Nat.le_of_ble_eq_true hc.2;have oe:=yx.len;have lZ:=hr.len;simp only [Array.length_toList] at oe lZ;have hf:=Hl x.cells.toList off us (by simp;omega) off (Nat.le_refl _);rw [Nat.sub_self] at hf;have iX:RC ok w (ic cs off es) (us.toList.take off ++ x.cells.toList ++ us.toList.drop (off + x.cells.toList.length)):=by
     unfold ic;have:es.length=x.cells.toList.length:=by simp;omega
     rw [this];exact RC.app (RC.app (hr.take off) yx) (hr.drop _)
    obtain ⟨vV,g1,g2⟩:=oW.run ps xs _ eV ((us.toList.take off ++ x.cells.toList ++ us.toList.drop (off + x.cells.toList.length)).toArray) h (by simpa using iX) hm (fun j p x hp eH=>hx (j + 1) p x (by simpa using hp) (by simpa using eH));refine ⟨vV,?_,g2⟩;have Ho:pl.toArray[i']?=some (off,size):=by simpa using hp
    unfold Instr.fill;rw [Ho];simp only;rw [if_neg (by simp;omega)];rw [← g1]
    congr 1
    rw [← Array.foldl_toList,Array.toList_zipIdx];exact hf
section
variable {P:Program}
theorem rI.run {T:Nat} {pl:List (Nat × Nat)} (h:rI P T=some pl):∃ fs,P.underlying T=some (.struct fs)∧∀ w,(fs.mapM fun f=>do pure (f.offset,← sizeOf f.type):Sem (Array (Nat × Nat))).run P w=.ok pl.toArray w:=by
 unfold rI at h
 cases hu:P.underlying T with
 | none=>rw [hu] at h;cases h
 | some d =>
  rw [hu] at h
  cases d with
  | struct fs =>
   simp only at h;refine ⟨fs,rfl,fun w=>?_⟩;have key:∀ (l:List Field) (pl:List (Nat × Nat)),(l.mapM fun f=>(P.info? f.type).map fun i=>(f.offset,i.size))=some pl→(l.mapM fun f=>do pure (f.offset,← sizeOf f.type):Sem (List (Nat × Nat))).run P w=.ok pl w:=by
    intro l
    induction l with
    | nil=>intro pl h;simp at h;subst h;simp
    | cons f l ih =>
     intro pl h;rw [List.mapM_cons] at h
     cases hi:P.info? f.type with
     | none=>rw [hi] at h;cases h
     | some i =>
      rw [hi] at h;simp only [Option.map_some,Option.bind_eq_bind,Option.bind_some] at h
      cases hm:(l.mapM fun f=>(P.info? f.type).map fun i=>(f.offset,i.size)) with
      | none=>rw [hm] at h;cases h
      | some q =>
       rw [hm] at h;simp at h;subst h;have h5:=ih q hm;have h6:(sizeOf f.type).run P w=.ok i.size w:=by simp [sizeOf,typeInfo,Sem.run_bind,hi]
       rw [List.mapM_cons,Sem.run_bind,Sem.run_bind,h6];simp only [Result.andThen_ok,Sem.run_pure,Sem.run_bind,h5]
   have h2:=key fs.toList pl h;have e:(fs.mapM fun f=>do pure (f.offset,← sizeOf f.type):Sem (Array (Nat × Nat)))=(do let l ← (fs.toList.mapM fun f=>do pure (f.offset,← sizeOf f.type));pure l.toArray):=by
    rw [Array.mapM_eq_mapM_toList,map_eq_pure_bind]
   rw [e,Sem.run_bind,h2];rfl
  | _=>cases h
end
def BB (P:Program) (X k:Nat):Bool:=match P.underlying X with
  | some (.struct fs)=>match fs[k]? with
   | some fd=>jY P fd.type == some false
   | none=>false
  | _=>false
theorem BC {α β:Type} {g:α→Option β}:∀ {l:List α} {q:List β},l.mapM g=some q→∀ {k:Nat} {a:α},l[k]?=some a→∃ b,q[k]?=some b∧g a=some b
  | [],q,h,k,a,e=>by simp at e
  | x :: l,q,h,k,a,e=>by
   rw [List.mapM_cons] at h
   cases hx:g x with
   | none=>rw [hx] at h;cases h
   | some b =>
    rw [hx] at h;simp only [Option.bind_eq_bind,Option.bind_some] at h
    cases hl:l.mapM g with
    | none=>rw [hl] at h;cases h
    | some r =>
     rw [hl] at h;simp at h;subst h
     cases k with
     | zero=>simp at e;subst e;exact ⟨b,rfl,hx⟩
     | succ k=>simp at e;simpa using BC hl e
def og (f:Fm):List (Nat × Operand)→Option (List (Nat × List A))
 | []=>some []
 | (i,x) :: r=>match aP f x with
  | none=>none
  | some d=>match gi d,og f r with
   | some cs,some l=>some ((i,cs) :: l)
   | _,_=>none
section
variable {P:Program} {c:Cx} {f:Fm} {L:List ak} {t:Option Tmp} {T:TypeId} {ps:String} {af:Array Edge} {gd:Option (Nat × Bool)}
theorem og.rep {a:Act} {w:World} (s:St c f L a w):∀ {parts:List (Nat × Operand)} {l:List (Nat × List A)},og f parts=some l→(parts.map fun p=>(p.1,a.eval p.2)).map (·.1)=l.map (·.1)∧∀ (j:Nat) (p:Nat × List A) (x:Nat × Value),l[j]?=some p→(parts.map fun p=>(p.1,a.eval p.2))[j]?=some x→RC (aZ c L) w p.2 x.2.cells.toList
 | [],l,h=>by simp [og] at h;subst h;simp
 | (i,x) :: r,l,h=>by
  unfold og at h
  cases h1:aP f x with
  | none=>rw [h1] at h;cases h
  | some d =>
   rw [h1] at h;simp only at h
   cases h2:gi d with
   | none=>rw [h2] at h;cases h
   | some cs =>
    cases h3:og f r with
    | none=>rw [h2,h3] at h;cases h
    | some l' =>
     rw [h2,h3] at h
     cases h;obtain ⟨g1,g2⟩:=og.rep s h3;refine ⟨by simpa using g1,fun j p x hp hx=>?_⟩
     cases j with
     | zero=>simp at hp hx;subst hp;subst hx;exact gi.rep h2 (s.ev h1)
     | succ j=>exact g2 j p x (by simpa using hp) (by simpa using hx)
theorem Qt.build {X:Nat} {parts:List (Nat × Operand)} {pl:List (Nat × Nat)} {zs:List Value} {l:List (Nat × List A)} [z:aR P X zs] [i:gF P X pl] (h:og f parts=some l) (hf:oW pl (vs zs) l=some (tS pl 0 l (vs zs))):Qt P c [] ⟨t,.build X parts.toArray,T,ps,af,gd⟩ f L (.agg (tS pl 0 l (vs zs))):=⟨fun a w s=>by
 obtain ⟨g1,g2⟩:=og.rep s h;obtain ⟨zv,yd,ye⟩:=nR.run z.h;obtain ⟨fs,u1,u2⟩:=rI.run i.h;obtain ⟨us,r1,r2⟩:=oW.run (ok:=aZ c L) (w:=w) l (parts.map fun p=>(p.1,a.eval p.2)) (vs zs) _ zv.cells hf (by rw [yd];exact RC.vs z.o) g1 g2;refine ⟨.agg us,by unfold RD;exact ⟨us.toList,by simp,r2⟩,fun w' k=>?_⟩;have e:(parts.toArray.map fun (i,x)=>(i,a.eval x)).toList=parts.map fun p=>(p.1,a.eval p.2):=by simp
 simp only [execOp,Instr.build,Sem.run_bind,ye,Result.andThen_ok,run_underlying u1,u2,e,r1,Sem.run_pure]⟩
theorem Qt.field {x:Operand} {X k off:Nat} {cs:List A} {e:A} {pl:List (Nat × Nat)} [i:gF P X pl] (h:aP f x=some (.agg cs)) (hp:pl[k]?=some (off,1)) (hv:BB P X k=true) (he:cs[off]?=some e):Qt P c [] ⟨t,.field X x k,T,ps,af,gd⟩ f L (.c e):=⟨fun a w s=>by
 have r:=s.ev h;unfold RD at r;obtain ⟨vs,hx,hr⟩:=r;obtain ⟨y,hy,Hp⟩:=hr.get off he;refine ⟨y,by unfold RD;exact Hp,fun w' k'=>?_⟩;unfold BB at hv;have hi:=i.h;unfold rI at hi
 cases hu:P.underlying X with
 | none=>rw [hu] at hi;cases hi
 | some d =>
  rw [hu] at hi hv
  cases d with
  | struct fs =>
   simp only at hi hv
   cases hf:fs[k]? with
   | none=>rw [hf] at hv;cases hv
   | some fd =>
    rw [hf] at hv;simp only [beq_iff_eq] at hv;have Hq:fd.offset=off:=by
     have h3:=BC hi (k:=k) (a:=fd) (by simpa using hf);obtain ⟨q,BD,rJ⟩:=h3;rw [hp] at BD;cases BD
     cases kA:P.info? fd.type with
     | none=>rw [kA] at rJ;cases rJ
     | some ii=>rw [kA] at rJ;simp at rJ;exact rJ.1
    simp [execOp,Instr.field,Sem.run_bind,run_underlying hu,hf,hx,asAgg,part,jY.xX hv,Hq,hy]
  | _=>cases hv⟩
def l9 (f:Fm) (x:Option Operand) (n:Int):Option Int:=match x with
 | none=>some n
 | some y=>match aP f y with
  | some (.c (.v (.int _ m)))=>some m
  | _=>none
theorem l9.run {a:Act} {w:World} (s:St c f L a w) {x:Option Operand} {n m:Int} (h:l9 f x n=some m):(x=none∧m=n)∨∃ y k,x=some y∧a.eval y=.int k m:=by
 unfold l9 at h
 cases x with
 | none=>simp at h;exact .inl ⟨rfl,h.symm⟩
 | some y =>
  simp only at h
  split at h
  ·rename_i k q e
   cases h;exact .inr ⟨y,k,rfl,s.val e⟩
  ·cases h
theorem Qt.mX {x:Operand} {lo hi:Option Operand} {X e sz:Nat} {l:List (List A)} {m n:Int} [i:dQ P X e sz] (h:aP f x=some (.c (.r sz l))) (yy:l9 f lo 0=some m) (yz:l9 f hi l.length=some n) (h1:0≤m) (h2:m≤n) (h3:n≤l.length):Qt P c [] ⟨t,.slice X x lo hi none,T,ps,af,gd⟩ f L (.c (.r sz ((l.take n.toNat).drop m.toNat))):=⟨fun a w s=>by
 have r:=s.ev h;unfold RD RA at r;obtain ⟨ao,cap,hx,g1,g2,g3⟩:=r;have hn:n.toNat≤l.length:=by omega
 refine ⟨.slice (if cap=m.toNat then ao else ao.map (·.add (m.toNat * sz))) (n.toNat - m.toNat) (cap - m.toNat),?_,fun w' k=>?_⟩
 ·unfold RD RA;refine ⟨if cap=m.toNat then ao else ao.map (·.add (m.toNat * sz)),cap - m.toNat,by simp [hn],by simp;omega,by omega,?_⟩
  by_cases hz:((l.take n.toNat).drop m.toNat)=[]
  ·exact .inl hz
  ·have cq:l≠[]:=fun e=>hz (by simp [e])
   rcases g3 with g3 | ⟨g,off,rfl,g5,g6,g7⟩
   ·exact absurd g3 cq
   ·have fo:m.toNat < cap:=by
     rcases Nat.lt_or_ge m.toNat cap with h | h
     ·exact h
     ·exact absurd (List.eq_nil_of_length_eq_zero (by simp;omega)) hz
    refine .inr ⟨g,off + m.toNat * sz,by rw [if_neg (by omega)];simp [Addr.add_mid],g5,g6,?_⟩;exact (g7.take n.toNat).drop m.toNat
 ·have yA:∀ w,(match lo.map a.eval with | some v=>Instr.sliceBound v n.toNat .sliceB | none=>pure 0:Sem Nat).run P w=.ok m.toNat w:=fun w=>by
   rcases l9.run s yy with ⟨rfl,rfl⟩ | ⟨y,kd,rfl,hy⟩
   ·simp
   ·simp only [Option.map_some,hy,Instr.sliceBound,asIntOf,Sem.run_bind,Sem.run_pure,Result.andThen_ok];rw [if_pos ⟨h1,by omega⟩];rfl
  have yB:∀ w,(match hi.map a.eval,(none:Option Value) with | some v,some _=>Instr.sliceBound v cap .slice3B | some v,none=>Instr.sliceBound v cap (if true then .sliceAcap else .sliceAlen) | none,none=>pure l.length | none,some _=>stuck "Slice: max without high":Sem Nat).run P w=.ok n.toNat w:=fun w=>by
   rcases l9.run s yz with ⟨rfl,rfl⟩ | ⟨y,kd,rfl,hy⟩
   ·simp
   ·simp only [Option.map_some,hy,Instr.sliceBound,asIntOf,Sem.run_bind,Sem.run_pure,Result.andThen_ok];rw [if_pos ⟨by omega,by omega⟩];rfl
  have yC:∀ w,(Instr.sliceBounds true l.length cap (lo.map a.eval) (hi.map a.eval) none).run P w=.ok (m.toNat,n.toNat,cap) w:=fun w=>by
   unfold Instr.sliceBounds;simp only [Sem.run_bind,Sem.run_pure,Result.andThen_ok,Option.isSome_none,Bool.false_eq_true,↓reduceIte];have a1:=yB w;have a2:=yA w
   cases yD:hi.map a.eval <;> cases yE:lo.map a.eval <;> rw [yD] at a1 <;> rw [yE] at a2 <;> simp only [↓reduceIte,Sem.run_pure,Result.ok.injEq,and_true] at a1 a2 <;> simp [Sem.run_bind,a1,a2]
  simp only [execOp,Option.map_none,Instr.sliceAt,Instr.slice,hx,Sem.run_bind,run_underlying (kD.jI i.h),Result.andThen_ok,yC,iD.run i.s,Sem.run_pure]⟩
theorem Qt.eq {U:List Nat} {o:Oper} {d d':D} (q:Qt P c U o f L d) (h:d=d'):Qt P c U o f L d':=h ▸ q
theorem fq {n:Int} (h1:-9223372036854775808≤n) (h2:n≤9223372036854775807):IntKind.i64.wrap n=n:=IntWalk.i64_in n ⟨h1,h2⟩
end
section
variable {P:Program} {c:Cx} {k:List Item} {f:Fm} {L L2:List ak} {o:Oper}
theorem oh (hp:L2.Perm L) (x:Nat):x∈aS L2↔x∈aS L:=by
 rw [cJ,cJ];exact ⟨fun ⟨q,hq,hx⟩=>⟨q,hp.mem_iff.1 hq,hx⟩,fun ⟨q,hq,hx⟩=>⟨q,hp.mem_iff.2 hq,hx⟩⟩
theorem St.perm (hp:L2.Perm L) {a:Act} {w:World} (s:St c f L a w):St c f L2 a w:=by
 have ho:aZ c L2=aZ c L:=by
  funext x;unfold aZ;rw [oh hp]
 exact ⟨s.kp,s.size,s.iS,fun q hq=>by rw [ho];exact s.res q (hp.mem_iff.1 hq),fun x hx=>s.ez x ((oh hp x).1 hx),(hp.pairwise_iff (fun {x y} kC z hz nQ=>kC z nQ hz)).2 s.ap,fun u d hu=>by rw [ho];exact s.fr u d hu⟩
theorem Ld.perm (hp:L2.Perm L) {S:List Nat} {ι:Type} {f':ι→Fm} {L':ι→List ak} (h:Ld P c o f L2 S f' L'):Ld P c o f L S f' L':=⟨fun a w s K Q hK =>
 h.go a w (s.perm hp) K Q fun x v w' kp sx hf=>hK x v w' kp sx fun y hy=>by
  rcases hf y hy with h | h
  ·exact .inl ((oh hp y).1 h)
  ·exact .inr h⟩
theorem yF {r:ak} {i:Nat} {L':List ak} (h:L[i]?=some r) (e:L.eraseIdx i=L'):(r :: L').Perm L:=e ▸ nN L i h
variable {T X:TypeId} {ps:String} {af:Array Edge} {gd:Option (Nat × Bool)} {t:Nat} {e sz bytes i:Nat} {z:Value} {x y:Operand} {v:Value} {l1 l2:List (List A)} {L':List ak} {d2:D}
theorem kW.bV {j e':Nat} {u:Value} {m:List (List A)} [bx:eY L' u e' sz m j]:kW L' sz (.c (.v u)) m:=.own j bx.h
theorem Ld.bH [E:eK P X e sz bytes z] [bx:eY L v e sz l1 i] [er:jK L i L'] (ht:t < c.N) (h1:aP f x=some (.c (.v v))) (h2:aP f y=some d2) (hs:kW L' sz d2 l2) (hb:(l1.length + l2.length) * bytes≤140737488355328) :
  Ld P c ⟨some t,.call ⟨.builtin .append,#[x,y],#[X,X]⟩,T,ps,af,gd⟩ f L (cH v) (fun v':Value=>(t,.c (.v v')) :: f) (fun v'=>.row v' e sz (l1 ++ l2) :: L') :=
 Ld.perm (yF bx.h er.h) (Ld.yg ht h1 (.own rfl) h2 hs hb)
theorem Ld.eB [E:eK P X e sz bytes z] [bx:eY L v e sz l1 i] [er:jK L i L'] (ht:t < c.N) (h1:aP f x=some (.c (.v v))) (h2:aP f y=some d2) (hs:kW L' sz d2 l2) (hb:(l1.length + l2.length) * bytes≤140737488355328) :
  Ld P c ⟨some t,.call ⟨.builtin .append,#[x,y],#[X,X]⟩,T,ps,af,gd⟩ f L (cH v) (fun _:Unit=>(t,.c (.r sz (l1 ++ l2))) :: f) (fun _=>L') :=
 Ld.perm (yF bx.h er.h) (Ld.Br ht h1 (.own rfl) h2 hs hb)
theorem Ld.jM [E:eK P X e sz bytes z] (ht:t < c.N) (h1:aP f x=some (.c (.v (.slice none 0 0)))) (h2:aP f y=some d2) (hs:kW L sz d2 l2) (hb:l2.length * bytes≤140737488355328) :
  Ld P c ⟨some t,.call ⟨.builtin .append,#[x,y],#[X,X]⟩,T,ps,af,gd⟩ f L (cH (.slice none 0 0)) (fun v':Value=>(t,.c (.v v')) :: f) (fun v'=>.row v' e sz l2 :: L) :=
 Ld.yg ht h1 .nil h2 hs (by simpa using hb)
theorem Ld.dO [E:eK P X e sz bytes z] (ht:t < c.N) (h1:aP f x=some (.c (.v (.slice none 0 0)))) (h2:aP f y=some d2) (hs:kW L sz d2 l2) (hb:l2.length * bytes≤140737488355328) :
  Ld P c ⟨some t,.call ⟨.builtin .append,#[x,y],#[X,X]⟩,T,ps,af,gd⟩ f L (cH (.slice none 0 0)) (fun _:Unit=>(t,.c (.r sz l2)) :: f) (fun _=>L) :=
 Ld.Br ht h1 .nil h2 hs (by simpa using hb)
end
section
variable {P:Program} {c:Cx} {k:List Item} {f:Fm} {L:List ak}
theorem J.aQ {f':Fm} (h:J P c k f' L) (ho:qZ f f'):J P c k f L:=J.only f' ho h
theorem J.dj {L':List ak} (e:L'=L) (h:J P c k f L'):J P c k f L:=e ▸ h
theorem J.gG (t:Nat) {v:Value} {e sz i:Nat} {l:List (List A)} {L':List ak} [bx:eY L v e sz l i] [er:jK L i L'] (h1:look f t=some (.c (.v v))) (h:J P c k ((t,.c (.r sz l)) :: f) L'):J P c k f L:=⟨fun a w s=>by
 have hp:(ak.row v e sz l :: L').Perm L:=by rw [← er.h];exact nN L i bx.h
 have hm:∀ x,x∈aS (ak.row v e sz l :: L')↔x∈aS L:=fun x=>by
  rw [cJ,cJ];exact ⟨fun ⟨q,hq,hx⟩=>⟨q,hp.mem_iff.1 hq,hx⟩,fun ⟨q,hq,hx⟩=>⟨q,hp.mem_iff.2 hq,hx⟩⟩
 have ho:aZ c (ak.row v e sz l :: L')=aZ c L:=by
  funext x;unfold aZ;rw [hm]
 have s1:St c ((t,.c (.v v)) :: f) (ak.row v e sz l :: L') a w:=by
  refine ⟨s.kp,s.size,s.iS,fun q hq=>by rw [ho];exact s.res q (hp.mem_iff.1 hq),fun x hx=>s.ez x ((hm x).1 hx),(hp.pairwise_iff (fun {x y} kC z hz nQ=>kC z nQ hz)).2 s.ap,fun u d hu=>?_⟩;rw [ho]
  by_cases e1:t=u
  ·subst e1;rw [oR] at hu;cases hu;exact s.fr t _ h1
  ·rw [rj e1] at hu;exact s.fr u d hu
 exact h.go a w s1.freeze⟩
end
namespace K
section
variable {P:Program} {c:Cx} {k:List Item} {f:Fm} {L:List ak} {ops:Array Oper} {l:List Oper} {t:Option Tmp} {T:TypeId} {ps:String} {af:Array Edge} {gd:Option (Nat × Bool)}
theorem load {X:TypeId} {x:Operand} (h:JO P c ops (⟨t,.load X x,T,ps,af,gd⟩ :: l) k f L):JO P c ops (⟨t,.load X x,T,ps,af,gd⟩ :: l) k f L:=h
theorem store {X:TypeId} {x y:Operand} (h:JO P c ops (⟨t,.store X x y,T,ps,af,gd⟩ :: l) k f L):JO P c ops (⟨t,.store X x y,T,ps,af,gd⟩ :: l) k f L:=h
theorem move {x:Operand} (h:JO P c ops (⟨t,.move x,T,ps,af,gd⟩ :: l) k f L):JO P c ops (⟨t,.move x,T,ps,af,gd⟩ :: l) k f L:=h
theorem assign {x:Operand} (h:JO P c ops (⟨t,.assign x,T,ps,af,gd⟩ :: l) k f L):JO P c ops (⟨t,.assign x,T,ps,af,gd⟩ :: l) k f L:=h
theorem fieldAddr {X:TypeId} {x:Operand} {n:Nat} (h:JO P c ops (⟨t,.fieldAddr X x n,T,ps,af,gd⟩ :: l) k f L):JO P c ops (⟨t,.fieldAddr X x n,T,ps,af,gd⟩ :: l) k f L:=h
theorem indexAddr {X:TypeId} {x y:Operand} (h:JO P c ops (⟨t,.indexAddr X x y,T,ps,af,gd⟩ :: l) k f L):JO P c ops (⟨t,.indexAddr X x y,T,ps,af,gd⟩ :: l) k f L:=h
theorem binOp {b:BinOp} {X Y:TypeId} {x y:Operand} (h:JO P c ops (⟨t,.binOp b X x y Y,T,ps,af,gd⟩ :: l) k f L):JO P c ops (⟨t,.binOp b X x y Y,T,ps,af,gd⟩ :: l) k f L:=h
theorem unOp {b:UnOp} {X:TypeId} {x:Operand} (h:JO P c ops (⟨t,.unOp b X x,T,ps,af,gd⟩ :: l) k f L):JO P c ops (⟨t,.unOp b X x,T,ps,af,gd⟩ :: l) k f L:=h
theorem call {x:Operand} {iY:Array Operand} {tys:Array TypeId} (h:JO P c ops (⟨t,.call ⟨.value x,iY,tys⟩,T,ps,af,gd⟩ :: l) k f L):JO P c ops (⟨t,.call ⟨.value x,iY,tys⟩,T,ps,af,gd⟩ :: l) k f L:=h
theorem bi {b:Builtin} {iY:Array Operand} {tys:Array TypeId} (h:JO P c ops (⟨t,.call ⟨.builtin b,iY,tys⟩,T,ps,af,gd⟩ :: l) k f L):JO P c ops (⟨t,.call ⟨.builtin b,iY,tys⟩,T,ps,af,gd⟩ :: l) k f L:=h
theorem extract {x:Operand} {n:Nat} (h:JO P c ops (⟨t,.extract x n,T,ps,af,gd⟩ :: l) k f L):JO P c ops (⟨t,.extract x n,T,ps,af,gd⟩ :: l) k f L:=h
theorem build {X:TypeId} {iY:Array (Nat × Operand)} (h:JO P c ops (⟨t,.build X iY,T,ps,af,gd⟩ :: l) k f L):JO P c ops (⟨t,.build X iY,T,ps,af,gd⟩ :: l) k f L:=h
theorem lit {X:TypeId} {n:Nat} {iY:Array (Nat × Operand)} (h:JO P c ops (⟨t,.buildSlice X n iY,T,ps,af,gd⟩ :: l) k f L):JO P c ops (⟨t,.buildSlice X n iY,T,ps,af,gd⟩ :: l) k f L:=h
theorem slice {X:TypeId} {x:Operand} {lo hi mx:Option Operand} (h:JO P c ops (⟨t,.slice X x lo hi mx,T,ps,af,gd⟩ :: l) k f L):JO P c ops (⟨t,.slice X x lo hi mx,T,ps,af,gd⟩ :: l) k f L:=h
theorem pick {x y z:Operand} (h:JO P c ops (⟨t,.pick x y z,T,ps,af,gd⟩ :: l) k f L):JO P c ops (⟨t,.pick x y z,T,ps,af,gd⟩ :: l) k f L:=h
theorem nilCheck {x:Operand} (h:JO P c ops (⟨t,.nilCheck x,T,ps,af,gd⟩ :: l) k f L):JO P c ops (⟨t,.nilCheck x,T,ps,af,gd⟩ :: l) k f L:=h
theorem convert {X Y:TypeId} {x:Operand} (h:JO P c ops (⟨t,.convert X Y x,T,ps,af,gd⟩ :: l) k f L):JO P c ops (⟨t,.convert X Y x,T,ps,af,gd⟩ :: l) k f L:=h
theorem field {X:TypeId} {x:Operand} {n:Nat} (h:JO P c ops (⟨t,.field X x n,T,ps,af,gd⟩ :: l) k f L):JO P c ops (⟨t,.field X x n,T,ps,af,gd⟩ :: l) k f L:=h
theorem make {X:TypeId} {x y:Operand} (h:JO P c ops (⟨t,.makeSlice X x y,T,ps,af,gd⟩ :: l) k f L):JO P c ops (⟨t,.makeSlice X x y,T,ps,af,gd⟩ :: l) k f L:=h
end
end K
end Fl
end Go.Proofs.YtgjpdogjekmemaaGreat
