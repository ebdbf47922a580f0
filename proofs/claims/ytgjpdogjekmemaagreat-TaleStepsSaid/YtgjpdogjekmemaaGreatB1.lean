/-
  What the laws need, part B1.
  Conditions: none.
-/
import Derived.Test.YtgjpdogjekmemaaGreatRows
import Derived.BigQuiet
import Derived.ChangeOld
import Derived.Deep.CutBlock
import Derived.Deep.DeepCutAuto
import Derived.Deep.DeepFit
import Derived.Deep.DeepMust
import Derived.Deep.Fields
import Derived.Deep.LoopGhost
import Derived.Deep.MidRow
import Derived.Deep.QuietTactic
import Derived.Deep.RegionHeld3
import Derived.Deep.RegionLaw
import Derived.Deep.Slices
import Derived.Laws.AppendOwnNone
import Derived.Laws.CopyOwn
import Derived.Lib.Hide
import Derived.Maps.OwnSet
import Derived.Maps.RangeWalk
import Derived.OpenShut
import Derived.ProofKit
import Derived.WalkKit
set_option linter.unusedVariables false
set_option linter.unusedSimpArgs false
set_option linter.unnecessarySimpa false
set_option maxHeartbeats 2000000
namespace Go.Proofs.YtgjpdogjekmemaaGreat
open Go.RowKit
structure aP (S:List Nat) (w w':World):Prop where
 os:w'.os=w.os
 tape:w'.tape=w.tape
 output:w'.output=w.output
 size:w.heap.size≤w'.heap.size
 block:∀ k,k < w.heap.size→k∉S→w'.heap[k]?=w.heap[k]?
theorem aP.refl (S:List Nat) (w:World):aP S w w:=⟨rfl,rfl,rfl,Nat.le_refl _,fun _ _ _=>rfl⟩
theorem aP.trans {S T:List Nat} {a b c:World} (h:aP S a b) (k:aP T b c) (hT:∀ x∈T,x∈S∨a.heap.size≤x):aP S a c :=
 ⟨k.os.trans h.os,k.tape.trans h.tape,k.output.trans h.output,Nat.le_trans h.size k.size,fun i hi hn =>
  (k.block i (Nat.lt_of_lt_of_le hi h.size) (fun hm=>by rcases hT i hm with h1 | h1;exact hn h1;omega)).trans (h.block i hi hn)⟩
theorem aP.then {S:List Nat} {a b c:World} (h:aP S a b) (k:aP [] b c):aP S a c:=h.trans k (by simp)
theorem aP.mono {S T:List Nat} {a b:World} (h:aP S a b) (hS:∀ x∈S,x∈T∨a.heap.size≤x):aP T a b :=
 ⟨h.os,h.tape,h.output,h.size,fun i hi hn=>h.block i hi (fun hm=>by rcases hS i hm with h1 | h1;exact hn h1;omega)⟩
theorem aP.drew {S:List Nat} {a w:World} (h:aP S a w):aP S a w.drew:=⟨h.os,h.tape,h.output,h.size,h.block⟩
theorem aP.alloc {S:List Nat} {a w:World} (h:aP S a w) (o:Obj):aP S a (w.alloc o) :=
 h.trans (T:=[]) ⟨rfl,rfl,rfl,by simp,fun k hk _=>Below.heap_alloc w o k hk⟩ (by simp)
theorem aP.setCell {S:List Nat} {a w:World} (h:aP S a w) {p:Addr} (hp:p.block∈S∨a.heap.size≤p.block) (u:Value):aP S a (w.setCell p u) :=
 h.trans (T:=[p.block]) ⟨rfl,rfl,rfl,by simp [World.setCell],fun k hk hn=>Below.heap_setCell _ _ _ _ (by simpa using hn)⟩ (by simpa using hp)
theorem aP.setRow {S:List Nat} {a w:World} (h:aP S a w) {g:Nat} (hp:g∈S∨a.heap.size≤g) (cs:Array Value):aP S a (w.setRow g cs) :=
 h.trans (T:=[g]) ⟨rfl,rfl,rfl,by simp,fun k hk hn=>setRow_other w g k _ (by simpa using hn)⟩ (by simpa using hp)
theorem aP.below {w w':World} (h:aP [] w w'):Below w.heap.size w w':=⟨h.os,h.tape,h.output,h.size,fun k hk=>h.block k hk (by simp)⟩
theorem aP.cell {S:List Nat} {w w':World} (h:aP S w w') {p:Addr} {v:Value} (hc:w.cell? p=some v) (hn:p.block∉S):w'.cell? p=some v:=by
 rw [World.cell?_of_block (w:=w) (h.block p.block (block_lt_of_cell hc) hn)];exact hc
def dB (w:World) (g:Nat) (cs:List Value) (e:TypeId):Prop:=w.heap[g]?=some (.cells cs.toArray e (0,0))
theorem dB.lt {w:World} {g:Nat} {cs:List Value} {e:TypeId} (h:dB w g cs e):g < w.heap.size:=lt_of_block h
theorem dB.cell {w:World} {g:Nat} {cs:List Value} {e:TypeId} (h:dB w g cs e) (j:Nat):w.cell? ⟨g,j,none⟩=cs[j]?:=by
 rw [cell_of_row w g j _ e (0,0) h];simp
theorem dB.free {w:World} {g:Nat} {cs:List Value} {e:TypeId} (h:dB w g cs e) (j:Nat):w.frozen? ⟨g,j,none⟩=false:=frozen_of_row w g j _ e h
theorem dB.ig {S:List Nat} {w w':World} {g:Nat} {cs:List Value} {e:TypeId} (h:dB w g cs e) (k:aP S w w') (hn:g∉S):dB w' g cs e:=(k.block g h.lt hn).trans h
theorem dB.set {w:World} {g:Nat} {cs:List Value} {e:TypeId} (h:dB w g cs e) (j:Nat) (v:Value):dB (w.setCell ⟨g,j,none⟩ v) g (cs.set j v) e:=by
 unfold dB;rw [heap_setCell_same w g j _ e v h];simp
theorem dB.new (w:World) (cs:List Value) (e:TypeId):dB (w.alloc (.cells cs.toArray e)) w.heap.size cs e:=heap_alloc_new w _
theorem dB.alloc {w:World} {g:Nat} {cs:List Value} {e:TypeId} (h:dB w g cs e) (o:Obj):dB (w.alloc o) g cs e:=(Below.heap_alloc w o g h.lt).trans h
def View (w:World) (v:Value) (sz n:Nat) (xs:List Value) (S:List Nat):Prop :=
 xs.length=n * sz∧∃ ao cap,v=.slice ao n cap∧n≤cap∧cap≤maxLen ∧
  ((n=0∧S=[])∨∃ g off,ao=some ⟨g,off,none⟩∧S=[g]∧g < w.heap.size∧∀ j,j < xs.length→w.cell? ⟨g,off + j,none⟩=xs[j]?)
theorem View.len {w:World} {v:Value} {sz n:Nat} {xs:List Value} {S:List Nat} (h:View w v sz n xs S):xs.length=n * sz:=h.1
theorem View.le {w:World} {v:Value} {sz n:Nat} {xs:List Value} {S:List Nat} (h:View w v sz n xs S):n≤maxLen:=by
 obtain ⟨_,ao,cap,_,h1,h2,_⟩:=h;omega
theorem View.shape {w:World} {v:Value} {sz n:Nat} {xs:List Value} {S:List Nat} (h:View w v sz n xs S):∃ ao cap,v=.slice ao n cap:=by
 obtain ⟨_,ao,cap,h,_⟩:=h;exact ⟨ao,cap,h⟩
theorem View.lt {w:World} {v:Value} {sz n:Nat} {xs:List Value} {S:List Nat} (h:View w v sz n xs S):∀ k∈S,k < w.heap.size:=by
 obtain ⟨_,ao,cap,_,_,_,⟨_,rfl⟩ | ⟨g,off,_,rfl,hg,_⟩⟩:=h
 ·simp
 ·simpa using hg
theorem View.nil (w:World) (sz:Nat):View w (.slice none 0 0) sz 0 [] []:=⟨by simp,none,0,rfl,Nat.le_refl _,by simp [maxLen],.inl ⟨rfl,rfl⟩⟩
theorem View.ig {S T:List Nat} {w w':World} {v:Value} {sz n:Nat} {xs:List Value} (h:View w v sz n xs S) (k:aP T w w') (hn:∀ x∈S,x∉T):View w' v sz n xs S:=by
 obtain ⟨h0,ao,cap,h1,h2,h3,h4⟩:=h;refine ⟨h0,ao,cap,h1,h2,h3,?_⟩;rcases h4 with h4 | ⟨g,off,rfl,rfl,hg,hc⟩
 ·exact .inl h4
 ·refine .inr ⟨g,off,rfl,rfl,Nat.lt_of_lt_of_le hg k.size,fun j hj=>?_⟩;rw [← hc j hj];exact World.cell?_of_block (w:=w) (k.block g hg (hn g (by simp)))
theorem View.cell {S:List Nat} {w:World} {ao:Option Addr} {m cap:Nat} {sz n:Nat} {xs:List Value} (h:View w (.slice ao m cap) sz n xs S) (hp:0 < n) :
  ∃ g off,ao=some ⟨g,off,none⟩∧S=[g]∧g < w.heap.size∧∀ j,j < xs.length→w.cell? ⟨g,off + j,none⟩=xs[j]?:=by
 obtain ⟨h0,zh,we,h1,h2,h3,h4⟩:=h;obtain ⟨rfl,rfl,rfl⟩:=by simpa using h1
 rcases h4 with ⟨rfl,_⟩ | h4
 ·omega
 ·exact h4
theorem gK {a b:Bool} (h:a=b):Ending.returned (.bool a)=.returned (.bool b):=by rw [h]
open Go.RowKit
def Row (w:World) (v:Value) (e:TypeId) (sz n:Nat) (xs:List Value) (S:List Nat):Prop :=
 xs.length=n * sz∧∃ ao cap,v=.slice ao n cap∧n≤cap∧cap≤maxLen ∧
  ((ao=none∧n=0∧cap=0∧S=[])∨∃ g off cur,ao=some ⟨g,off,none⟩∧S=[g]∧dB w g cur e∧off + cap * sz≤cur.length∧∀ j,j < xs.length→cur[off + j]?=xs[j]?)
section
variable {w w':World} {v:Value} {e:TypeId} {sz n:Nat} {xs:List Value} {S T:List Nat}
theorem Row.view (h:Row w v e sz n xs S):View w v sz n xs S:=by
 obtain ⟨h0,ao,cap,h1,h2,h3,h4⟩:=h;refine ⟨h0,ao,cap,h1,h2,h3,?_⟩;rcases h4 with h4 | ⟨g,off,cur,rfl,rfl,hb,hl,hc⟩
 ·exact .inl ⟨h4.2.1,h4.2.2.2⟩
 ·exact .inr ⟨g,off,rfl,rfl,hb.lt,fun j hj=>by rw [hb.cell];exact hc j hj⟩
theorem Row.lt (h:Row w v e sz n xs S):∀ k∈S,k < w.heap.size:=h.view.lt
theorem Row.shape (h:Row w v e sz n xs S):∃ ao cap,v=.slice ao n cap:=h.view.shape
theorem Row.ig (h:Row w v e sz n xs S) (k:aP T w w') (hn:∀ x∈S,x∉T):Row w' v e sz n xs S:=by
 obtain ⟨h0,ao,cap,h1,h2,h3,h4⟩:=h;refine ⟨h0,ao,cap,h1,h2,h3,?_⟩;rcases h4 with h4 | ⟨g,off,cur,rfl,rfl,hb,hr⟩
 ·exact .inl h4
 ·exact .inr ⟨g,off,cur,rfl,rfl,hb.ig k (hn g (by simp)),hr⟩
theorem Row.nil (w:World) (e:TypeId) (sz:Nat):Row w (.slice none 0 0) e sz 0 [] []:=⟨by simp,none,0,rfl,Nat.le_refl _,by simp [maxLen],.inl ⟨rfl,rfl,rfl,rfl⟩⟩
theorem Row.lit (w:World) (cs:List Value) (e:TypeId) (sz n:Nat) (hl:cs.length=n * sz) (hm:n≤maxLen):Row (w.alloc (.cells cs.toArray e)) (.slice (some ⟨w.heap.size,0,none⟩) n n) e sz n cs [w.heap.size] :=
 ⟨hl,_,n,rfl,Nat.le_refl _,hm,.inr ⟨w.heap.size,0,cs,rfl,rfl,dB.new w cs e,by omega,by simp⟩⟩
theorem Row.stored {g off m cap:Nat} (h:Row w (.slice (some ⟨g,off,none⟩) m cap) e sz n xs S) (j:Nat) (hj:j < xs.length) (u:Value) :
  Row (w.setCell ⟨g,off + j,none⟩ u) (.slice (some ⟨g,off,none⟩) m cap) e sz n (xs.set j u) S∧aP S w (w.setCell ⟨g,off + j,none⟩ u):=by
 obtain ⟨h0,ao,we,h1,h2,h3,h4⟩:=h;obtain ⟨rfl,rfl,rfl⟩:=by simpa using h1
 rcases h4 with ⟨h4,_⟩ | ⟨g',zi,cur,h4,rfl,hb,hl,hc⟩
 ·cases h4
 ·obtain ⟨rfl,rfl⟩:=by simpa using h4
  refine ⟨⟨by simpa using h0,_,cap,rfl,h2,h3,.inr ⟨g,off,cur.set (off + j) u,rfl,rfl,hb.set _ u,by simpa using hl,fun i hi=>?_⟩⟩,(aP.refl _ w).setCell (by simp) u⟩;have DE:i < xs.length:=by simpa using hi
  have bZ:off + j < cur.length:=by
   have:=hc j hj;rw [List.getElem?_eq_getElem hj] at this;exact (List.getElem?_eq_some_iff.1 this).1
  by_cases e:i=j
  ·subst e;simp [bZ,hj]
  ·rw [List.getElem?_set_ne (by omega),List.getElem?_set_ne (by omega)];exact hc i DE
theorem Row.cells {ao:Option Addr} {m cap:Nat} (h:Row w (.slice ao m cap) e sz n xs S) (hp:0 < n) :
  ∃ g off,ao=some ⟨g,off,none⟩∧S=[g]∧g < w.heap.size∧(∀ j,j < xs.length→w.cell? ⟨g,off + j,none⟩=xs[j]?)∧∀ j,w.frozen? ⟨g,off + j,none⟩=false:=by
 obtain ⟨h0,zh,we,h1,h2,h3,h4⟩:=h;obtain ⟨rfl,rfl,rfl⟩:=by simpa using h1
 rcases h4 with ⟨_,rfl,_⟩ | ⟨g,off,cur,rfl,rfl,hb,hl,hc⟩
 ·omega
 ·exact ⟨g,off,rfl,rfl,hb.lt,fun j hj=>by rw [hb.cell];exact hc j hj,fun j=>hb.free _⟩
end
def zj (P:Program) (t e:TypeId) (sz bytes:Nat) (z:Value):Prop :=
 P.underlying t=some (.slice e)∧(P.info? e).map (fun i=>(i.zero,i.size,i.bytes))=some (some z,sz,bytes)∧z.cells.size=sz∧0 < sz∧0 < bytes
section
variable {P:Program} {t e:TypeId} {sz bytes:Nat} {z:Value}
theorem DF (w:World) (t ty e:TypeId) (i:TypeInfo) (ht:P.underlying t=some (.slice e)) (hi:P.info? e=some i)
  (g off oE wh:Nat) (cur:Array Value) (hg:w.heap[g]?=some (.cells cur e (0,0)))
  (a:Addr) (m c:Nat) (news:List Value) (hl:news.length=m * i.size) (qZ:∀ j u,news[j]?=some u→w.cell? (a.add j)=some u) (h1:∀ u∈news,u.oneCell'=true)
  (q8:oE + m≤wh) (zk:off + oE * i.size + news.length≤cur.size) :
  ∃ tZ,(Builtin.append_ #[t,t] ty #[.slice (some ⟨g,off,none⟩) oE wh,.slice (some a) m c]).run P w =
   .ok (.slice (some ⟨g,off,none⟩) (oE + m) wh) (w.setRow g tZ)∧tZ=(cur.toList.take (off + oE * i.size) ++ news ++ cur.toList.drop (off + oE * i.size + news.length)).toArray:=by
 have hf:=run_firstCells_some (P:=P) w i.size m a m c news hl qZ;have kL:=run_storeCells_at P g (off + oE * i.size) e news 0 cur w hg (by simpa using zk) h1;simp only [Nat.add_zero] at kL;refine ⟨_,?_,rfl⟩;simp [Builtin.append_,run_underlying ht,sizeOf,typeInfo,hi,Builtin.lenOf,q8,hf,Addr.add_lit,kL]
theorem DH (E:zj P t e sz bytes z) (ty:TypeId) {w:World} {v u:Value} {n m:Nat} {xs ys:List Value} {S T:List Nat} (h:Row w v e sz n xs S) (hu:View w u sz m ys T)
  (h1:∀ y∈ys,y.oneCell'=true) (hb:(n + m) * bytes≤140737488355328) :
  ∃ ao cap w' S',(Builtin.append_ #[t,t] ty #[v,u]).run P w=.ok (.slice ao (n + m) cap) w'∧Row w' (.slice ao (n + m) cap) e sz (n + m) (xs ++ ys) S'∧aP S w w'∧(∀ k∈S',k∈S∨w.heap.size≤k) ∧
   (m=0→.slice ao (n + m) cap=v∧w'=w):=by
 obtain ⟨ht,ri,hz,wm,DI⟩:=E;obtain ⟨i,hi,ee,gi,ji⟩:=info_parts ri;clear ri;subst gi;subst ji;have hlen:(xs ++ ys).length=(n + m) * i.size:=by rw [List.length_append,h.1,hu.1,Nat.add_mul]
 have Mb:n + m≤140737488355328:=Nat.le_trans (Nat.le_mul_of_pos_right _ DI) hb;have DJ:n + m≤maxLen:=by simp only [maxLen];omega
 by_cases hm:m=0
 ·subst hm;have hy:ys=[]:=List.eq_nil_of_length_eq_zero (by have:=hu.1;simpa using this);subst hy;obtain ⟨ao,cap,rfl⟩:=h.shape;obtain ⟨bo,rj,rfl⟩:=hu.shape;refine ⟨ao,cap,w,S,?_,by simpa using h,aP.refl _ _,fun k hk=>.inl hk,fun _=>⟨by simp,rfl⟩⟩;obtain ⟨_,zh,we,h1,wq,ua,_⟩:=h;obtain ⟨rfl,rfl⟩:=by simpa using h1
  cases bo with
  | none=>simp [Builtin.append_,run_underlying ht,sizeOf,typeInfo,hi,Builtin.lenOf,Builtin.firstCells,wq];cases ao <;> simp [storeCells]
  | some b =>
   have hf:=run_firstCells_some (P:=P) w i.size 0 b 0 rj [] (by simp) (by simp);simp [Builtin.append_,run_underlying ht,sizeOf,typeInfo,hi,Builtin.lenOf,wq,hf];cases ao <;> simp [storeCells]
 ·obtain ⟨uc,bo,rj,rfl,Mc,Me,DK⟩:=hu;rcases DK with ⟨h0,_⟩ | ⟨ug,DL,rfl,rfl,Mf,DM⟩
  ·omega
  have qZ:∀ j y,ys[j]?=some y→w.cell? ((⟨ug,DL,none⟩:Addr).add j)=some y:=by
   intro j y hy;rw [Addr.add_lit,DM j (List.getElem?_eq_some_iff.1 hy).1];exact hy
  have zl:∀ (old:Nat) (rm:List Value),old < n + m→rm.length=n * i.size→rm=xs →
    Row (w.drew.alloc (.cells (rm.toArray ++ ys.toArray ++ Builtin.zeroCells z.cells (grownCap w (n + m) old e - (n + m))) e)) (.slice (some ⟨w.heap.size,0,none⟩) (n + m) (grownCap w (n + m) old e)) e i.size (n + m) (xs ++ ys) [w.heap.size]:=by
   intro old rm ho me hx;subst hx;have oF:=grownCap_ge w (n + m) old e;have ua:grownCap w (n + m) old e≤maxLen:=grownCap_le_maxLen w (n + m) old e DJ;refine ⟨hlen,_,_,rfl,oF,ua,.inr ⟨w.heap.size,0,(rm.toArray ++ ys.toArray ++ Builtin.zeroCells z.cells (grownCap w (n + m) old e - (n + m))).toList,rfl,rfl,?_,?_,?_⟩⟩
   ·unfold dB;rw [Array.toArray_toList];exact heap_alloc_new w.drew _
   ·simp only [Array.length_toList,Array.size_append,List.size_toArray,size_zeroCells,hz,me,uc,← Nat.add_mul,Nat.zero_add];exact Nat.mul_le_mul_right _ (by omega)
   ·intro j hj;rw [Nat.zero_add];simp only [Array.toList_append,List.append_assoc];rw [← List.append_assoc,List.getElem?_append_left (by simpa using hj)]
  have zm:∀ o:Obj,aP S w (w.drew.alloc o):=fun o=>(aP.refl S w).drew.alloc o
  obtain ⟨hl,ao,cap,rfl,wq,ua,h4⟩:=h;rcases h4 with ⟨rfl,rfl,rfl,rfl⟩ | ⟨g,off,cur,rfl,rfl,hg,zk,hc⟩
  ·have DN:xs=[]:=List.eq_nil_of_length_eq_zero (by simpa using hl);subst DN;have hr:=run_append_nil (P:=P) w t ty e i z ht hi ee _ m rj ys uc qZ (by omega) (by omega) (by have:=hb;simp only [Nat.zero_add] at this;omega);have hI:=zl 0 [] (by omega) (by simp) rfl;simp only [Nat.zero_add,List.nil_append,Array.empty_append] at hI ⊢;exact ⟨_,_,_,_,hr,by simpa using hI,by simpa using zm _,by simp,fun h=>absurd h hm⟩
  ·by_cases q8:n + m≤cap
   ·have DO:off + n * i.size + ys.length≤cur.length:=by
     have:(n + m) * i.size≤cap * i.size:=Nat.mul_le_mul_right _ q8;rw [Nat.add_mul] at this;omega
    obtain ⟨tZ,hr,zn⟩:=DF (P:=P) w t ty e i ht hi g off n cap cur.toArray hg _ m rj ys uc qZ h1 q8 (by simpa using DO);refine ⟨_,_,_,_,hr,⟨hlen,_,_,rfl,q8,ua,.inr ⟨g,off,tZ.toList,rfl,rfl,?_,?_,?_⟩⟩,(aP.refl _ w).setRow (by simp) _,by simp,fun h=>absurd h hm⟩
    ·unfold dB;rw [Array.toArray_toList];exact setRow_heap w g cur.toArray _ e _ hg
    ·rw [zn];simp;omega
    ·intro j hj;rw [zn];simp only
     by_cases zo:j < xs.length
     ·rw [List.append_assoc,List.getElem?_append_left (by simp;omega),List.getElem?_append_left zo,List.getElem?_take,if_pos (by omega)];exact hc j zo
     ·have oG:j < xs.length + ys.length:=by simpa using hj
      have Mg:xs.length≤(n + m) * i.size:=by rw [Nat.add_mul,hl];omega
      have wu:(cur.take (off + n * i.size)).length=off + n * i.size:=by rw [List.length_take];omega
      have e1:(xs ++ ys)[j]?=ys[j - xs.length]?:=List.getElem?_append_right (by omega);rw [e1,List.append_assoc,List.getElem?_append_right (by rw [wu];omega),List.getElem?_append_left (by rw [wu];omega),wu,hl]
      congr 1;omega
   ·have holds:∀ j y,xs[j]?=some y→w.cell? ((⟨g,off,none⟩:Addr).add j)=some y:=by
     intro j y hy;rw [Addr.add_lit,hg.cell,hc j (List.getElem?_eq_some_iff.1 hy).1];exact hy
    have hr:=run_append_grow (P:=P) w t ty e i z ht hi ee ⟨g,off,none⟩ n cap xs hl holds _ m rj ys uc qZ (by omega) (by omega) (growslice_fits (by omega) hb);exact ⟨_,_,_,_,hr,zl cap xs (by omega) hl rfl,zm _,by simp,fun h=>absurd h hm⟩
end
open Go.RowKit Go.ChangeShapes Go.WideShapes Go.Deep
def ud (P:Program) (t:TypeId):Option (Option IntKind):=match P.underlying t with
 | some (.int k)=>some (some k)
 | some .bool=>some none
 | _=>none
section
variable {H:Type} {enc:TypeId × Value→H} {P:Program} {w:World} {base:Nat} {spare:Nat→Bool} {held:Bool}
end
open Go.RowKit
section
variable {w w':World} {v:Value} {l:List Int} {S T:List Nat} {e:TypeId}
end
section
variable {P:Program} {t e:TypeId} {bytes:Nat} {z:Value}
end
open Go.RowKit
section
variable {α:Type} {f:α→List Value} {sz:Nat}
end
section
variable {α:Type} {f:α→List Value} {sz:Nat}
end
section
variable {α:Type} {f:α→List Value} {sz:Nat} {w w':World} {v:Value} {l:List α} {S T:List Nat} {e:TypeId}
end
open Go.RowKit
structure Kept {α:Type} (E:World→List Value→α→List Nat→Prop):Prop where
 ig:∀ {w w':World} {cs:List Value} {a:α} {U T:List Nat},E w cs a U→aP T w w'→(∀ x∈U,x∉T)→E w' cs a U
 lt:∀ {w:World} {cs:List Value} {a:α} {U:List Nat},E w cs a U→∀ x∈U,x < w.heap.size
def chunk (xs:List Value) (sz k:Nat):List Value:=(xs.drop (k * sz)).take sz
theorem zq {xs:List Value} {sz k j:Nat} (hj:j < sz):(chunk xs sz k)[j]?=xs[k * sz + j]?:=by
 unfold chunk;rw [List.getElem?_take,if_pos hj,List.getElem?_drop]
theorem DP {xs:List Value} {sz n k:Nat} (h:xs.length=n * sz) (hk:k < n):(chunk xs sz k).length=sz:=by
 have:(k + 1) * sz≤n * sz:=Nat.mul_le_mul_right _ hk;rw [Nat.add_mul] at this;unfold chunk;rw [List.length_take,List.length_drop];omega
def mh {α:Type} (E:World→List Value→α→List Nat→Prop) (sz:Nat) (w:World) (xs:List Value) (l:List α) (S:List Nat):Prop :=
 ∀ (k:Nat) a,l[k]?=some a→∃ U,E w (chunk xs sz k) a U∧∀ x∈U,x∈S
def GV {α:Type} (E:World→List Value→α→List Nat→Prop) (sz:Nat) (w:World) (v:Value) (l:List α) (S:List Nat):Prop :=
 ∃ xs T,View w v sz l.length xs T∧mh E sz w xs l S∧(∀ x∈T,x∈S)∧(∀ x∈S,x < w.heap.size)∧∀ y∈xs,y.oneCell'=true
section
variable {α:Type} {E:World→List Value→α→List Nat→Prop} {sz:Nat} {w w':World} {v:Value} {l:List α} {S T S2:List Nat} {e:TypeId}
theorem mh.ig (KE:Kept E) {xs:List Value} (h:mh E sz w xs l S) (k:aP T w w') (hn:∀ x∈S,x∉T):mh E sz w' xs l S:=fun i a hi=>by
 obtain ⟨U,h1,h2⟩:=h i a hi;exact ⟨U,KE.ig h1 k (fun x hx=>hn x (h2 x hx)),h2⟩
theorem mh.mono {xs:List Value} (h:mh E sz w xs l S) (hS:∀ x∈S,x∈S2):mh E sz w xs l S2:=fun i a hi=>by
 obtain ⟨U,h1,h2⟩:=h i a hi;exact ⟨U,h1,fun x hx=>hS x (h2 x hx)⟩
theorem GV.ig (KE:Kept E) (h:GV E sz w v l S) (k:aP T w w') (hn:∀ x∈S,x∉T):GV E sz w' v l S:=by
 obtain ⟨xs,U,h1,h2,h3,h4,h5⟩:=h;exact ⟨xs,U,h1.ig k (fun x hx=>hn x (h3 x hx)),h2.ig KE k hn,h3,fun x hx=>Nat.lt_of_lt_of_le (h4 x hx) k.size,h5⟩
theorem GV.then (KE:Kept E) (h:GV E sz w v l S) (k:aP [] w w'):GV E sz w' v l S:=h.ig KE k (by simp)
theorem GV.mono (h:GV E sz w v l S) (hS:∀ x∈S,x∈S2) (hl:∀ x∈S2,x < w.heap.size):GV E sz w v l S2:=by
 obtain ⟨xs,U,h1,h2,h3,h4,h5⟩:=h;exact ⟨xs,U,h1,h2.mono hS,fun x hx=>hS x (h3 x hx),hl,h5⟩
theorem GV.lt (h:GV E sz w v l S):∀ x∈S,x < w.heap.size:=by
 obtain ⟨xs,U,h1,h2,h3,h4,h5⟩:=h;exact h4
theorem GV.shape (h:GV E sz w v l S):∃ ao cap,v=.slice ao l.length cap:=by
 obtain ⟨xs,U,h1,_⟩:=h;exact h1.shape
theorem GV.le (h:GV E sz w v l S):l.length≤maxLen:=by
 obtain ⟨xs,U,h1,_⟩:=h;exact h1.le
theorem GV.get {ao:Option Addr} {m cap:Nat} (h:GV E sz w (.slice ao m cap) l S) {k:Nat} {a:α} (hk:l[k]?=some a) :
  ∃ g off cs U,ao=some ⟨g,off,none⟩∧g∈S∧g < w.heap.size∧cs.length=sz∧(∀ j,j < sz→w.cell? ⟨g,off + (k * sz + j),none⟩=cs[j]?)∧E w cs a U∧∀ x∈U,x∈S:=by
 obtain ⟨xs,T,h1,h2,h3,h4,h5⟩:=h;have iH:=(List.getElem?_eq_some_iff.1 hk).1;obtain ⟨g,off,rfl,rfl,hg,hc⟩:=h1.cell (by omega);obtain ⟨U,he,hU⟩:=h2 k a hk;have hlen:=h1.len;have h6:(k + 1) * sz≤l.length * sz:=Nat.mul_le_mul_right _ iH;rw [Nat.add_mul] at h6;exact ⟨g,off,chunk xs sz k,U,rfl,h3 g (by simp),hg,DP hlen iH,fun j hj=>by rw [hc _ (by omega),zq hj],he,hU⟩
theorem GV.nil (E:World→List Value→α→List Nat→Prop) (sz:Nat) (w:World):GV E sz w (.slice none 0 0) [] [] :=
 ⟨[],[],View.nil w sz,fun k a h=>by simp at h,by simp,by simp,by simp⟩
end
section
variable {α:Type} {F:World→List Value→α→List Nat→Prop} {P:Program} {t e:TypeId} {sz bytes:Nat} {z:Value}
end
open Go.RowKit Go.ChangeShapes Go.WideShapes Go.Deep
section
variable {H:Type} {enc:TypeId × Value→H} {P:Program}
end
theorem DQ {α:Type}:∀ {l:List α},l.length=1→∃ x0,l=[x0]
 | [x0],_=>⟨_,rfl⟩
theorem DR {α:Type}:∀ {l:List α},l.length=2→∃ x0 x1,l=[x0,x1]
 | [x0,x1],_=>⟨_,_,rfl⟩
theorem DS {α:Type}:∀ {l:List α},l.length=3→∃ x0 x1 x2,l=[x0,x1,x2]
 | [x0,x1,x2],_=>⟨_,_,_,rfl⟩
theorem DT {α:Type}:∀ {l:List α},l.length=4→∃ x0 x1 x2 x3,l=[x0,x1,x2,x3]
 | [x0,x1,x2,x3],_=>⟨_,_,_,_,rfl⟩
theorem DU {α:Type}:∀ {l:List α},l.length=6→∃ x0 x1 x2 x3 x4 x5,l=[x0,x1,x2,x3,x4,x5]
 | [x0,x1,x2,x3,x4,x5],_=>⟨_,_,_,_,_,_,rfl⟩
open Go.RowKit Go.ChangeShapes Go.WideShapes Go.Deep
def jH (k:IntKind) (w:World) (cs:List Value) (n:Int) (U:List Nat):Prop:=cs=[.int k n]∧(Lit.int k n).wf=true∧U=[]
def wv (w:World) (cs:List Value) (b:Bool) (U:List Nat):Prop:=cs=[.bool b]∧U=[]
def lG {α:Type} (E:World→List Value→α→List Nat→Prop) (sz:Nat) (w:World) (cs:List Value) (l:List α) (U:List Nat):Prop:=∃ v,cs=[v]∧GV E sz w v l U
theorem zu (k:IntKind):Kept (jH k):=⟨fun h _ _=>h,fun h x hx=>by obtain ⟨_,_,rfl⟩:=h;simp at hx⟩
theorem DV:Kept wv:=⟨fun h _ _=>h,fun h x hx=>by obtain ⟨_,rfl⟩:=h;simp at hx⟩
theorem zw {α:Type} {E:World→List Value→α→List Nat→Prop} {sz:Nat} (K:Kept E):Kept (lG E sz) :=
 ⟨fun h k hn=>by obtain ⟨v,h1,h2⟩:=h;exact ⟨v,h1,h2.ig K k hn⟩,fun h=>by obtain ⟨v,h1,h2⟩:=h;exact h2.lt⟩
structure eI (P:Program) (t:TypeId) {α:Type} (E:World→List Value→α→List Nat→Prop) (sz:Nat):Prop where
 pos:0 < sz
 kept:Kept E
 cells:P.cellsOf t=sz
 op:∀ {H:Type} {enc:TypeId × Value→H} {W:World} {fuel:Nat} {cs:List Value} {x:DataW H × List MemPlace},DataW.trod enc P W 0 (fun _=>true) true fuel t cs=some x→cs.length=sz∧(∀ y∈cs,y.oneCell'=true)∧∃ a U,E W cs a U
section
variable {P:Program} {t e:TypeId}
theorem ue {k:IntKind} (ht:P.underlying t=some (.int k)) (hc:P.cellsOf t=1):eI P t (jH k) 1 :=
 ⟨Nat.one_pos,zu k,hc,fun h=>by
  obtain ⟨n,rfl,_,hw⟩:=DataW.trod_int ht h;exact ⟨rfl,by simp [Value.oneCell'],n,[],rfl,hw,rfl⟩⟩
theorem DW (ht:P.underlying t=some .bool) (hc:P.cellsOf t=1):eI P t wv 1 :=
 ⟨Nat.one_pos,DV,hc,fun h=>by
  obtain ⟨b,rfl,_⟩:=DataW.trod_bool ht h;exact ⟨rfl,by simp [Value.oneCell'],b,[],rfl,rfl⟩⟩
theorem rq {α:Type} {E:World→List Value→α→List Nat→Prop} {sz:Nat} (ht:P.underlying t=some (.slice e)) (hc:P.cellsOf t=1) (he:eI P e E sz):eI P t (lG E sz) 1:=by
 refine ⟨Nat.one_pos,zw he.kept,hc,?_⟩;intro H enc W fuel cs x h;rcases open_slice ht h with ⟨rfl,_⟩ | ⟨a,len,cap,m,n,D,Pl,rfl,hb,hl,hm,DX,_,hx⟩
 ·exact ⟨rfl,by simp [Value.oneCell'],[],[],_,rfl,GV.nil _ _ _⟩
 refine ⟨rfl,by simp [Value.oneCell'],?_⟩
 by_cases hz:len=0
 ·subst hz;exact ⟨[],[],_,rfl,[],[],⟨by simp,_,_,rfl,hl,hm,.inl ⟨rfl,rfl⟩⟩,fun k a h=>by simp at h,by simp,by simp,by simp⟩
 have Mh:len≤m:=by rw [DX];simp;omega
 have pH:∀ k,k < len→∃ gX,gX.length=sz∧(∀ y∈gX,y.oneCell'=true)∧(∀ f,f < sz→W.cell? (a.add (k * sz + f))=gX[f]?)∧∃ b U,E W gX b U:=by
  intro k hk;obtain ⟨gX,h1,h2⟩:=hx k (by omega);rw [he.cells] at h1;obtain ⟨e1,e2,e3⟩:=he.op h2;refine ⟨gX,e1,e2,fun f hf=>?_,e3⟩;obtain ⟨_,_,ru⟩:=World.cells?_some h1;have:=ru f (by omega)
  rwa [Go.Deep.add_add] at this
 obtain ⟨g,off,spot⟩:=a;have wm:=he.pos;obtain ⟨zz,l0,_,c0,b0,U0,_⟩:=pH 0 (by omega);have uf:=c0 0 wm;rw [List.getElem?_eq_getElem (by omega)] at uf;have DY:spot=none:=by simpa [Addr.add] using World.cell?_spot uf
 subst DY;have zA:g < W.heap.size:=by rw [add_plain] at uf;exact block_lt_of_cell uf
 haveI:Inhabited (List Value × α × List Nat):=⟨([],b0,[])⟩
 obtain ⟨F,hF⟩:=choose_lt (α:=List Value × α × List Nat) (p:=fun k y=>y.1.length=sz∧(∀ z∈y.1,z.oneCell'=true)∧(∀ f,f < sz→W.cell? ⟨g,off + (k * sz + f),none⟩=y.1[f]?)∧E W y.1 y.2.1 y.2.2) (fun k hk=>by
  obtain ⟨gX,h1,h2,h3,b,U,h4⟩:=pH k hk;exact ⟨(gX,b,U),h1,h2,fun f hf=>by have:=h3 f hf;rwa [add_plain] at this,h4⟩)
 have DZ:∀ (j:Nat) (l:List Nat),(∀ k∈l,k < len)→(l.flatMap fun k=>(F k).1).length=l.length * sz:=by
  intro j l hl
  induction l with
  | nil=>simp
  | cons k l ih =>
   rw [List.flatMap_cons,List.length_append,(hF k (hl k (by simp))).1,ih (fun q hq=>hl q (by simp [hq])),List.length_cons,Nat.add_mul];omega
 have zB:∀ (f:Nat),f < sz→∀ (l:List Nat),(∀ k∈l,k < len)→∀ (i k:Nat),l[i]?=some k→(l.flatMap fun k=>(F k).1)[i * sz + f]?=(F k).1[f]?:=by
  intro f hf l
  induction l with
  | nil=>intro _ i k h;simp at h
  | cons q l ih =>
   intro hl i k h;have hq:=(hF q (hl q (by simp))).1
   match i with
   | 0 =>
    simp at h;subst h;rw [List.flatMap_cons,List.getElem?_append_left (by omega)];simp
   | i + 1 =>
    have e:(i + 1) * sz=i * sz + sz:=by rw [Nat.add_mul];omega
    rw [List.flatMap_cons,List.getElem?_append_right (by omega),hq,show (i + 1) * sz + f - sz=i * sz + f by omega];exact ih (fun k hk=>hl k (by simp [hk])) i k (by simpa using h)
 have wz:∀ k∈List.range len,k < len:=fun k hk=>List.mem_range.1 hk
 have jI:((List.range len).flatMap fun k=>(F k).1).length=len * sz:=by rw [DZ 0 _ wz];simp
 have hdiv:∀ j,j < len * sz→j / sz < len∧j % sz < sz∧j / sz * sz + j % sz=j:=fun j hj =>
  ⟨Nat.div_lt_of_lt_mul (by rw [Nat.mul_comm];exact hj),Nat.mod_lt _ wm,Nat.div_add_mod' _ _⟩
 refine ⟨(List.range len).map fun k=>(F k).2.1,g :: (List.range len).flatMap fun k=>(F k).2.2,_,rfl,(List.range len).flatMap fun k=>(F k).1,[g],?_,?_,by simp,?_,?_⟩
 ·refine ⟨by rw [jI];simp,_,_,by simp,by simpa using hl,hm,.inr ⟨g,off,rfl,rfl,zA,fun j hj=>?_⟩⟩;rw [jI] at hj;obtain ⟨d1,d2,d3⟩:=hdiv j hj;have h1:=(hF _ d1).2.2.1 _ d2;rw [d3] at h1;have h2:=zB _ d2 _ wz (j / sz) (j / sz) (by simp [d1]);rw [d3] at h2;rw [h1,h2]
 ·intro k b hk;obtain ⟨aZ,rfl⟩:=List.getElem?_eq_some_iff.1 hk;have gj:k < len:=by simpa using aZ
  refine ⟨(F k).2.2,?_,fun y hy=>List.mem_cons_of_mem _ (List.mem_flatMap.2 ⟨k,List.mem_range.2 gj,hy⟩)⟩;have ng:chunk ((List.range len).flatMap fun k=>(F k).1) sz k=(F k).1:=by
   apply List.ext_getElem?;intro f
   by_cases hf:f < sz
   ·rw [zq hf];exact zB f hf _ wz k k (by simp [gj])
   ·rw [List.getElem?_eq_none (by unfold chunk;rw [List.length_take];omega),List.getElem?_eq_none (by rw [(hF k gj).1];omega)]
  rw [ng];simpa using (hF k gj).2.2.2
 ·intro y hy;rcases List.mem_cons.1 hy with rfl | hy
  ·exact zA
  ·obtain ⟨k,hk,hy⟩:=List.mem_flatMap.1 hy;exact he.kept.lt (hF k (List.mem_range.1 hk)).2.2.2 y hy
 ·intro y hy;obtain ⟨k,hk,hy⟩:=List.mem_flatMap.1 hy;exact (hF k (List.mem_range.1 hk)).2.1 y hy
theorem eI.field {α:Type} {E:World→List Value→α→List Nat→Prop} {sz:Nat} {H:Type} {enc:TypeId × Value→H} {W:World} {n:Nat} {cs:List Value} {y:Option (DataW H × List MemPlace)} {f:Field} {off:Nat}
  (he:eI P e E sz) (hf:f.type=e) (ho:f.offset=off) (hy:y.isSome=true) (h:DataW.trod enc P W 0 (fun _=>true) true n f.type ((cs.drop f.offset).take (P.cellsOf f.type))=y) :
  (∀ z∈(cs.drop off).take sz,z.oneCell'=true)∧((cs.drop off).take sz).length=sz∧∃ a U,E W ((cs.drop off).take sz) a U:=by
 obtain ⟨y',rfl⟩:=Option.isSome_iff_exists.1 hy;subst hf ho;rw [he.cells] at h;obtain ⟨h1,h2,h3⟩:=he.op h;exact ⟨h2,h1,h3⟩
theorem eI.D6 {α:Type} {E:World→List Value→α→List Nat→Prop} {H:Type} {enc:TypeId × Value→H} {W:World} {v:Value} {d:DataW H} {p:List MemPlace}
  (he:eI P t E 1) (hv:v.cells=#[v]) (h:DataW.Trod enc P W 0 (fun _=>true) true t v d p):∃ a U,E W [v] a U:=by
 obtain ⟨fuel,wA⟩:=h;have:=(he.op (show DataW.trod enc P W 0 (fun _=>true) true fuel t [v]=some (d,p) by simpa [hv] using wA)).2.2;exact this
theorem eI.row {α:Type} {E:World→List Value→α→List Nat→Prop} {sz:Nat} {H:Type} {enc:TypeId × Value→H} {W:World} {r:Reach} {b0:Nat} {v:Value} {d:DataW H} {p:List MemPlace}
  (he:eI P t (lG E sz) 1) (ht:P.underlying t=some (.slice e)) (hv:Value.okWide P W r b0 t v) (h:DataW.Trod enc P W 0 (fun _=>true) true t v d p):∃ l S,GV E sz W v l S:=by
 obtain ⟨ao,len,cap,rfl⟩:=okWide_slice ht hv;obtain ⟨l,S,v',h1,h2⟩:=he.D6 rfl h;obtain rfl:_=v':=by simpa using h1
 exact ⟨l,S,h2⟩
theorem eI.agg {α:Type} {E:World→List Value→α→List Nat→Prop} {sz:Nat} {fs:Array Field} {H:Type} {enc:TypeId × Value→H} {W:World} {r:Reach} {b0:Nat} {v:Value} {d:DataW H} {p:List MemPlace}
  (he:eI P t E sz) (ht:P.underlying t=some (.struct fs)) (hv:Value.okWide P W r b0 t v) (h:DataW.Trod enc P W 0 (fun _=>true) true t v d p) :
  ∃ cs a U,v=.agg cs∧cs.size=sz∧E W cs.toList a U∧∀ y∈cs.toList,y.oneCell'=true:=by
 obtain ⟨cs,rfl,lH⟩:=okWide_struct ht hv;obtain ⟨fuel,wA⟩:=h;obtain ⟨h1,h2,a,U,h3⟩:=he.op (show DataW.trod enc P W 0 (fun _=>true) true fuel t cs.toList=some (d,p) by simpa [Value.cells] using wA);exact ⟨cs,a,U,rfl,by simpa using h1,h3,h2⟩
end
open Go.RowKit
def KR (k:IntKind) (w:World) (v:Value) (e:TypeId) (l:List Int) (S:List Nat):Prop:=Row w v e 1 l.length (l.map (Value.int k)) S
section
variable {k:IntKind} {w w':World} {v:Value} {l:List Int} {S T:List Nat} {e:TypeId}
end
section
variable {P:Program} {t e:TypeId} {bytes:Nat} {z:Value} {k:IntKind}
end
open Go.RowKit Go.Maps
section
variable {P:Program} {k:TypeId} {w w':World} {b n:Nat} {f:Int→Option Value}
end
open Go.RowKit Go.Maps
section
variable {P:Program} {k:TypeId} {w w':World} {b r n fh:Nat} {f:Int→Option Value} {left:Int→Bool}
end
theorem dB.range {w:World} {g:Nat} {cs:List Value} {t:TypeId} (h:dB w g cs t):w.rangeAt g 0 cs:=fun j v hj=>by
 rw [Nat.zero_add,h.cell];exact hj
section
variable {α:Type} {E:World→List Value→α→List Nat→Prop} {sz:Nat} {w w':World} {l:List α} {S:List Nat}
end
def setFrom (xs:List Value) (j:Nat):List Value→List Value
 | []=>xs
 | c :: cs=>setFrom (xs.set j c) (j + 1) cs
theorem D7:∀ (cs:List Value) (xs:List Value) (j i:Nat),(i < j∨j + cs.length≤i)→(setFrom xs j cs)[i]?=xs[i]?
 | [],xs,j,i,_=>rfl
 | c :: cs,xs,j,i,h=>by
  simp only [List.length_cons] at h;rw [setFrom,D7 cs _ _ _ (by omega),List.getElem?_set_ne (by omega)]
section
variable {e:TypeId} {sz:Nat}
theorem Row.dZ {g off m cap n:Nat} {T:List Nat}:∀ (cs:List Value) (w:World) (xs:List Value) (j:Nat),Row w (.slice (some ⟨g,off,none⟩) m cap) e sz n xs T→j + cs.length≤xs.length →
  Row (w.setCells g (off + j) cs) (.slice (some ⟨g,off,none⟩) m cap) e sz n (setFrom xs j cs) T∧aP T w (w.setCells g (off + j) cs)
 | [],w,xs,j,h,_=>⟨h,aP.refl _ _⟩
 | c :: cs,w,xs,j,h,hl=>by
  simp only [List.length_cons] at hl;obtain ⟨r1,r2⟩:=h.stored j (by omega) c;obtain ⟨r3,r4⟩:=Row.dZ cs _ _ (j + 1) r1 (by simp;omega);exact ⟨r3,r2.trans r4 (fun x hx=>.inl hx)⟩
end
section
variable {α:Type} {E:World→List Value→α→List Nat→Prop} {sz:Nat} {w w':World} {l:List α} {S T:List Nat} {e:TypeId}
end
section
variable {α:Type} {F:World→List Value→α→List Nat→Prop} {P:Program} {t e:TypeId} {sz bytes:Nat} {z:Value}
end
theorem dB.newAt (w:World) (cs:List Value) (e:TypeId) (b:Nat) (hb:b=w.heap.size):dB (w.alloc (.cells cs.toArray e)) b cs e:=by subst hb;exact dB.new w cs e
section
variable {α:Type} {F:World→List Value→α→List Nat→Prop} {P:Program} {t e:TypeId} {sz bytes:Nat} {z:Value}
def D8 (e:TypeId) (w0 w:World) (b:Nat):Prop:=aP [] w0 w∧dB w b [] e∧w0.heap.size≤b
end
section
variable {α:Type} {F:World→List Value→α→List Nat→Prop} {P:Program} {t e:TypeId} {sz bytes:Nat} {z:Value}
theorem eJ (w0:World) (e:TypeId):D8 e w0 (w0.alloc (.cells #[] e)) w0.heap.size:=⟨(aP.refl [] w0).alloc _,dB.newAt w0 [] _ _ rfl,Nat.le_refl _⟩
end
section
variable {α:Type} {E:World→List Value→α→List Nat→Prop} {w:World} {l:List α} {S:List Nat}
end
section
variable {P:Program} {ops:Array Oper} {Q:Exit→Act→World→Prop} {md:Region.Mode} {S:World→Prop} {m:Nat}
def waitsFor (md:Region.Mode) (ops:Array Oper) (m i:Nat):Bool:=match ops[m]? with
 | some o=>o.after.any (fun e=>e.on == i && Region.binds md e)
 | none=>false
theorem wB {i:Nat} {oj:Oper} {aQ:Array Bool} (hr:i∈Region.ready md ops aQ) (mj:∀ e∈oj.after,Region.binds md e=true→aQ.getD e.on false=true):∀ e∈oj.after,Region.binds md e=true→e.on≠i:=fun e he hb heq=>by
 have h1:=mj e he hb;have h0:=(mem_ready.1 hr).1;rw [heq] at h1
 by_cases hl:i < aQ.size
 ·simp [hl] at h0 h1;rw [h0] at h1;cases h1
 ·simp [Array.getElem?_eq_none (Nat.le_of_not_lt hl)] at h1
end
open Go.RowKit
section
variable {w w':World} {v:Value} {es e:TypeId} {ll:List (List Int)} {T S:List Nat} {Us:List (List Nat)}
end
open Go.RowKit
open Go.RowKit
namespace Fl
inductive A where
 | v (x:Value)
 | r (sz:Nat) (l:List (List A))
mutual
def RA (ok:Nat→Prop) (w:World):A→Value→Prop
 | .v y,x=>x=y∧y.oneCell'=true
 | .r sz l,x=>∃ ao cap,x=.slice ao l.length cap∧l.length≤cap∧cap≤maxLen∧(l=[]∨∃ g off,ao=some ⟨g,off,none⟩∧ok g∧g < w.heap.size∧RL ok w l g off sz)
def RL (ok:Nat→Prop) (w:World):List (List A)→Nat→Nat→Nat→Prop
 | [],_,_,_=>True
 | cs :: l,g,off,sz=>(∃ vs:List Value,vs.length=sz∧w.rangeAt g off vs∧RC ok w cs vs)∧RL ok w l g (off + sz) sz
def RC (ok:Nat→Prop) (w:World):List A→List Value→Prop
 | [],vs=>vs=[]
 | a :: cs,vs=>∃ x xs,vs=x :: xs∧RA ok w a x∧RC ok w cs xs
end
def Mon (ok eR:Nat→Prop) (w w':World):Prop:=w.heap.size≤w'.heap.size∧∀ g,g < w.heap.size→ok g→eR g∧w'.heap[g]?=w.heap[g]?
theorem Mon.refl (ok:Nat→Prop) (w:World):Mon ok ok w w:=⟨Nat.le_refl _,fun g _ h=>⟨h,rfl⟩⟩
theorem Mon.jJ {ok eR:Nat→Prop} {S:List Nat} {w w':World} (k:aP S w w') (h:∀ g,g < w.heap.size→ok g→eR g∧g∉S):Mon ok eR w w' :=
 ⟨k.size,fun g hg ho=>⟨(h g hg ho).1,k.block g hg (h g hg ho).2⟩⟩
theorem rangeAt_of_block {w w':World} {g off:Nat} {vs:List Value} (h:w.rangeAt g off vs) (e:w'.heap[g]?=w.heap[g]?):w'.rangeAt g off vs:=fun j v hj=>by
 rw [World.cell?_of_block (w:=w) e];exact h j v hj
mutual
theorem RA.cD {ok eR:Nat→Prop} {w w':World} (m:Mon ok eR w w'):∀ (a:A) (x:Value),RA ok w a x→RA eR w' a x
 | .v y,x,h=>by unfold RA at h ⊢;exact h
 | .r sz l,x,h=>by
  unfold RA at h ⊢;obtain ⟨ao,cap,h1,h2,h3,h4⟩:=h;refine ⟨ao,cap,h1,h2,h3,?_⟩;rcases h4 with h4 | ⟨g,off,h4,h5,h6,h7⟩
  ·exact .inl h4
  ·exact .inr ⟨g,off,h4,(m.2 g h6 h5).1,Nat.lt_of_lt_of_le h6 m.1,RL.cD m l g off sz (m.2 g h6 h5).2 h7⟩
theorem RL.cD {ok eR:Nat→Prop} {w w':World} (m:Mon ok eR w w'):∀ (l:List (List A)) (g off sz:Nat),w'.heap[g]?=w.heap[g]?→RL ok w l g off sz→RL eR w' l g off sz
 | [],_,_,_,_,_=>by unfold RL;trivial
 | cs :: l,g,off,sz,e,h=>by
  unfold RL at h ⊢;obtain ⟨⟨vs,h1,h2,h3⟩,h4⟩:=h;exact ⟨⟨vs,h1,rangeAt_of_block h2 e,RC.cD m cs vs h3⟩,RL.cD m l g (off + sz) sz e h4⟩
theorem RC.cD {ok eR:Nat→Prop} {w w':World} (m:Mon ok eR w w'):∀ (cs:List A) (vs:List Value),RC ok w cs vs→RC eR w' cs vs
 | [],vs,h=>by unfold RC at h ⊢;exact h
 | a :: cs,vs,h=>by
  unfold RC at h ⊢;obtain ⟨x,xs,h1,h2,h3⟩:=h;exact ⟨x,xs,h1,RA.cD m a x h2,RC.cD m cs xs h3⟩
end
section
variable {ok:Nat→Prop} {w:World}
theorem RA.one {a:A} {x:Value} (h:RA ok w a x):x.oneCell'=true:=by
 cases a with
 | v y=>unfold RA at h;obtain ⟨rfl,h⟩:=h;exact h
 | r sz l=>unfold RA at h;obtain ⟨ao,cap,rfl,_⟩:=h;rfl
theorem RC.len:∀ {cs:List A} {vs:List Value},RC ok w cs vs→vs.length=cs.length
 | [],vs,h=>by unfold RC at h;simp [h]
 | a :: cs,vs,h=>by unfold RC at h;obtain ⟨x,xs,rfl,_,h⟩:=h;simp [RC.len h]
theorem RC.one:∀ {cs:List A} {vs:List Value},RC ok w cs vs→∀ v∈vs,v.oneCell'=true
 | [],vs,h=>by unfold RC at h;simp [h]
 | a :: cs,vs,h=>by
  unfold RC at h;obtain ⟨x,xs,rfl,h1,h⟩:=h;intro v hv;rcases List.mem_cons.1 hv with rfl | hv
  ·exact h1.one
  ·exact h.one v hv
theorem RC.nil:RC ok w [] []:=by unfold RC;rfl
theorem RC.cons {a:A} {x:Value} {cs:List A} {xs:List Value} (h:RA ok w a x) (k:RC ok w cs xs):RC ok w (a :: cs) (x :: xs):=by unfold RC;exact ⟨x,xs,rfl,h,k⟩
theorem RC.get:∀ {cs:List A} {vs:List Value} (k:Nat) {a:A},RC ok w cs vs→cs[k]?=some a→∃ x,vs[k]?=some x∧RA ok w a x
 | [],vs,k,a,h,e=>by simp at e
 | b :: cs,vs,0,a,h,e=>by
  unfold RC at h;obtain ⟨x,xs,rfl,h1,h⟩:=h;simp at e;subst e;exact ⟨x,rfl,h1⟩
 | b :: cs,vs,k + 1,a,h,e=>by
  unfold RC at h;obtain ⟨x,xs,rfl,h1,h⟩:=h;simp at e;simpa using RC.get k h e
theorem RC.set:∀ {cs:List A} {vs:List Value} (k:Nat) {a:A} {x:Value},RC ok w cs vs→RA ok w a x→RC ok w (cs.set k a) (vs.set k x)
 | [],vs,k,a,x,h,e=>by unfold RC at h;subst h;simp [RC.nil]
 | b :: cs,vs,0,a,x,h,e=>by
  unfold RC at h;obtain ⟨y,ys,rfl,h1,h⟩:=h;exact RC.cons e h
 | b :: cs,vs,k + 1,a,x,h,e=>by
  unfold RC at h;obtain ⟨y,ys,rfl,h1,h⟩:=h;exact RC.cons h1 (RC.set k h e)
theorem RC.app:∀ {cs ds:List A} {vs us:List Value},RC ok w cs vs→RC ok w ds us→RC ok w (cs ++ ds) (vs ++ us)
 | [],ds,vs,us,h,k=>by unfold RC at h;subst h;exact k
 | a :: cs,ds,vs,us,h,k=>by
  unfold RC at h;obtain ⟨x,xs,rfl,h1,h⟩:=h;exact RC.cons h1 (RC.app h k)
theorem RC.drop:∀ (n:Nat) {cs:List A} {vs:List Value},RC ok w cs vs→RC ok w (cs.drop n) (vs.drop n)
 | 0,cs,vs,h=>h
 | n + 1,[],vs,h=>by unfold RC at h;subst h;exact RC.nil
 | n + 1,a :: cs,vs,h=>by
  unfold RC at h;obtain ⟨x,xs,rfl,h1,h⟩:=h;exact RC.drop n h
theorem RC.take:∀ (n:Nat) {cs:List A} {vs:List Value},RC ok w cs vs→RC ok w (cs.take n) (vs.take n)
 | 0,cs,vs,h=>by simpa using RC.nil
 | n + 1,[],vs,h=>by unfold RC at h;subst h;exact RC.nil
 | n + 1,a :: cs,vs,h=>by
  unfold RC at h;obtain ⟨x,xs,rfl,h1,h⟩:=h;exact RC.cons h1 (RC.take n h)
theorem RL.get:∀ {l:List (List A)} {g off sz:Nat} (k:Nat) {cs:List A},RL ok w l g off sz→l[k]?=some cs→∃ vs:List Value,vs.length=sz∧w.rangeAt g (off + k * sz) vs∧RC ok w cs vs
 | [],g,off,sz,k,cs,h,e=>by simp at e
 | c :: l,g,off,sz,0,cs,h,e=>by
  unfold RL at h;simp at e;subst e;simpa using h.1
 | c :: l,g,off,sz,k + 1,cs,h,e=>by
  unfold RL at h;simp at e;have:=RL.get k h.2 e;rw [show off + (k + 1) * sz=off + sz + k * sz by rw [Nat.add_mul];omega];exact this
theorem RL.drop:∀ {l:List (List A)} {g off sz:Nat} (n:Nat),RL ok w l g off sz→RL ok w (l.drop n) g (off + n * sz) sz
 | l,g,off,sz,0,h=>by simpa using h
 | [],g,off,sz,n + 1,h=>by simp;unfold RL;trivial
 | c :: l,g,off,sz,n + 1,h=>by
  unfold RL at h;have:=RL.drop n h.2;rw [show off + (n + 1) * sz=off + sz + n * sz by rw [Nat.add_mul];omega];exact this
theorem RL.take:∀ {l:List (List A)} {g off sz:Nat} (n:Nat),RL ok w l g off sz→RL ok w (l.take n) g off sz
 | l,g,off,sz,0,h=>by simp;unfold RL;trivial
 | [],g,off,sz,n + 1,h=>by simp;unfold RL;trivial
 | c :: l,g,off,sz,n + 1,h=>by
  unfold RL at h;simp only [List.take_succ_cons];unfold RL;exact ⟨h.1,RL.take n h.2⟩
end
inductive D where
 | c (a:A)
 | agg (cs:List A)
 | aU (l:List D)
 | el (cs:List A) (o:Nat)
 | ow (v:Value) (sz k o:Nat)
 | any
mutual
def RD (ok:Nat→Prop) (w:World):D→Value→Prop
 | .c a,x=>RA ok w a x
 | .agg cs,x=>∃ vs:List Value,x=.agg vs.toArray∧RC ok w cs vs
 | .aU l,x=>∃ vs:List Value,x=.tuple vs.toArray∧bU ok w l vs
 | .el cs o,x=>∃ g off,∃ vs:List Value,x=.pointer (some ⟨g,off + o,none⟩)∧ok g∧g < w.heap.size∧w.rangeAt g off vs∧RC ok w cs vs
 | .ow v sz k o,x=>∃ g off n cap,v=.slice (some ⟨g,off,none⟩) n cap∧x=.pointer (some ⟨g,off + k * sz + o,none⟩)
 | .any,_=>True
def bU (ok:Nat→Prop) (w:World):List D→List Value→Prop
 | [],vs=>vs=[]
 | d :: l,vs=>∃ x xs,vs=x :: xs∧RD ok w d x∧bU ok w l xs
end
mutual
theorem RD.cD {ok eR:Nat→Prop} {w w':World} (m:Mon ok eR w w'):∀ (d:D) (x:Value),RD ok w d x→RD eR w' d x
 | .c a,x,h=>by unfold RD at h ⊢;exact RA.cD m a x h
 | .agg cs,x,h=>by unfold RD at h ⊢;obtain ⟨vs,h1,h2⟩:=h;exact ⟨vs,h1,RC.cD m cs vs h2⟩
 | .aU l,x,h=>by unfold RD at h ⊢;obtain ⟨vs,h1,h2⟩:=h;exact ⟨vs,h1,bU.cD m l vs h2⟩
 | .el cs o,x,h=>by
  unfold RD at h ⊢;obtain ⟨g,off,vs,h1,h2,h3,h4,h5⟩:=h;exact ⟨g,off,vs,h1,(m.2 g h3 h2).1,Nat.lt_of_lt_of_le h3 m.1,rangeAt_of_block h4 (m.2 g h3 h2).2,RC.cD m cs vs h5⟩
 | .ow v sz k o,x,h=>by unfold RD at h ⊢;exact h
 | .any,x,h=>by unfold RD;trivial
theorem bU.cD {ok eR:Nat→Prop} {w w':World} (m:Mon ok eR w w'):∀ (l:List D) (vs:List Value),bU ok w l vs→bU eR w' l vs
 | [],vs,h=>by unfold bU at h ⊢;exact h
 | d :: l,vs,h=>by
  unfold bU at h ⊢;obtain ⟨x,xs,h1,h2,h3⟩:=h;exact ⟨x,xs,h1,RD.cD m d x h2,bU.cD m l xs h3⟩
end
theorem bU.nil {ok:Nat→Prop} {w:World}:bU ok w [] []:=by unfold bU;rfl
theorem bU.cons {ok:Nat→Prop} {w:World} {d:D} {x:Value} {l:List D} {xs:List Value} (h:RD ok w d x) (k:bU ok w l xs):bU ok w (d :: l) (x :: xs):=by unfold bU;exact ⟨x,xs,rfl,h,k⟩
theorem bU.len {ok:Nat→Prop} {w:World}:∀ {l:List D} {vs:List Value},bU ok w l vs→vs.length=l.length
 | [],vs,h=>by unfold bU at h;simp [h]
 | a :: cs,vs,h=>by unfold bU at h;obtain ⟨x,xs,rfl,_,h⟩:=h;simp [bU.len h]
theorem bU.get {ok:Nat→Prop} {w:World}:∀ {l:List D} {vs:List Value} (k:Nat) {d:D},bU ok w l vs→l[k]?=some d→∃ x,vs[k]?=some x∧RD ok w d x
 | [],vs,k,a,h,e=>by simp at e
 | b :: cs,vs,0,a,h,e=>by
  unfold bU at h;obtain ⟨x,xs,rfl,h1,h⟩:=h;simp at e;subst e;exact ⟨x,rfl,h1⟩
 | b :: cs,vs,k + 1,a,h,e=>by
  unfold bU at h;obtain ⟨x,xs,rfl,h1,h⟩:=h;simp at e;simpa using bU.get k h e
def de:Value→List Nat
 | .slice (some a) _ _=>[a.block]
 | _=>[]
def RX (ok:Nat→Prop) (w:World) (sz:Nat):List (List A)→List Value→Prop
 | [],xs=>xs=[]
 | cs :: l,xs=>∃ vs ys,xs=vs ++ ys∧vs.length=sz∧RC ok w cs vs∧RX ok w sz l ys
inductive ak where
 | box (b:Nat) (t:TypeId) (cs:List A)
 | row (v:Value) (e:TypeId) (sz:Nat) (l:List (List A))
 | obj (T:List Nat) (Φ:World→Prop)
def ak.cA:ak→List Nat
 | .box b _ _=>[b]
 | .row v _ _ _=>de v
 | .obj T _=>T
def ak.holds (ok:Nat→Prop) (w:World):ak→Prop
 | .box b t cs=>∃ vs,dB w b vs t∧RC ok w cs vs
 | .row v e sz l=>∃ xs,Row w v e sz l.length xs (de v)∧RX ok w sz l xs
 | .obj T Φ=>(∀ x∈T,x < w.heap.size)∧∀ w' S,aP S w w'→(∀ x∈T,x∉S)→Φ w'
theorem RX.cD {ok eR:Nat→Prop} {w w':World} (m:Mon ok eR w w') {sz:Nat}:∀ (l:List (List A)) (xs:List Value),RX ok w sz l xs→RX eR w' sz l xs
 | [],xs,h=>h
 | cs :: l,xs,h=>by
  obtain ⟨vs,ys,h1,h2,h3,h4⟩:=h;exact ⟨vs,ys,h1,h2,RC.cD m cs vs h3,RX.cD m l ys h4⟩
theorem RX.one {ok:Nat→Prop} {w:World} {sz:Nat}:∀ {l:List (List A)} {xs:List Value},RX ok w sz l xs→∀ v∈xs,v.oneCell'=true
 | [],xs,h=>by unfold RX at h;simp [h]
 | cs :: l,xs,h=>by
  obtain ⟨vs,ys,rfl,h2,h3,h4⟩:=h;intro v hv;rcases List.mem_append.1 hv with hv | hv
  ·exact h3.one v hv
  ·exact h4.one v hv
theorem RX.app {ok:Nat→Prop} {w:World} {sz:Nat}:∀ {l m:List (List A)} {xs ys:List Value},RX ok w sz l xs→RX ok w sz m ys→RX ok w sz (l ++ m) (xs ++ ys)
 | [],m,xs,ys,h,k=>by unfold RX at h;subst h;exact k
 | cs :: l,m,xs,ys,h,k=>by
  obtain ⟨vs,us,rfl,h2,h3,h4⟩:=h;exact ⟨vs,us ++ ys,by simp,h2,h3,RX.app h4 k⟩
theorem RX.len {ok:Nat→Prop} {w:World} {sz:Nat}:∀ {l:List (List A)} {xs:List Value},RX ok w sz l xs→xs.length=l.length * sz
 | [],xs,h=>by unfold RX at h;simp [h]
 | cs :: l,xs,h=>by
  obtain ⟨vs,us,rfl,h2,h3,h4⟩:=h;have:=RX.len h4;simp [this,h2,Nat.add_mul,Nat.add_comm]
theorem RX.get {ok:Nat→Prop} {w:World} {sz:Nat}:∀ {l:List (List A)} {xs:List Value} (k:Nat) {cs:List A},RX ok w sz l xs→l[k]?=some cs→∃ vs:List Value,vs.length=sz∧(∀ j,j < sz→xs[k * sz + j]?=vs[j]?)∧RC ok w cs vs
 | [],xs,k,cs,h,e=>by simp at e
 | c :: l,xs,0,cs,h,e=>by
  obtain ⟨vs,ys,rfl,h2,h3,h4⟩:=h;simp at e;subst e;exact ⟨vs,h2,fun j hj=>by rw [Nat.zero_mul,Nat.zero_add,List.getElem?_append_left (by omega)],h3⟩
 | c :: l,xs,k + 1,cs,h,e=>by
  obtain ⟨vs,ys,rfl,h2,h3,h4⟩:=h;simp at e;obtain ⟨us,g1,g2,g3⟩:=RX.get k h4 e;exact ⟨us,g1,fun j hj=>by
   rw [← g2 j hj,List.getElem?_append_right (by rw [h2,Nat.add_mul];omega),h2]
   congr 1;rw [Nat.add_mul];omega,g3⟩
theorem RX.set {ok:Nat→Prop} {w:World} {sz:Nat}:∀ {l:List (List A)} {xs:List Value} (k o:Nat) {cs:List A} {a:A} {x:Value},RX ok w sz l xs→l[k]?=some cs→o < sz→RA ok w a x→RX ok w sz (l.set k (cs.set o a)) (xs.set (k * sz + o) x)
 | [],xs,k,o,cs,a,x,h,e,ho,ha=>by simp at e
 | c :: l,xs,0,o,cs,a,x,h,e,ho,ha=>by
  obtain ⟨vs,ys,rfl,h2,h3,h4⟩:=h;simp at e;subst e;refine ⟨vs.set o x,ys,?_,by simpa using h2,RC.set o h3 ha,h4⟩;rw [Nat.zero_mul,Nat.zero_add,List.set_append_left _ _ (by omega)]
 | c :: l,xs,k + 1,o,cs,a,x,h,e,ho,ha=>by
  obtain ⟨vs,ys,rfl,h2,h3,h4⟩:=h;simp at e;refine ⟨vs,ys.set (k * sz + o) x,?_,h2,h3,RX.set k o h4 e ho ha⟩;rw [List.set_append_right _ _ (by rw [h2,Nat.add_mul];omega),h2]
  congr 2;rw [Nat.add_mul];omega
theorem ak.holds.cD {ok eR:Nat→Prop} {w w':World} {S:List Nat} (k:aP S w w') (m:Mon ok eR w w'):∀ {r:ak},r.holds ok w→(∀ x∈r.cA,x∉S)→r.holds eR w'
 | .box b t cs,h,hn=>by
  obtain ⟨vs,h1,h2⟩:=h;exact ⟨vs,h1.ig k (hn b (by simp [ak.cA])),RC.cD m cs vs h2⟩
 | .row v e sz l,h,hn=>by
  obtain ⟨xs,h1,h2⟩:=h;exact ⟨xs,h1.ig k hn,RX.cD m l xs h2⟩
 | .obj T Φ,h,hn=>by
  exact ⟨fun x hx=>Nat.lt_of_lt_of_le (h.1 x hx) k.size,fun D9 S' k' Ea=>h.2 D9 (S ++ S') ((k.mono (fun x hx=>.inl (List.mem_append_left S' hx))).trans k' (fun x hx=>.inl (List.mem_append_right S hx))) (fun x hx hm=>by
   rcases List.mem_append.1 hm with hm | hm
   ·exact hn x hx hm
   ·exact Ea x hx hm)⟩
theorem ak.holds.lt {ok:Nat→Prop} {w:World}:∀ {r:ak},r.holds ok w→∀ x∈r.cA,x < w.heap.size
 | .box b t cs,h,x,hx=>by
  obtain ⟨vs,h1,h2⟩:=h;simp [ak.cA] at hx;subst hx;exact h1.lt
 | .row v e sz l,h,x,hx=>by obtain ⟨xs,h1,h2⟩:=h;exact h1.lt x hx
 | .obj T Φ,h,x,hx=>h.1 x hx
def bL (L:List ak):List Nat:=L.flatMap ak.cA
theorem cZ {L:List ak} {x:Nat}:x∈bL L↔∃ r∈L,x∈r.cA:=by simp [bL]
end Fl
open Go.RowKit
namespace Fl
structure Cx where
 F:FuncId
 R:Ending→World→Prop
 rz:List Nat
 Eb:Nat→Prop
 e:World
 N:Nat
abbrev Fm:=List (Nat × D)
def look:Fm→Nat→Option D
 | [],_=>none
 | (k,d) :: f,t=>cond (Nat.beq k t) (some d) (look f t)
def bz (c:Cx) (L:List ak) (x:Nat):Prop:=(c.Eb x∨x∈c.rz∨c.e.heap.size≤x)∧x∉bL L
def fC (L:List ak):Prop:=L.Pairwise (fun r s=>∀ x∈r.cA,x∉s.cA)
structure St (c:Cx) (f:Fm) (L:List ak) (a:Act) (w:World):Prop where
 kp:aP c.rz c.e w
 size:a.tmps.size=c.N
 jj:a.defers=[]
 res:∀ r∈L,r.holds (bz c L) w
 dS:∀ x∈bL L,x∈c.rz∨c.e.heap.size≤x
 ap:fC L
 fr:∀ t d,look f t=some d→RD (bz c L) w d (a.tmps.getD t undef)
theorem St.lt {c:Cx} {f:Fm} {L:List ak} {a:Act} {w:World} (h:St c f L a w):∀ x∈bL L,x < w.heap.size:=fun x hx=>by
 obtain ⟨r,hr,hx⟩:=cZ.1 hx;exact (h.res r hr).lt x hx
def ij (P:Program) (c:Cx) (k:List Item) (a:Act) (w:World):Prop :=
 ∀ (b:Frame) (cs:List Frame),b.fn=c.F→b.kind=.normal→∃ en w' fr,c.R en w'∧Comes P (lone (b.at a k) cs w) (lone fr cs w') en∧fr.fn=c.F∧fr.leaving P w' en
structure J (P:Program) (c:Cx) (k:List Item) (f:Fm) (L:List ak):Prop where
 go:∀ a w,St c f L a w→ij P c k a w
theorem ij.step {P:Program} {c:Cx} {k k':List Item} {a a':Act} {w w':World} (h:ij P c k' a' w') (hs:∀ (b:Frame) (cs:List Frame),step P (lone (b.at a k) cs w)=.next (lone (b.at a' k') cs w')):ij P c k a w:=fun b cs hb hk=>by
 obtain ⟨en,w2,fr,h1,h2,h3⟩:=h b cs hb hk;exact ⟨en,w2,fr,h1,h2.of_steps (.one (hs b cs)),h3⟩
theorem ij.wp {P:Program} {c:Cx} {k:List Item} {x:Code} {a:Act} {w:World} (h:x.wp P (fun e a' w'=>e=.normal∧ij P c k a' w') a w):ij P c (.code x :: k) a w:=fun b cs hb hk=>by
 obtain ⟨e,a',w',⟨rfl,hr⟩,Ec⟩:=h b k cs;obtain ⟨en,w2,fr,h1,h2,h3⟩:=hr b cs hb hk;exact ⟨en,w2,fr,h1,h2.of_steps Ec,h3⟩
section
variable {P:Program} {c:Cx} {k:List Item} {f:Fm} {L:List ak}
theorem J.seq {x y:Code} (h:J P c (.code x :: .code y :: k) f L):J P c (.code (.seq x y) :: k) f L:=⟨fun a w s=>(h.go a w s).step fun _ _=>step_seq⟩
theorem J.skip (h:J P c k f L):J P c (.code .skip :: k) f L:=⟨fun a w s=>(h.go a w s).step fun _ _=>step_skip⟩
theorem J.block {id:Nat} {x:Code} (h:J P c (.code x :: .inBlock id :: k) f L):J P c (.code (.block id x) :: k) f L:=⟨fun a w s=>(h.go a w s).step fun _ _=>step_block⟩
theorem J.inBlock {id:Nat} (h:J P c k f L):J P c (.inBlock id :: k) f L:=⟨fun a w s=>(h.go a w s).step fun _ _=>step_inBlock⟩
theorem J.exit {id:Nat} {k':List Item} (e:exitTo id k=some k') (h:J P c k' f L):J P c (.code (.exit id) :: k) f L:=⟨fun a w s=>(h.go a w s).step fun _ _=>step_exit e⟩
def aY (f:Fm):Operand→Option D
 | .tmp t=>look f t
 | .const v=>cond v.oneCell' (some (.c (.v v))) none
 | .global g=>some (.c (.v (.pointer (some ⟨g,0,none⟩))))
 | .func fn=>some (.c (.v (.func (.func fn) #[] #[])))
theorem St.ev {a:Act} {w:World} (s:St c f L a w) {x:Operand} {d:D} (h:aY f x=some d):RD (bz c L) w d (a.eval x):=by
 cases x with
 | tmp t=>exact s.fr t d h
 | const v =>
  simp only [aY] at h
  cases ho:v.oneCell' with
  | false=>rw [ho] at h;cases h
  | true=>rw [ho] at h;cases h;unfold RD RA;exact ⟨rfl,ho⟩
 | global g=>unfold aY at h;cases h;unfold RD RA;exact ⟨rfl,rfl⟩
 | func g=>unfold aY at h;cases h;unfold RD RA;exact ⟨rfl,rfl⟩
theorem St.val {a:Act} {w:World} (s:St c f L a w) {x:Operand} {v:Value} (h:aY f x=some (.c (.v v))):a.eval x=v:=by
 have:=s.ev h;unfold RD RA at this;exact this.1
theorem J.cond {x y:Code} {t:Operand} {b:Bool} (hc:aY f t=some (.c (.v (.bool b)))) (ht:b=true→J P c (.code x :: k) f L) (hf:b=false→J P c (.code y :: k) f L):J P c (.code (.cond t x y) :: k) f L:=⟨fun a w s=>by
 have hv:=s.val hc
 cases b with
 | true=>exact ((ht rfl).go a w s).step fun _ _=>step_cond hv
 | false=>exact ((hf rfl).go a w s).step fun _ _=>step_cond hv⟩
theorem J.eZ {x y:Code} {t:Operand} (hc:aY f t=some (.c (.v (.bool true)))) (ht:J P c (.code x :: k) f L):J P c (.code (.cond t x y) :: k) f L:=J.cond hc (fun _=>ht) (fun h=>by cases h)
theorem J.eK {x y:Code} {t:Operand} (hc:aY f t=some (.c (.v (.bool false)))) (hf:J P c (.code y :: k) f L):J P c (.code (.cond t x y) :: k) f L:=J.cond hc (fun h=>by cases h) (fun _=>hf)
theorem J.loop {x:Code} {ι:Type} (fi:ι→Fm) (Li:ι→List ak) (μ:ι→Nat) (i0:ι) (h0:∀ X,J P c X (fi i0) (Li i0)→J P c X f L)
  (round:∀ i,(∀ i',μ i' < μ i→J P c (.inLoop x :: k) (fi i') (Li i'))→J P c (.code x :: .inLoop x :: k) (fi i) (Li i)):J P c (.code (.loop x) :: k) f L:=by
 have key:∀ n i,μ i=n→J P c (.code x :: .inLoop x :: k) (fi i) (Li i):=by
  intro n
  induction n using Nat.strongRecOn with
  | _ n ih =>
   intro i hi;exact round i fun i' gq=>⟨fun a w s=>((ih (μ i') (hi ▸ gq) i' rfl).go a w s).step fun _ _=>step_inLoop⟩
 have h1:=h0 _ (key _ i0 rfl);exact ⟨fun a w s=>(h1.go a w s).step fun _ _=>step_loop⟩
theorem J.less {f':Fm} (hs:∀ t d,look f' t=some d→look f t=some d) (h:J P c k f' L):J P c k f L:=⟨fun a w s =>
 h.go a w ⟨s.kp,s.size,s.jj,s.res,s.dS,s.ap,fun t d ht=>s.fr t d (hs t d ht)⟩⟩
def pI (f:Fm):Fm→Prop
 | []=>True
 | (t,d) :: f'=>look f t=some d∧pI f f'
theorem pI.look {f:Fm}:∀ {f':Fm},pI f f'→∀ t d,look f' t=some d→look f t=some d
 | [],_,t,d,h=>by simp [Fl.look] at h
 | (s,e) :: f',ho,t,d,h=>by
  simp only [Fl.look] at h
  cases hb:Nat.beq s t with
  | true =>
   rw [hb] at h;have:s=t:=Nat.eq_of_beq_eq_true hb;subst this;simp at h;subst h;exact ho.1
  | false=>rw [hb] at h;exact pI.look ho.2 t d h
theorem J.only (f':Fm) (ho:pI f f') (h:J P c k f' L):J P c k f L:=J.less ho.look h
theorem rA {α:Type}:∀ (L:List α) (i:Nat) {r:α},L[i]?=some r→(r :: L.eraseIdx i).Perm L
 | [],i,r,h=>by simp at h
 | x :: L,0,r,h=>by simp at h;subst h;simp
 | x :: L,i + 1,r,h=>by
  simp at h;simp only [List.eraseIdx_cons_succ];exact (List.Perm.swap x r _).trans ((rA L i h).cons x)
theorem J.pull (i:Nat) {r:ak} (hi:L[i]?=some r) (h:J P c k f (r :: L.eraseIdx i)):J P c k f L:=⟨fun a w s=>by
 have hp:(r :: L.eraseIdx i).Perm L:=rA L i hi;have hm:∀ x,x∈bL (r :: L.eraseIdx i)↔x∈bL L:=fun x=>by
  rw [cZ,cZ];exact ⟨fun ⟨q,hq,hx⟩=>⟨q,hp.mem_iff.1 hq,hx⟩,fun ⟨q,hq,hx⟩=>⟨q,hp.mem_iff.2 hq,hx⟩⟩
 have ho:bz c (r :: L.eraseIdx i)=bz c L:=by
  funext x;unfold bz;rw [hm]
 refine h.go a w ⟨s.kp,s.size,s.jj,fun q hq=>by rw [ho];exact s.res q (hp.mem_iff.1 hq),fun x hx=>s.dS x ((hm x).1 hx),?_,fun t d ht=>by rw [ho];exact s.fr t d ht⟩;exact (hp.pairwise_iff (fun {x y} mq z hz rB=>mq z rB hz)).2 s.ap⟩
theorem J.drop (i:Nat) (h:J P c k f (L.eraseIdx i)):J P c k f L:=⟨fun a w s=>by
 have hm:∀ q,q∈L.eraseIdx i→q∈L:=fun q hq=>List.mem_of_mem_eraseIdx hq
 have hf:∀ x,x∈bL (L.eraseIdx i)→x∈bL L:=fun x hx=>by
  obtain ⟨q,hq,hx⟩:=cZ.1 hx;exact cZ.2 ⟨q,hm q hq,hx⟩
 have mo:Mon (bz c L) (bz c (L.eraseIdx i)) w w:=⟨Nat.le_refl _,fun g _ hg=>⟨⟨hg.1,fun hx=>hg.2 (hf g hx)⟩,rfl⟩⟩
 exact h.go a w ⟨s.kp,s.size,s.jj,fun q hq=>(s.res q (hm q hq)).cD (aP.refl [] w) mo (by simp),fun x hx=>s.dS x (hf x hx),s.ap.sublist (List.eraseIdx_sublist L i),fun t d ht=>RD.cD mo d _ (s.fr t d ht)⟩⟩
end
end Fl
open Go.RowKit
namespace Fl
def rC (P:Program) (T:TypeId) (k:Nat):Option Nat:=match P.underlying T with
 | some (.struct fs)=>match fs[k]? with
  | some f=>match P.info? f.type with
   | some i=>if i.size=0 then none else some f.offset
   | none=>none
  | none=>none
 | _=>none
def gY (P:Program) (T:TypeId):Option Nat:=(P.info? T).map (·.size)
def jm (P:Program) (T:TypeId):Option Bool:=match P.underlying T with
 | some (.struct _) | some (.array _ _)=>some true
 | some _=>some false
 | none=>none
def jK (P:Program) (T:TypeId):Option TypeId:=match P.underlying T with
 | some (.slice e)=>some e
 | _=>none
def ni (P:Program) (T:TypeId):Option (List Value):=(P.info? T).bind (fun i=>i.zero.map (·.cells.toList))
def pJ (P:Program) (T:TypeId):Option IntKind:=match P.underlying T with
 | some (.int k)=>some k
 | _=>none
class bK (P:Program) (T:TypeId) (k:Nat) (off:outParam Nat):Prop where h:rC P T k=some off:=by kernel_rfl
class fU (P:Program) (T:TypeId):Prop where h:jm P T=some false:=by kernel_rfl
class gL (P:Program) (T:TypeId) (n:outParam Nat):Prop where
 h:jm P T=some true:=by kernel_rfl
 s:gY P T=some n:=by kernel_rfl
class ez (P:Program) (T:TypeId) (e:outParam TypeId) (sz:outParam Nat):Prop where
 h:jK P T=some e:=by kernel_rfl
 s:gY P e=some sz:=by kernel_rfl
class eD (P:Program) (T:TypeId) (n:outParam Nat):Prop where h:gY P T=some n:=by kernel_rfl
class Mi (P:Program) (T:TypeId) (zs:outParam (List Value)):Prop where h:ni P T=some zs:=by kernel_rfl
def pK (P:Program) (T:TypeId):Bool:=match P.underlying T with
 | some .bool=>true
 | _=>false
class wC (P:Program) (T:TypeId):Prop where h:pK P T=true:=by kernel_rfl
class iI (P:Program) (T:TypeId) (k:outParam IntKind):Prop where h:pJ P T=some k:=by kernel_rfl
section
variable {P:Program}
theorem rC.run {T k off:Nat} (h:rC P T k=some off) (w:World) (b o:Nat):(Instr.fieldAt T (.pointer (some ⟨b,o,none⟩)) k).run P w=.ok (.pointer (some ⟨b,o + off,none⟩)) w:=by
 unfold rC at h
 cases hu:P.underlying T with
 | none=>rw [hu] at h;cases h
 | some d =>
  rw [hu] at h
  cases d with
  | struct fs =>
   simp only at h
   cases hf:fs[k]? with
   | none=>rw [hf] at h;cases h
   | some f =>
    rw [hf] at h;simp only at h
    cases hi:P.info? f.type with
    | none=>rw [hi] at h;cases h
    | some i =>
     rw [hi] at h;simp only at h
     by_cases hz:i.size=0
     ·rw [if_pos hz] at h;cases h
     ·rw [if_neg hz] at h;cases h;simp [Instr.fieldAt,Sem.run_bind,run_underlying hu,hf,Instr.sureAddr,fieldPlace,sizeOf,typeInfo,hi,hz,Addr.add_mid]
  | _=>cases h
theorem jm.runT {T:Nat} (h:jm P T=some true) (w:World):(isAgg T).run P w=.ok true w:=by
 unfold jm at h
 cases hu:P.underlying T with
 | none=>rw [hu] at h;cases h
 | some d=>rw [hu] at h;unfold isAgg;rw [Sem.run_bind,run_underlying hu w];cases d <;> first | rfl | (cases h;done)
theorem jm.wD {T:Nat} (h:jm P T=some false) (w:World):(isAgg T).run P w=.ok false w:=by
 unfold jm at h
 cases hu:P.underlying T with
 | none=>rw [hu] at h;cases h
 | some d=>rw [hu] at h;unfold isAgg;rw [Sem.run_bind,run_underlying hu w];cases d <;> first | rfl | (cases h;done)
theorem gY.run {T n:Nat} (h:gY P T=some n) (w:World):(sizeOf T).run P w=.ok n w:=by
 unfold gY at h
 cases hu:P.info? T with
 | none=>rw [hu] at h;cases h
 | some i=>rw [hu] at h;simp at h;simp [sizeOf,typeInfo,Sem.run_bind,hu,h]
theorem jK.iV {T e:Nat} (h:jK P T=some e):P.underlying T=some (.slice e):=by
 unfold jK at h
 cases hu:P.underlying T with
 | none=>rw [hu] at h;cases h
 | some d=>rw [hu] at h;cases d <;> first | (cases h;rfl) | (cases h;done)
theorem pK.iV {T:Nat} (h:pK P T=true):P.underlying T=some .bool:=by
 unfold pK at h
 cases hu:P.underlying T with
 | none=>rw [hu] at h;cases h
 | some d=>rw [hu] at h;cases d <;> first | rfl | (cases h;done)
theorem zC {X:Nat} (hu:P.underlying X=some .bool) (w:World) (m n:Bool):(Op.equal X (.bool m) (.bool n)).run P w=.ok (m == n) w:=by
 unfold Op.equal;rw [show Op.maxDepth=9999 + 1 from rfl,Op.equalIn];simp [Sem.run_bind,run_underlying hu]
theorem pJ.iV {T:Nat} {k:IntKind} (h:pJ P T=some k):P.underlying T=some (.int k):=by
 unfold pJ at h
 cases hu:P.underlying T with
 | none=>rw [hu] at h;cases h
 | some d=>rw [hu] at h;cases d <;> first | (cases h;rfl) | (cases h;done)
end
section
variable (P:Program) (c:Cx)
structure nj (L:List ak) (U:List Nat) (w w':World):Prop where
 go:∃ T,aP T w w'∧(∀ x∈T,x∈bL L)∧∀ x∈T,∀ j∈U,∀ r,L[j]?=some r→x∉r.cA
theorem nj.now (L:List ak) (U:List Nat) (w:World):nj L U w w:=⟨[],aP.refl _ _,by simp,by simp⟩
structure Qt (U:List Nat) (o:Oper) (f:Fm) (L:List ak) (d:D):Prop where
 go:∀ a w,St c f L a w→∃ v,RD (bz c L) w d v∧∀ w',nj L U w w'→(execOp a.eval o).run P w'=.ok (.value v) w'
def dD (ops:Array Oper) (o:Oper) (f:Fm):Bool:=match o.guard with
 | none=>true
 | some (j,b)=>match (ops[j]?).bind (·.dst) with
  | none=>false
  | some t=>match look f t with
   | some (.c (.v (.bool b')))=>b == b'
   | _=>false
def oH (ops:Array Oper) (o:Oper) (f:Fm):Bool:=match o.guard with
 | none=>false
 | some (j,b)=>match (ops[j]?).bind (·.dst) with
  | none=>false
  | some t=>match look f t with
   | some (.c (.v (.bool b')))=>b != b'
   | some (.aU _)=>true
   | _=>false
structure JO (ops:Array Oper) (l:List Oper) (k:List Item) (f:Fm) (L:List ak):Prop where
 go:∀ a w,St c f L a w→wpList P ops (fun e a' w'=>e=.normal∧ij P c k a' w') l a w
end
section
variable {P:Program} {c:Cx} {k:List Item} {f:Fm} {L:List ak} {ops:Array Oper} {l:List Oper} {o:Oper}
theorem dD.run (h:dD ops o f=true) {a:Act} {w:World} (s:St c f L a w):Region.wanted o (yielded ops a.tmps)=true:=by
 unfold dD at h;unfold Region.wanted
 cases hg:o.guard with
 | none=>rfl
 | some p =>
  obtain ⟨j,b⟩:=p;rw [hg] at h;simp only at h ⊢;unfold yielded
  cases hd:(ops[j]?).bind (·.dst) with
  | none=>rw [hd] at h;cases h
  | some t =>
   rw [hd] at h;simp only at h
   cases hl:look f t with
   | none=>rw [hl] at h;cases h
   | some d =>
    have hr:=s.fr t d hl;rw [hl] at h
    cases d with
    | c x=>cases x with
     | v y=>cases y with
      | bool b' =>
       unfold RD RA at hr;simp at h;subst h;obtain ⟨h1,_⟩:=hr;rw [Array.getD_eq_getD_getElem?] at h1
       cases ht:a.tmps[t]? with
       | none=>rw [ht] at h1;cases h1
       | some z=>rw [ht] at h1;simp at h1;subst h1;simp [ht]
      | _=>cases h
     | r _ _=>cases h
    | _=>cases h
theorem oH.run (h:oH ops o f=true) {a:Act} {w:World} (s:St c f L a w):Region.wanted o (yielded ops a.tmps)=false:=by
 unfold oH at h;unfold Region.wanted
 cases hg:o.guard with
 | none=>rw [hg] at h;cases h
 | some p =>
  obtain ⟨j,b⟩:=p;rw [hg] at h;simp only at h ⊢;unfold yielded
  cases hd:(ops[j]?).bind (·.dst) with
  | none=>rw [hd] at h;cases h
  | some t =>
   rw [hd] at h;simp only at h
   cases hl:look f t with
   | none=>rw [hl] at h;cases h
   | some d =>
    have hr:=s.fr t d hl;rw [hl] at h
    cases d with
    | c x=>cases x with
     | v y=>cases y with
      | bool b' =>
       unfold RD RA at hr;obtain ⟨h1,_⟩:=hr;rw [Array.getD_eq_getD_getElem?] at h1
       cases ht:a.tmps[t]? with
       | none=>rw [ht] at h1;cases h1
       | some z=>rw [ht] at h1;simp at h1;subst h1;simp [ht];intro e;subst e;simp at h
      | _=>cases h
     | r _ _=>cases h
    | aU q =>
     unfold RD at hr;obtain ⟨vs,h1,_⟩:=hr;rw [Array.getD_eq_getD_getElem?] at h1
     cases ht:a.tmps[t]? with
     | none=>simp [ht]
     | some z=>rw [ht] at h1;simp at h1;subst h1;simp [ht]
    | _=>cases h
theorem rD (t:Nat) (d:D) (f:Fm):look ((t,d) :: f) t=some d:=by simp [look,Nat.beq_refl]
theorem uh {t u:Nat} (h:t≠u) (d:D) (f:Fm):look ((t,d) :: f) u=look f u:=by
 have:Nat.beq t u=false:=by
  cases hb:Nat.beq t u with
  | false=>rfl
  | true=>exact absurd (Nat.eq_of_beq_eq_true hb) h
 simp [look,this]
theorem St.put {L':List ak} {a:Act} {w w':World} {t:Nat} {d:D} {v:Value} (s:St c f L a w) (ht:t < c.N) (hd:RD (bz c L') w' d v) (kp:aP c.rz c.e w') (res:∀ r∈L',r.holds (bz c L') w') (dS:∀ x∈bL L',x∈c.rz∨c.e.heap.size≤x) (ap:fC L') (m:Mon (bz c L) (bz c L') w w') :
  St c ((t,d) :: f) L' (a.put (some t) v) w':=by
 refine ⟨kp,by simp [Act.put,s.size],s.jj,res,dS,ap,fun u e hu=>?_⟩
 by_cases e1:t=u
 ·subst e1;rw [rD] at hu;cases hu;have:(a.put (some t) v).tmps.getD t undef=v:=by
   have:=s.size;simp [Act.put,Array.getD_eq_getD_getElem?,Array.getElem?_setIfInBounds,this,ht]
  rw [this];exact hd
 ·rw [uh e1] at hu;have:(a.put (some t) v).tmps.getD u undef=a.tmps.getD u undef:=by
   simp [Act.put,Array.getD_eq_getD_getElem?,Array.getElem?_setIfInBounds_ne e1]
  rw [this];exact RD.cD m e _ (s.fr u e hu)
theorem St.lI {a:Act} {w:World} {t:Nat} {d:D} {v:Value} (s:St c f L a w) (ht:t < c.N) (hd:RD (bz c L) w d v):St c ((t,d) :: f) L (a.put (some t) v) w :=
 s.put ht hd s.kp s.res s.dS s.ap (Mon.refl _ _)
theorem JO.nil (h:J P c k f L):JO P c ops [] k f L:=⟨fun a w s=>wpList_nil ⟨rfl,h.go a w s⟩⟩
theorem J.region {id:Nat} (h:JO P c l.toArray l k f L):J P c (.code (.region id l.toArray false) :: k) f L:=⟨fun a w s=>ij.wp (wp_region_lit (h.go a w s))⟩
theorem JO.q {t:Nat} {d:D} (hd:o.dst=some t) (hw:dD ops o f=true) (ht:t < c.N) {U:List Nat} (q:Qt P c U o f L d) (h:JO P c ops l k ((t,d) :: f) L):JO P c ops (o :: l) k f L:=⟨fun a w s=>by
 obtain ⟨v,h1,h2⟩:=q.go a w s;refine wpList_step fun K hK=>?_
 rw [dD.run hw s];simp only [↓reduceIte,Oper.wp,h2 w (nj.now _ _ _),Oper.upon];exact hK _ _ (h.go _ _ (by rw [hd];exact s.lI ht h1))⟩
theorem JO.no {t:Nat} (hd:o.dst=some t) (hw:oH ops o f=true) (ht:t < c.N) (h:JO P c ops l k ((t,.aU []) :: f) L):JO P c ops (o :: l) k f L:=⟨fun a w s=>by
 refine wpList_step fun K hK=>?_
 rw [oH.run hw s];simp only [Bool.false_eq_true,↓reduceIte];exact hK _ _ (h.go _ _ (by rw [hd];exact s.lI ht (by unfold RD;exact ⟨[],rfl,rfl⟩)))⟩
end
class jn (L:List ak) (b:Nat) (t:outParam TypeId) (cs:outParam (List A)) (i:outParam Nat):Prop where h:L[i]?=some (.box b t cs)
class gu (L:List ak) (v:Value) (e:outParam TypeId) (sz:outParam Nat) (l:outParam (List (List A))) (i:outParam Nat):Prop where h:L[i]?=some (.row v e sz l)
instance jn.succ {q:ak} {M:List ak} {b:Nat} {t:TypeId} {cs:List A} {i:Nat} [h:jn M b t cs i]:jn (q :: M) b t cs (i + 1):=⟨by simpa using h.h⟩
instance jn.zero {M:List ak} {b:Nat} {t:TypeId} {cs:List A}:jn (.box b t cs :: M) b t cs 0:=⟨rfl⟩
instance gu.succ {q:ak} {M:List ak} {v:Value} {e:TypeId} {sz:Nat} {l:List (List A)} {i:Nat} [h:gu M v e sz l i]:gu (q :: M) v e sz l (i + 1):=⟨by simpa using h.h⟩
instance gu.zero {M:List ak} {v:Value} {e:TypeId} {sz:Nat} {l:List (List A)}:gu (.row v e sz l :: M) v e sz l 0:=⟨rfl⟩
class jZ (L:List ak) (i:Nat) (r:ak) (L':outParam (List ak)):Prop where h:L.set i r=L'
instance jZ.succ {q r:ak} {M M':List ak} {i:Nat} [h:jZ M i r M']:jZ (q :: M) (i + 1) r (q :: M'):=⟨by rw [List.set_cons_succ,h.h]⟩
instance jZ.zero {q r:ak} {M:List ak}:jZ (q :: M) 0 r (r :: M):=⟨rfl⟩
class jo (L:List ak) (i:Nat) (L':outParam (List ak)):Prop where h:L.eraseIdx i=L'
instance jo.succ {q:ak} {M M':List ak} {i:Nat} [h:jo M i M']:jo (q :: M) (i + 1) (q :: M'):=⟨by rw [List.eraseIdx_cons_succ,h.h]⟩
instance jo.zero {q:ak} {M:List ak}:jo (q :: M) 0 M:=⟨rfl⟩
section
variable {P:Program} {c:Cx} {f:Fm} {L:List ak} {t:Option Tmp} {T:TypeId} {ps:String} {af:Array Edge} {gd:Option (Nat × Bool)}
theorem Qt.move {x:Operand} {d:D} (h:aY f x=some d):Qt P c [] ⟨t,.move x,T,ps,af,gd⟩ f L d:=⟨fun a w s=>⟨_,s.ev h,fun w' k=>rfl⟩⟩
theorem Qt.assign {x:Operand} {d:D} (h:aY f x=some d):Qt P c [] ⟨t,.assign x,T,ps,af,gd⟩ f L d:=⟨fun a w s=>⟨_,s.ev h,fun w' k=>rfl⟩⟩
def shift (n:Nat):D→Option D
 | .c (.v (.pointer (some ⟨b,o,none⟩)))=>some (.c (.v (.pointer (some ⟨b,o + n,none⟩))))
 | .el cs o=>some (.el cs (o + n))
 | .ow v sz k o=>some (.ow v sz k (o + n))
 | _=>none
theorem shift.rep {n:Nat} {d d':D} (h:shift n d=some d') {ok:Nat→Prop} {w:World} {x:Value} (r:RD ok w d x):∃ b o,x=.pointer (some ⟨b,o,none⟩)∧RD ok w d' (.pointer (some ⟨b,o + n,none⟩)):=by
 unfold shift at h
 split at h
 ·cases h;unfold RD RA at r ⊢;obtain ⟨rfl,_⟩:=r;exact ⟨_,_,rfl,rfl,rfl⟩
 ·cases h;unfold RD at r ⊢;obtain ⟨g,off,vs,rfl,h⟩:=r;exact ⟨_,_,rfl,g,off,vs,by rw [Nat.add_assoc],h⟩
 ·cases h;unfold RD at r ⊢;obtain ⟨g,off,m,cap,rfl,rfl⟩:=r;exact ⟨_,_,rfl,g,off,m,cap,rfl,by rw [Nat.add_assoc]⟩
 ·cases h
theorem Qt.fieldAddr {x:Operand} {X k off:Nat} {d d':D} [i:bK P X k off] (h:aY f x=some d) (hs:shift off d=some d'):Qt P c [] ⟨t,.fieldAddr X x k,T,ps,af,gd⟩ f L d':=⟨fun a w s=>by
 obtain ⟨b,o,hx,hr⟩:=shift.rep hs (s.ev h);refine ⟨_,hr,fun w' k=>?_⟩;simp only [execOp,hx,Sem.run_bind,rC.run i.h,Result.andThen_ok,Sem.run_pure]⟩
def zD:D→Bool
 | .c (.v (.pointer (some _)))=>true
 | .el _ _=>true
 | .ow _ _ _ _=>true
 | _=>false
theorem Qt.nilCheck {x:Operand} {d:D} (h:aY f x=some d) (hp:zD d=true):Qt P c [] ⟨t,.nilCheck x,T,ps,af,gd⟩ f L d:=⟨fun a w s=>by
 have r:=s.ev h;have:∃ p,a.eval x=.pointer (some p):=by
  unfold zD at hp
  split at hp
  ·unfold RD RA at r;exact ⟨_,r.1⟩
  ·unfold RD at r;obtain ⟨g,off,vs,h1,_⟩:=r;exact ⟨_,h1⟩
  ·unfold RD at r;obtain ⟨g,off,vs,cap,_,h1⟩:=r;exact ⟨_,h1⟩
  ·cases hp
 obtain ⟨p,hp⟩:=this;refine ⟨_,r,fun w' k=>?_⟩;simp only [execOp,hp,Sem.run_pure]⟩
inductive Cells (L:List ak):D→List A→Nat→List Nat→Prop
 | box (i:Nat) {b t cs o}:L[i]?=some (.box b t cs)→Cells L (.c (.v (.pointer (some ⟨b,o,none⟩)))) cs o [i]
 | el {cs o}:Cells L (.el cs o) cs o []
 | ow (i:Nat) {v e sz l k o cs}:L[i]?=some (.row v e sz l)→l[k]?=some cs→Cells L (.ow v sz k o) cs o [i]
theorem wE {w w':World} {g off:Nat} {vs:List Value} {T:List Nat} (h:w.rangeAt g off vs) (k:aP T w w') (hg:g∉T):w'.rangeAt g off vs:=fun j v hj=>k.cell (h j v hj) hg
theorem Cells.rep {d:D} {cs:List A} {o:Nat} {U:List Nat} (h:Cells L d cs o U) {a:Act} {w:World} (s:St c f L a w) {x:Value} (r:RD (bz c L) w d x):∃ b off,∃ vs:List Value,x=.pointer (some ⟨b,off + o,none⟩)∧(∀ w',nj L U w w'→w'.rangeAt b off vs)∧RC (bz c L) w cs vs:=by
 cases h with
 | @box i b t _ _ hi =>
  obtain ⟨vs,h1,h2⟩:=s.res _ (List.mem_of_getElem? hi);unfold RD RA at r;exact ⟨b,0,vs,by rw [r.1,Nat.zero_add],fun w' ⟨T,k1,k2,k3⟩=>wE h1.range k1 fun hm=>k3 b hm i (by simp) _ hi (by simp [ak.cA]),h2⟩
 | el=>unfold RD at r;obtain ⟨g,off,vs,h1,h2,h3,h4,h5⟩:=r;exact ⟨g,off,vs,h1,fun w' ⟨T,k1,k2,k3⟩=>wE h4 k1 fun hm=>h2.2 (k2 g hm),h5⟩
 | @ow i v e sz l k _ _ hi hl =>
  obtain ⟨xs,h1,h2⟩:=s.res _ (List.mem_of_getElem? hi);unfold RD at r;obtain ⟨g,off,n,cap,rfl,hx⟩:=r;obtain ⟨vs,g1,g2,g3⟩:=h2.get k hl;have hk:k < l.length:=(List.getElem?_eq_some_iff.1 hl).1;obtain ⟨g',zi,h5,h6,h7,h8,h9⟩:=h1.cells (by omega);obtain ⟨rfl,rfl⟩:=by simpa using h5
  have Ed:g∈de (.slice (some ⟨g,off,none⟩) n cap):=by simp [de]
  refine ⟨g,off + k * sz,vs,hx,fun w' ⟨T,k1,k2,k3⟩=>wE (fun j v hj=>?_) k1 fun hm=>k3 g hm i (by simp) _ hi Ed,g3⟩;have Ee:j < sz:=by rw [← g1];exact (List.getElem?_eq_some_iff.1 hj).1
  have hlen:=RX.len h2;have hb:k * sz + j < xs.length:=by
   rw [hlen]
   calc k * sz + j < k * sz + sz:=by omega
    _=(k + 1) * sz:=by rw [Nat.add_mul];omega
    _≤l.length * sz:=Nat.mul_le_mul_right _ hk
  rw [Nat.add_assoc,h8 _ hb,g2 j Ee,hj]
theorem Qt.pM {x:Operand} {X o:Nat} {d:D} {cs:List A} {e:A} {U:List Nat} [i:fU P X] (h:aY f x=some d) (hc:Cells L d cs o U) (he:cs[o]?=some e):Qt P c U ⟨t,.load X x,T,ps,af,gd⟩ f L (.c e):=⟨fun a w s=>by
 obtain ⟨b,off,vs,hx,h1,h2⟩:=hc.rep s (s.ev h);obtain ⟨y,hy,hr⟩:=h2.get o he;refine ⟨y,by unfold RD;exact hr,fun w' k=>?_⟩;have pH:=h1 w' k o y hy;have hl:(load ⟨b,off + o,none⟩).run P w'=.ok y w':=by simp [load,Sem.run,pH]
 simp only [execOp,hx,Instr.loadAt,Instr.sureAddr,loadVar,Sem.run_bind,Sem.run_pure,Result.andThen_ok,jm.wD i.h,Bool.false_eq_true,↓reduceIte,hl]⟩
theorem Ef {w:World} {b off:Nat} {vs:List Value} (h:w.rangeAt b off vs) (o n:Nat):w.rangeAt b (off + o) ((vs.drop o).take n):=fun j v hj=>by
 rw [List.getElem?_take] at hj
 split at hj
 ·rw [List.getElem?_drop] at hj;rw [Nat.add_assoc];exact h (o + j) v hj
 ·cases hj
theorem Qt.pN {x:Operand} {X o n:Nat} {d:D} {cs es:List A} {U:List Nat} [i:gL P X n] (h:aY f x=some d) (hc:Cells L d cs o U) (he:(cs.drop o).take n=es) (hn:es.length=n):Qt P c U ⟨t,.load X x,T,ps,af,gd⟩ f L (.agg es):=⟨fun a w s=>by
 obtain ⟨b,off,vs,hx,h1,h2⟩:=hc.rep s (s.ev h);have h4:=(h2.drop o).take n;rw [he] at h4;refine ⟨.agg ((vs.drop o).take n).toArray,by unfold RD;exact ⟨_,rfl,h4⟩,fun w' k=>?_⟩;have hr:=Ef (h1 w' k) o n;have lH:=i.s;have hl:((vs.drop o).take n).length=n:=by rw [h4.len,hn]
 have rE:(loadCells ⟨b,off + o,none⟩ ((vs.drop o).take n).length).run P w'=.ok ((vs.drop o).take n).toArray w' :=
  run_loadCells_list (P:=P) w' ⟨b,off + o,none⟩ _ (fun j v hv=>by rw [Addr.add_mid];exact hr j v hv)
 rw [hl] at rE;simp only [execOp,hx,Instr.loadAt,Instr.sureAddr,loadVar,Sem.run_bind,Sem.run_pure,Result.andThen_ok,jm.runT i.h,↓reduceIte,gY.run i.s,rE]⟩
theorem Qt.pO {x:Operand} {X n:Nat} {d:D} {cs:List A} {U:List Nat} [i:gL P X n] (h:aY f x=some d) (hc:Cells L d cs 0 U) (hn:cs.length=n):Qt P c U ⟨t,.load X x,T,ps,af,gd⟩ f L (.agg cs) :=
 Qt.pN h hc (by subst hn;simp) hn
theorem Qt.oI {x:Operand} {X b o B j:Nat} {cs:List A} {e:A} [i:fU P X] [bx:jn L b B cs j] (h:aY f x=some (.c (.v (.pointer (some ⟨b,o,none⟩))))) (he:cs[o]?=some e):Qt P c [j] ⟨t,.load X x,T,ps,af,gd⟩ f L (.c e):=Qt.pM h (.box j bx.h) he
theorem Qt.uj {x:Operand} {X b B j n:Nat} {cs:List A} [i:gL P X n] [bx:jn L b B cs j] (h:aY f x=some (.c (.v (.pointer (some ⟨b,0,none⟩))))) (hn:cs.length=n):Qt P c [j] ⟨t,.load X x,T,ps,af,gd⟩ f L (.agg cs):=Qt.pO h (.box j bx.h) hn
theorem Qt.uk {x:Operand} {X b o B j n:Nat} {cs es:List A} [i:gL P X n] [bx:jn L b B cs j] (h:aY f x=some (.c (.v (.pointer (some ⟨b,o,none⟩))))) (he:(cs.drop o).take n=es) (hn:es.length=n):Qt P c [j] ⟨t,.load X x,T,ps,af,gd⟩ f L (.agg es):=Qt.pN h (.box j bx.h) he hn
theorem Qt.rF {x:Operand} {X sz q o e j:Nat} {v:Value} {l:List (List A)} {cs:List A} {u:A} [i:fU P X] [bx:gu L v e sz l j] (h:aY f x=some (.ow v sz q o)) (hq:l[q]?=some cs) (he:cs[o]?=some u):Qt P c [j] ⟨t,.load X x,T,ps,af,gd⟩ f L (.c u):=Qt.pM h (.ow j bx.h hq) he
theorem Qt.bk {x:Operand} {X sz q e j n:Nat} {v:Value} {l:List (List A)} {cs:List A} [i:gL P X n] [bx:gu L v e sz l j] (h:aY f x=some (.ow v sz q 0)) (hq:l[q]?=some cs) (hn:cs.length=n):Qt P c [j] ⟨t,.load X x,T,ps,af,gd⟩ f L (.agg cs):=Qt.pO h (.ow j bx.h hq) hn
theorem Qt.dj {x y:Operand} {X e sz:Nat} {kd:IntKind} {n:Int} {l:List (List A)} {cs:List A} [i:ez P X e sz] (h:aY f x=some (.c (.r sz l))) (hy:aY f y=some (.c (.v (.int kd n)))) (hn:0≤n) (hk:l[n.toNat]?=some cs):Qt P c [] ⟨t,.indexAddr X x y,T,ps,af,gd⟩ f L (.el cs 0):=⟨fun a w s=>by
 have r:=s.ev h;have ry:=s.val hy;unfold RD RA at r;obtain ⟨ao,cap,hx,h1,h2,h3⟩:=r;have gq:=(List.getElem?_eq_some_iff.1 hk).1;rcases h3 with rfl | ⟨g,off,rfl,rG,hg,hl⟩
 ·simp at gq
 obtain ⟨vs,g1,g2,g3⟩:=hl.get _ hk;refine ⟨.pointer (some ⟨g,off + n.toNat * sz,none⟩),by unfold RD;exact ⟨g,_,vs,by rw [Nat.add_zero],rG,hg,g2,g3⟩,fun w' k=>?_⟩;have hb:0≤n∧n < (l.length:Int):=by omega
 simp only [execOp,hx,ry,Instr.indexAt,asIntOf,Sem.run_bind,Sem.run_pure,Result.andThen_ok,run_underlying (jK.iV i.h),hb,and_self,↓reduceIte,gY.run i.s,Addr.add_mid]⟩
theorem Qt.aN {x y:Operand} {X e sz j:Nat} {kd:IntKind} {n:Int} {v:Value} {l:List (List A)} [i:ez P X e sz] [bx:gu L v e sz l j] (h:aY f x=some (.c (.v v))) (hy:aY f y=some (.c (.v (.int kd n)))) (hn:0≤n) (hk:n < l.length):Qt P c [] ⟨t,.indexAddr X x y,T,ps,af,gd⟩ f L (.ow v sz n.toNat 0):=⟨fun a w s=>by
 have rx:=s.val h;have ry:=s.val hy;obtain ⟨xs,h1,h2⟩:=s.res _ (List.mem_of_getElem? bx.h);obtain ⟨ao,cap,rfl⟩:=h1.shape;obtain ⟨g,off,rfl,_⟩:=h1.cells (by omega);refine ⟨.pointer (some ⟨g,off + n.toNat * sz,none⟩),by unfold RD;exact ⟨g,off,_,cap,rfl,by rw [Nat.add_zero]⟩,fun w' k=>?_⟩;simp only [execOp,rx,ry,Instr.indexAt,asIntOf,Sem.run_bind,Sem.run_pure,Result.andThen_ok,run_underlying (jK.iV i.h),hn,hk,and_self,↓reduceIte,gY.run i.s,Addr.add_mid]⟩
def um:BinOp→Int→Int→Option Bool
 | .eql,a,b=>some (a == b)
 | .neq,a,b=>some (a != b)
 | .lss,a,b=>some (decide (a < b))
 | .leq,a,b=>some (decide (a≤b))
 | .gtr,a,b=>some (decide (a > b))
 | .geq,a,b=>some (decide (a ≥ b))
 | _,_,_=>none
theorem Qt.cmp {op:BinOp} {x y:Operand} {X Y:Nat} {kd:IntKind} {m n:Int} {b:Bool} (h:aY f x=some (.c (.v (.int kd m)))) (hy:aY f y=some (.c (.v (.int kd n)))) (hb:um op m n=some b):Qt P c [] ⟨t,.binOp op X x y Y,T,ps,af,gd⟩ f L (.c (.v (.bool b))):=⟨fun a w s=>by
 have rx:=s.val h;have ry:=s.val hy;refine ⟨.bool b,by unfold RD RA;exact ⟨rfl,rfl⟩,fun w' k=>?_⟩
 cases op <;> simp only [um,Option.some.injEq,reduceCtorEq] at hb <;> subst hb <;> simp [execOp,rx,ry,eqGuard_at_int,binOp,Op.intCmp,Sem.run_bind]⟩
theorem Qt.uo {x y:Operand} {X Y:Nat} {m n:Bool} [i:wC P X] (h:aY f x=some (.c (.v (.bool m)))) (hy:aY f y=some (.c (.v (.bool n)))):Qt P c [] ⟨t,.binOp .eql X x y Y,T,ps,af,gd⟩ f L (.c (.v (.bool (m == n)))):=⟨fun a w s=>by
 have rx:=s.val h;have ry:=s.val hy;refine ⟨.bool (m == n),by unfold RD RA;exact ⟨rfl,rfl⟩,fun w' k=>?_⟩;have hu:=zC (pK.iV i.h) w' m n;simp [execOp,rx,ry,eqGuard_at_bool,binOp,Sem.run_bind,hu,bne]⟩
theorem Qt.uq {x y:Operand} {X Y:Nat} {m n:Bool} [i:wC P X] (h:aY f x=some (.c (.v (.bool m)))) (hy:aY f y=some (.c (.v (.bool n)))):Qt P c [] ⟨t,.binOp .neq X x y Y,T,ps,af,gd⟩ f L (.c (.v (.bool (m != n)))):=⟨fun a w s=>by
 have rx:=s.val h;have ry:=s.val hy;refine ⟨.bool (m != n),by unfold RD RA;exact ⟨rfl,rfl⟩,fun w' k=>?_⟩;have hu:=zC (pK.iV i.h) w' m n;simp [execOp,rx,ry,eqGuard_at_bool,binOp,Sem.run_bind,hu,bne]⟩
def zE:BinOp→Int→Int→Option Int
 | .add,a,b=>some (a + b)
 | .sub,a,b=>some (a - b)
 | .mul,a,b=>some (a * b)
 | _,_,_=>none
theorem Qt.aD {op:BinOp} {x y:Operand} {X Y:Nat} {kd:IntKind} {m n r r':Int} (h:aY f x=some (.c (.v (.int kd m)))) (hy:aY f y=some (.c (.v (.int kd n)))) (hr:zE op m n=some r) (hf:kd.wrap r=r'):Qt P c [] ⟨t,.binOp op X x y Y,T,ps,af,gd⟩ f L (.c (.v (.int kd r'))):=⟨fun a w s=>by
 have rx:=s.val h;have ry:=s.val hy;subst hf;refine ⟨.int kd (kd.wrap r),by unfold RD RA;exact ⟨rfl,rfl⟩,fun w' k=>?_⟩
 cases op <;> simp only [zE,Option.some.injEq,reduceCtorEq] at hr <;> subst hr <;> simp [execOp,rx,ry,eqGuard_at_int,binOp,Op.intArith,Sem.run_bind]⟩
theorem Qt.rem {x y:Operand} {X Y:Nat} {kd:IntKind} {m n r:Int} (h:aY f x=some (.c (.v (.int kd m)))) (hy:aY f y=some (.c (.v (.int kd n)))) (hn:n≠0) (hr:m.tmod n=r):Qt P c [] ⟨t,.binOp .rem X x y Y,T,ps,af,gd⟩ f L (.c (.v (.int kd r))):=⟨fun a w s=>by
 have rx:=s.val h;have ry:=s.val hy;subst hr;refine ⟨.int kd (m.tmod n),by unfold RD RA;exact ⟨rfl,rfl⟩,fun w' k=>?_⟩;simp [execOp,rx,ry,eqGuard_at_int,binOp,Op.intDiv,Sem.run_bind,hn]⟩
theorem Qt.quo {x y:Operand} {X Y:Nat} {kd:IntKind} {m n r:Int} (h:aY f x=some (.c (.v (.int kd m)))) (hy:aY f y=some (.c (.v (.int kd n)))) (hn:n≠0) (hr:kd.wrap (m.tdiv n)=r):Qt P c [] ⟨t,.binOp .quo X x y Y,T,ps,af,gd⟩ f L (.c (.v (.int kd r))):=⟨fun a w s=>by
 have rx:=s.val h;have ry:=s.val hy;subst hr;refine ⟨.int kd (kd.wrap (m.tdiv n)),by unfold RD RA;exact ⟨rfl,rfl⟩,fun w' k=>?_⟩;simp [execOp,rx,ry,eqGuard_at_int,binOp,Op.intDiv,Sem.run_bind,hn]⟩
theorem Qt.not {x:Operand} {X:Nat} {b:Bool} (h:aY f x=some (.c (.v (.bool b)))):Qt P c [] ⟨t,.unOp .not X x,T,ps,af,gd⟩ f L (.c (.v (.bool (!b)))):=⟨fun a w s=>by
 have rx:=s.val h;refine ⟨.bool (!b),by unfold RD RA;exact ⟨rfl,rfl⟩,fun w' k=>?_⟩;simp [execOp,rx,Op.unary,Sem.run_bind]⟩
theorem Qt.extract {x:Operand} {n:Nat} {l:List D} {d:D} (h:aY f x=some (.aU l)) (hn:l[n]?=some d):Qt P c [] ⟨t,.extract x n,T,ps,af,gd⟩ f L d:=⟨fun a w s=>by
 have r:=s.ev h;unfold RD at r;obtain ⟨vs,hx,hr⟩:=r;obtain ⟨y,hy,h2⟩:=hr.get n hn;refine ⟨y,h2,fun w' k=>?_⟩;simp [execOp,hx,Instr.extract,Sem.run_bind,hy]⟩
theorem Qt.rH {x:Operand} {X sz:Nat} {l:List (List A)} {e oJ:Nat} [i:ez P X e oJ] (h:aY f x=some (.c (.r sz l))):Qt P c [] ⟨t,.call ⟨.builtin .len,#[x],#[X]⟩,T,ps,af,gd⟩ f L (.c (.v (.int .i64 l.length))):=⟨fun a w s=>by
 have r:=s.ev h;unfold RD RA at r;obtain ⟨ao,cap,hx,_⟩:=r;refine ⟨.int .i64 l.length,by unfold RD RA;exact ⟨rfl,rfl⟩,fun w' k=>?_⟩;simp [execOp,resolve,invoke,builtin,hx,Sem.run_bind,Builtin.len_,run_underlying (jK.iV i.h),goInt]⟩
theorem Qt.pR {x:Operand} {X sz:Nat} {α:Type} {g:α→List A} {l:List α} {e oJ:Nat} [i:ez P X e oJ] (h:aY f x=some (.c (.r sz (l.map g)))):Qt P c [] ⟨t,.call ⟨.builtin .len,#[x],#[X]⟩,T,ps,af,gd⟩ f L (.c (.v (.int .i64 l.length))):=by
 have:=Qt.rH (P:=P) (c:=c) (t:=t) (T:=T) (ps:=ps) (af:=af) (gd:=gd) (L:=L) (X:=X) h;rw [List.length_map] at this;exact this
theorem Qt.ur {x:Operand} {X sz j:Nat} {v:Value} {l:List (List A)} {e e' oJ:Nat} [i:ez P X e' oJ] [bx:gu L v e sz l j] (h:aY f x=some (.c (.v v))):Qt P c [] ⟨t,.call ⟨.builtin .len,#[x],#[X]⟩,T,ps,af,gd⟩ f L (.c (.v (.int .i64 l.length))):=⟨fun a w s=>by
 have rx:=s.val h;obtain ⟨xs,h1,h2⟩:=s.res _ (List.mem_of_getElem? bx.h);obtain ⟨ao,cap,rfl⟩:=h1.shape;refine ⟨.int .i64 l.length,by unfold RD RA;exact ⟨rfl,rfl⟩,fun w' k=>?_⟩;simp [execOp,resolve,invoke,builtin,rx,Sem.run_bind,Builtin.len_,run_underlying (jK.iV i.h),goInt]⟩
theorem Qt.uu {x:Operand} {X:Nat} {ao:Option Addr} {n m:Nat} {e' oJ:Nat} [i:ez P X e' oJ] (h:aY f x=some (.c (.v (.slice ao n m)))):Qt P c [] ⟨t,.call ⟨.builtin .len,#[x],#[X]⟩,T,ps,af,gd⟩ f L (.c (.v (.int .i64 n))):=⟨fun a w s=>by
 have rx:=s.val h;refine ⟨.int .i64 n,by unfold RD RA;exact ⟨rfl,rfl⟩,fun w' k=>?_⟩;simp [execOp,resolve,invoke,builtin,rx,Sem.run_bind,Builtin.len_,run_underlying (jK.iV i.h),goInt]⟩
theorem Qt.pick {x y z:Operand} {b:Bool} {d:D} (h:aY f x=some (.c (.v (.bool b)))) (hd:aY f (cond b y z)=some d):Qt P c [] ⟨t,.pick x y z,T,ps,af,gd⟩ f L d:=⟨fun a w s=>by
 have rx:=s.val h;refine ⟨_,s.ev hd,fun w' k=>?_⟩
 cases b <;> simp [execOp,rx,asBool,Sem.run_bind]⟩
theorem Qt.conv {x:Operand} {X Y:Nat} {kd rI:IntKind} {m r:Int} [i:iI P X kd] [j:iI P Y rI] (h:aY f x=some (.c (.v (.int kd m)))) (hr:rI.wrap m=r):Qt P c [] ⟨t,.convert X Y x,T,ps,af,gd⟩ f L (.c (.v (.int rI r))):=⟨fun a w s=>by
 have rx:=s.val h;subst hr;refine ⟨.int rI (rI.wrap m),by unfold RD RA;exact ⟨rfl,rfl⟩,fun w' k=>?_⟩;simp [execOp,rx,convert,Sem.run_bind,run_underlying (pJ.iV i.h),run_underlying (pJ.iV j.h),Conv.intToInt]⟩
end
end Fl
open Go.RowKit
namespace Fl
class aW (P:Program) (T:TypeId) (zs:outParam (List Value)):Prop where
 h:ni P T=some zs:=by kernel_rfl
 o:zs.all (·.oneCell')=true:=by kernel_rfl
 s:gY P T=some zs.length:=by kernel_rfl
class fD (P:Program) (T:TypeId) (e:outParam TypeId) (sz bytes:outParam Nat) (z:outParam Value):Prop where h:zj P T e sz bytes z
def wF (P:Program) (F:FuncId):Bool:=match P.funcs[F]? with
 | some fn=>fn.name != "runtime.NumGoroutine" && fn.body.isSome
 | none=>false
class aS (P:Program) (F:FuncId):Prop where h:wF P F=true:=by kernel_rfl
def vs (zs:List Value):List A:=zs.map A.v
theorem RC.vs {ok:Nat→Prop} {w:World}:∀ {zs:List Value},zs.all (·.oneCell')=true→RC ok w (vs zs) zs
 | [],_=>RC.nil
 | z :: zs,h=>by
  simp only [List.all_cons,Bool.and_eq_true] at h;exact RC.cons (by unfold RA;exact ⟨rfl,h.1⟩) (RC.vs h.2)
section
variable (P:Program) (c:Cx)
structure Ld (o:Oper) (f:Fm) (L:List ak) (S:List Nat) {ι:Type} (f':ι→Fm) (L':ι→List ak):Prop where
 go:∀ a w,St c f L a w→∀ (K:Act→World→Prop) (Q:Exit→Act→World→Prop),(∀ x v w',aP S w w'→St c (f' x) (L' x) (a.put o.dst v) w'→(∀ y∈bL (L' x),y∈bL L∨w.heap.size≤y)→K (a.put o.dst v) w')→o.wp P a w K Q
end
section
variable {P:Program} {c:Cx} {k:List Item} {f:Fm} {L:List ak} {ops:Array Oper} {l:List Oper} {o:Oper}
theorem JO.ld {S:List Nat} {ι:Type} {f':ι→Fm} {L':ι→List ak} (h:Ld P c o f L S f' L') (hw:dD ops o f=true) (hr:∀ x,JO P c ops l k (f' x) (L' x)):JO P c ops (o :: l) k f L:=⟨fun a w s=>by
 refine wpList_step fun K hK=>?_
 rw [dD.run hw s];simp only [↓reduceIte];exact h.go a w s K _ fun x v w' _ hp _=>hK _ _ ((hr x).go _ w' hp)⟩
theorem wG {r:ak} {w:World} (hr:∀ x∈r.cA,w.heap.size≤x):∀ g,g < w.heap.size→bz c L g→bz c (r :: L) g:=fun g hg ho =>
 ⟨ho.1,fun hm=>by
  obtain ⟨q,hq,hx⟩:=cZ.1 hm;rcases List.mem_cons.1 hq with rfl | hq
  ·have:=hr g hx;omega
  ·exact ho.2 (cZ.2 ⟨q,hq,hx⟩)⟩
theorem St.new {a:Act} {w w':World} {t:Nat} {d:D} {v:Value} {r:ak} (s:St c f L a w) (ht:t < c.N) (k:aP [] w w') (hr:∀ x∈r.cA,w.heap.size≤x) (h:r.holds (bz c (r :: L)) w') (hd:RD (bz c (r :: L)) w' d v):St c ((t,d) :: f) (r :: L) (a.put (some t) v) w':=by
 have m:Mon (bz c L) (bz c (r :: L)) w w':=Mon.jJ k fun g hg ho=>⟨wG hr g hg ho,by simp⟩
 refine s.put ht hd (s.kp.then k) ?_ ?_ ?_ m
 ·intro q hq;rcases List.mem_cons.1 hq with rfl | hq
  ·exact h
  ·exact (s.res q hq).cD k m (by simp)
 ·intro x hx;obtain ⟨q,hq,jL⟩:=cZ.1 hx;rcases List.mem_cons.1 hq with e | hq
  ·exact .inr (Nat.le_trans s.kp.size (hr x (e ▸ jL)))
  ·exact s.dS x (cZ.2 ⟨q,hq,jL⟩)
 ·refine List.pairwise_cons.2 ⟨fun q hq x hx gw=>?_,s.ap⟩;have h1:=hr x hx;have h2:=s.lt x (cZ.2 ⟨q,hq,gw⟩);omega
theorem uv {r:ak} {w:World} (hr:∀ x∈r.cA,w.heap.size≤x):∀ y∈bL (r :: L),y∈bL L∨w.heap.size≤y:=fun y hy=>by
 obtain ⟨q,hq,h⟩:=cZ.1 hy;rcases List.mem_cons.1 hq with e | hq
 ·exact .inr (hr y (e ▸ h))
 ·exact .inl (cZ.2 ⟨q,hq,h⟩)
theorem St.more {a:Act} {w w':World} {t:Nat} {d:D} {v:Value} (s:St c f L a w) (ht:t < c.N) (k:aP [] w w') (hd:RD (bz c L) w' d v):St c ((t,d) :: f) L (a.put (some t) v) w':=by
 have m:Mon (bz c L) (bz c L) w w':=Mon.jJ k fun g hg ho=>⟨ho,by simp⟩
 exact s.put ht hd (s.kp.then k) (fun q hq=>(s.res q hq).cD k m (by simp)) s.dS s.ap m
theorem ni.run {T:Nat} {zs:List Value} (h:ni P T=some zs):∃ z:Value,z.cells.toList=zs∧∀ w,(zeroValue T).run P w=.ok z w:=by
 unfold ni at h
 cases hi:P.info? T with
 | none=>rw [hi] at h;cases h
 | some i =>
  rw [hi] at h
  cases hz:i.zero with
  | none=>simp [hz] at h
  | some z=>simp [hz] at h;exact ⟨z,h,fun w=>by simp [zeroValue,typeInfo,Sem.run_bind,hi,hz]⟩
variable {T X:TypeId} {ps:String} {af:Array Edge} {gd:Option (Nat × Bool)} {t:Nat}
theorem Ld.alloc {zs:List Value} [i:aW P X zs] (ht:t < c.N):Ld P c ⟨some t,.alloc X,T,ps,af,gd⟩ f L [] (fun b:Nat=>(t,.c (.v (.pointer (some ⟨b,0,none⟩)))) :: f) (fun b=>.box b X (vs zs) :: L):=⟨fun a w s K Q hK=>by
 obtain ⟨z,hz,hr⟩:=ni.run i.h;have hk:aP [] w (w.alloc (.cells z.cells X)):=(aP.refl [] w).alloc _;have gM:(execOp a.eval ⟨some t,.alloc X,T,ps,af,gd⟩).run P w=.ok (.value (.pointer (some ⟨w.heap.size,0,none⟩))) (w.alloc (.cells z.cells X)):=by
  simp [execOp,Instr.alloc,Sem.run_bind,hr,newVar,newRow]
 unfold Oper.wp;rw [gM];refine hK w.heap.size _ _ hk (s.new ht hk (by simp [ak.cA]) ⟨zs,?_,RC.vs i.o⟩ (by unfold RD RA;exact ⟨rfl,rfl⟩)) (uv (by simp [ak.cA]));subst hz;have:=dB.new w z.cells.toList X;simpa using this⟩
def fV:D→Option (List A)
 | .c a=>some [a]
 | .agg cs=>some cs
 | _=>none
theorem fV.rep {d:D} {cs:List A} (h:fV d=some cs) {ok:Nat→Prop} {w:World} {x:Value} (r:RD ok w d x):RC ok w cs x.cells.toList:=by
 unfold fV at h
 split at h
 ·cases h;unfold RD at r;have h1:=r.one;have:x.cells.toList=[x]:=by cases x <;> first | rfl | (cases h1;done)
  rw [this];exact RC.cons r RC.nil
 ·cases h;unfold RD at r;obtain ⟨vs,rfl,h⟩:=r;simpa [Value.cells] using h
 ·cases h
theorem Ld.box {x:Operand} {d:D} {cs:List A} (ht:t < c.N) (h:aY f x=some d) (hc:fV d=some cs):Ld P c ⟨some t,.box X x,T,ps,af,gd⟩ f L [] (fun b:Nat=>(t,.c (.v (.pointer (some ⟨b,0,none⟩)))) :: f) (fun b=>.box b X cs :: L):=⟨fun a w s K Q hK=>by
 have hr:=fV.rep hc (s.ev h);have hk:aP [] w (w.alloc (.cells (a.eval x).cells X)):=(aP.refl [] w).alloc _;have gM:(execOp a.eval ⟨some t,.box X x,T,ps,af,gd⟩).run P w=.ok (.value (.pointer (some ⟨w.heap.size,0,none⟩))) (w.alloc (.cells (a.eval x).cells X)):=by
  simp [execOp,Instr.box,Sem.run_bind,newVar,newRow]
 unfold Oper.wp;rw [gM];have hf:∀ y∈(ak.box w.heap.size X cs).cA,w.heap.size≤y:=by simp [ak.cA]
 refine hK w.heap.size _ _ hk (s.new ht hk hf ⟨(a.eval x).cells.toList,?_,?_⟩ (by unfold RD RA;exact ⟨rfl,rfl⟩)) (uv hf)
 ·have:=dB.new w (a.eval x).cells.toList X;simpa using this
 ·exact RC.cD (Mon.jJ hk fun g hg ho=>⟨wG hf g hg ho,by simp⟩) cs _ hr⟩
theorem uw {i:Nat} {r r':ak} (hi:L[i]?=some r) (hf:r'.cA=r.cA) (x:Nat):x∈bL (L.set i r')↔x∈bL L:=by
 have:(L.set i r').map ak.cA=L.map ak.cA:=by
  rw [List.map_set];apply List.ext_getElem?;intro j;rw [List.getElem?_set]
  split
  ·rename_i e;subst e
   split
   ·rw [List.getElem?_map,hi];simp [hf]
   ·rename_i hn;simp at hn;rw [List.getElem?_eq_none (by simpa using hn)]
  ·rfl
 unfold bL;rw [List.flatMap_def,List.flatMap_def,this]
theorem Eg {i:Nat} {r r':ak} (hi:L[i]?=some r) (hf:r'.cA=r.cA):bz c (L.set i r')=bz c L:=by
 funext x;unfold bz;rw [uw hi hf]
theorem zF:∀ {L:List ak} {i:Nat} {r r':ak},L[i]?=some r→(∀ x,x∈r'.cA→x∈r.cA)→fC L→fC (L.set i r')
 | [],i,r,r',h,hf,ha=>by simp at h
 | q :: L,0,r,r',h,hf,ha=>by
  simp at h;subst h;have:=List.pairwise_cons.1 ha;exact List.pairwise_cons.2 ⟨fun s hs x hx=>this.1 s hs x (hf x hx),this.2⟩
 | q :: L,i + 1,r,r',h,hf,ha=>by
  simp at h;have:=List.pairwise_cons.1 ha;simp only [List.set_cons_succ];refine List.pairwise_cons.2 ⟨fun s hs x hx gw=>?_,zF h hf this.2⟩;rcases List.mem_or_eq_of_mem_set hs with hs | rfl
  ·exact this.1 s hs x hx gw
  ·exact this.1 r (List.mem_of_getElem? h) x hx (hf x gw)
theorem fC.ne:∀ {L:List ak} {i j:Nat} {r q:ak},fC L→L[i]?=some r→L[j]?=some q→i≠j→∀ x∈r.cA,x∉q.cA
 | [],i,j,r,q,ha,hi,hj,hn,x,hx=>by simp at hi
 | p :: L,0,0,r,q,ha,hi,hj,hn,x,hx=>by simp at hn
 | p :: L,0,j + 1,r,q,ha,hi,hj,hn,x,hx=>by
  simp at hi hj;subst hi;exact (List.pairwise_cons.1 ha).1 q (List.mem_of_getElem? hj) x hx
 | p :: L,i + 1,0,r,q,ha,hi,hj,hn,x,hx=>fun gw=>by
  simp at hi hj;subst hj;exact (List.pairwise_cons.1 ha).1 r (List.mem_of_getElem? hi) x gw hx
 | p :: L,i + 1,j + 1,r,q,ha,hi,hj,hn,x,hx=>by
  simp at hi hj;exact fC.ne (List.pairwise_cons.1 ha).2 hi hj (by omega) x hx
theorem St.set {a:Act} {w w':World} {i:Nat} {r r':ak} (s:St c f L a w) (hi:L[i]?=some r) (hf:r'.cA=r.cA) (k:aP r.cA w w') (h:r'.holds (bz c L) w'):St c f (L.set i r') a w':=by
 have ho:=Eg (c:=c) hi hf;have j3:∀ x∈r.cA,x∈bL L:=fun x hx=>cZ.2 ⟨r,List.mem_of_getElem? hi,hx⟩
 have m:Mon (bz c L) (bz c L) w w':=Mon.jJ k fun g hg eL=>⟨eL,fun hm=>eL.2 (j3 g hm)⟩
 refine ⟨s.kp.trans k (fun x hx=>s.dS x (j3 x hx)),s.size,s.jj,fun q hq=>?_,fun x hx=>s.dS x ((uw hi hf x).1 hx),zF hi (fun x hx=>hf ▸ hx) s.ap,fun t d hd=>by rw [ho];exact RD.cD m d _ (s.fr t d hd)⟩;rw [ho];obtain ⟨j,hj⟩:=List.getElem?_of_mem hq;rw [List.getElem?_set] at hj
 split at hj
 ·split at hj
  ·simp at hj;subst hj;exact h
  ·cases hj
 ·rename_i ck;exact (s.res q (List.mem_of_getElem? hj)).cD k m (fun x hx hm=>fC.ne s.ap hi hj ck x hm hx)
theorem dB.dZ {t:TypeId} {g:Nat}:∀ (cs p z q:List Value) (w:World),z.length=cs.length→dB w g (p ++ z ++ q) t→dB (w.setCells g p.length cs) g (p ++ cs ++ q) t∧aP [g] w (w.setCells g p.length cs)
 | [],p,z,q,w,h,hb=>by
  have:z=[]:=List.length_eq_zero_iff.1 h;subst this;exact ⟨hb,aP.refl _ _⟩
 | c :: cs,p,[],q,w,h,hb=>by simp at h
 | c :: cs,p,x :: z,q,w,h,hb=>by
  have h1:=hb.set p.length c;have e:(p ++ x :: z ++ q).set p.length c=(p ++ [c]) ++ z ++ q:=by simp
  rw [e] at h1;obtain ⟨h2,k2⟩:=dB.dZ cs (p ++ [c]) z q (w.setCell ⟨g,p.length,none⟩ c) (by simpa using h) h1;simp only [List.length_append,List.length_cons,List.length_nil,Nat.zero_add] at h2 k2;rw [World.setCells];refine ⟨by simpa using h2,((aP.refl [g] w).setCell (by simp) c).trans k2 (fun x hx=>.inl hx)⟩
def gN (cs:List A) (o:Nat) (new:List A):List A:=cs.take o ++ new ++ cs.drop (o + new.length)
theorem zG {T n:Nat} (hn:gY P T=some n) (w:World) (b o:Nat) (x:Value) (hx:x.cells.size=n) (ht:w.there b o n) (h1:∀ v∈x.cells.toList,v.oneCell'=true):(storeVar T ⟨b,o,none⟩ x).run P w=.ok () (w.setCells b o x.cells.toList):=by
 have:=run_storeCells_cells (P:=P) b o x.cells.toList 0 w (fun j hj=>by simpa using (ht j (by simpa [hx] using hj)).1) (fun j hj=>by simpa using (ht j (by simpa [hx] using hj)).2) h1;simp only [Nat.add_zero] at this;simp [storeVar,Sem.run_bind,gY.run hn,hx,this]
theorem Ld.wH (i:Nat) {x y:Operand} {b o n:Nat} {B:TypeId} {cs es:List A} {d:D} [it:eD P X n] (hx:aY f x=some (.c (.v (.pointer (some ⟨b,o,none⟩))))) (hi:L[i]?=some (.box b B cs)) (hy:aY f y=some d) (hd:fV d=some es) (hn:es.length=n) (hl:Nat.ble (o + n) cs.length=true) :
  Ld P c ⟨none,.store X x y,T,ps,af,gd⟩ f L [b] (fun _:Unit=>f) (fun _=>L.set i (.box b B (gN cs o es))):=⟨fun a w s K Q hK=>by
 have nk:o + n≤cs.length:=Nat.le_of_ble_eq_true hl;have rx:=s.val hx;have ry:=fV.rep hd (s.ev hy);obtain ⟨us,h1,h2⟩:=s.res _ (List.mem_of_getElem? hi);have hlen:=h2.len;have lH:(a.eval y).cells.size=n:=by have:=ry.len;simp at this;omega
 have hb:dB w b (us.take o ++ (us.drop o).take n ++ us.drop (o + n)) B:=by
  have e:us.take o ++ (us.drop o).take n ++ us.drop (o + n)=us:=by
   rw [← List.drop_drop,List.append_assoc,List.take_append_drop,List.take_append_drop]
  rw [e];exact h1
 have hp:=dB.dZ (a.eval y).cells.toList (us.take o) ((us.drop o).take n) (us.drop (o + n)) w (by simp;omega) hb;have ho:(us.take o).length=o:=by simp;omega
 rw [ho] at hp;have gM:=zG it.h w b o (a.eval y) lH (fun j hj=>⟨by rw [h1.cell];simp;omega,h1.free _⟩) ry.one;have rJ:(execOp a.eval ⟨none,.store X x y,T,ps,af,gd⟩).run P w=.ok .skip (w.setCells b o (a.eval y).cells.toList):=by
  simp [execOp,Sem.run_bind,Instr.storeAt,rx,Instr.sureAddr,gM]
 unfold Oper.wp;rw [rJ];refine hK () undef _ hp.2 (s.set hi rfl hp.2 ⟨_,hp.1,?_⟩) (fun y hy=>.inl ((uw (r':=.box b B (gN cs o es)) hi rfl y).1 hy));have m:Mon (bz c L) (bz c L) w (w.setCells b o (a.eval y).cells.toList):=Mon.jJ hp.2 fun g hg eL=>⟨eL,fun hm=>eL.2 (cZ.2 ⟨_,List.mem_of_getElem? hi,by simpa [ak.cA] using hm⟩)⟩
 unfold gN;rw [hn];exact RC.app (RC.app (RC.cD m _ _ (h2.take o)) (RC.cD m _ _ ry)) (RC.cD m _ _ (h2.drop (o + n)))⟩
theorem zH {cs es:List A} (h:es.length=cs.length):gN cs 0 es=es:=by simp [gN,h]
theorem Eh {cs:List A} {o:Nat} {a:A} (h:o < cs.length):gN cs o [a]=cs.set o a:=by
 unfold gN;apply List.ext_getElem?;intro j;simp only [List.length_cons,List.length_nil,Nat.zero_add];rcases Nat.lt_trichotomy j o with hj | hj | hj
 ·rw [List.append_assoc,List.getElem?_append_left (by simp;omega),List.getElem?_take,if_pos hj,List.getElem?_set_ne (by omega)]
 ·subst hj;rw [List.append_assoc,List.getElem?_append_right (by simp;omega),List.getElem?_set_self h];have:j - (List.take j cs).length=0:=by simp;omega
  rw [this];rfl
 ·rw [List.getElem?_append_right (by simp;omega),List.getElem?_set_ne (by omega),List.getElem?_drop]
  congr 1;simp;omega
end
end Fl
open Go.RowKit
namespace Fl
theorem Ei (cs:List A) (o:Nat) (a:A) (es:List A) (h:o < cs.length):gN cs o (a :: es)=gN (cs.set o a) (o + 1) es:=by
 unfold gN;rw [List.take_add_one,List.take_set,List.getElem?_set_self h];simp only [List.length_cons,Option.toList_some];rw [List.set_eq_of_length_le (by simp;omega),List.drop_set,if_pos (by omega)];simp only [List.append_assoc,List.singleton_append,List.cons_append,List.nil_append];rw [show o + (es.length + 1)=o + 1 + es.length by omega]
theorem Ej (cs:List A) (o:Nat):gN cs o []=cs:=by simp [gN]
theorem RX.put {ok:Nat→Prop} {w:World} {sz:Nat} {k:Nat}:∀ (es:List A) (us:List Value) {l:List (List A)} {xs:List Value} {cs:List A} (o:Nat),RX ok w sz l xs→l[k]?=some cs→cs.length=sz→RC ok w es us→o + es.length≤sz→RX ok w sz (l.set k (gN cs o es)) (setFrom xs (k * sz + o) us)
 | [],us,l,xs,cs,o,h,e,hc,hr,ho=>by
  unfold RC at hr;subst hr;rw [Ej,setFrom,List.Ek e];exact h
 | a :: es,us,l,xs,cs,o,h,e,hc,hr,ho=>by
  unfold RC at hr;obtain ⟨x,ys,rfl,h1,h2⟩:=hr;simp only [List.length_cons] at ho;have gq:=(List.getElem?_eq_some_iff.1 e).1;have h3:=RX.set k o h e (by omega) h1;have:=RX.put es ys (o + 1) h3 (List.getElem?_set_self gq) (by simpa using hc) h2 (by omega);rw [List.set_set] at this;rw [Ei cs o a es (by omega),setFrom];exact this
where
 List.Ek {α:Type} {l:List α} {k:Nat} {a:α} (e:l[k]?=some a):l.set k a=l:=by
  apply List.ext_getElem?;intro j;rw [List.getElem?_set]
  split
  ·rename_i h;subst h
   split
   ·exact e.symm
   ·rename_i hn;rw [List.getElem?_eq_none (by omega)] at e;cases e
  ·rfl
theorem RX.zI {ok:Nat→Prop} {w:World} {sz:Nat} {l:List (List A)} {xs:List Value} {k:Nat} {cs:List A} (h:RX ok w sz l xs) (e:l[k]?=some cs):cs.length=sz:=by
 obtain ⟨vs,h1,_,h3⟩:=h.get k e;rw [← h3.len,h1]
section
variable {P:Program} {c:Cx} {k:List Item} {f:Fm} {L:List ak} {ops:Array Oper} {l:List Oper} {o:Oper} {T X:TypeId} {ps:String} {af:Array Edge} {gd:Option (Nat × Bool)} {t:Nat}
theorem Ld.El (i:Nat) {x y:Operand} {v:Value} {sz q o n:Nat} {e:TypeId} {ll:List (List A)} {cs es:List A} {d:D} [it:eD P X n] (hx:aY f x=some (.ow v sz q o)) (hi:L[i]?=some (.row v e sz ll)) (hq:ll[q]?=some cs) (hy:aY f y=some d) (hd:fV d=some es) (hn:es.length=n) (hl:Nat.ble (o + n) sz=true) :
  Ld P c ⟨none,.store X x y,T,ps,af,gd⟩ f L (de v) (fun _:Unit=>f) (fun _=>L.set i (.row v e sz (ll.set q (gN cs o es)))):=⟨fun a w s K Q hK=>by
 have nk:o + n≤sz:=Nat.le_of_ble_eq_true hl;have rx:=s.ev hx;have ry:=fV.rep hd (s.ev hy);unfold RD at rx;obtain ⟨g,off,mm,cap,rfl,rx⟩:=rx;obtain ⟨xs,h1,h2⟩:=s.res _ (List.mem_of_getElem? hi);have hlen:=RX.len h2;have rK:=(List.getElem?_eq_some_iff.1 hq).1;have Em:=RX.zI h2 hq;have lH:(a.eval y).cells.size=n:=by have:=ry.len;simp at this;omega
 have En:(q + 1) * sz≤ll.length * sz:=Nat.mul_le_mul_right _ rK;rw [Nat.add_mul] at En;obtain ⟨r1,r2⟩:=Row.dZ (a.eval y).cells.toList w xs (q * sz + o) h1 (by simp;omega);obtain ⟨g',zi,e1,e2,hg,hc,hf⟩:=h1.cells (by omega);obtain ⟨rfl,rfl⟩:=by simpa using e1
 rw [← Nat.add_assoc] at r1 r2;have gM:=zG it.h w g (off + q * sz + o) (a.eval y) lH (fun j hj=>⟨by
  rw [show off + q * sz + o + j=off + (q * sz + o + j) by omega,hc _ (by omega)];simp;omega,by
  rw [show off + q * sz + o + j=off + (q * sz + o + j) by omega];exact hf _⟩) ry.one
 have rJ:(execOp a.eval ⟨none,.store X x y,T,ps,af,gd⟩).run P w=.ok .skip (w.setCells g (off + q * sz + o) (a.eval y).cells.toList):=by
  simp [execOp,Sem.run_bind,Instr.storeAt,rx,Instr.sureAddr,gM]
 unfold Oper.wp;rw [rJ];have m:Mon (bz c L) (bz c L) w (w.setCells g (off + q * sz + o) (a.eval y).cells.toList):=Mon.jJ r2 fun g' hg eL=>⟨eL,fun hm=>eL.2 (cZ.2 ⟨_,List.mem_of_getElem? hi,by simpa [ak.cA] using hm⟩)⟩
 refine hK () undef _ r2 (s.set hi rfl r2 ⟨_,by rw [List.length_set];exact r1,?_⟩) (fun y hy=>.inl ((uw (r':=.row (.slice (some ⟨g,off,none⟩) mm cap) e sz (ll.set q (gN cs o es))) hi rfl y).1 hy));exact RX.put es _ o (RX.cD m _ _ h2) hq Em (RC.cD m _ _ ry) (by omega)⟩
theorem Ld.eJ {e sz:Nat} [i:ez P X e sz] (ht:t < c.N):Ld P c ⟨some t,.buildSlice X 0 #[],T,ps,af,gd⟩ f L [] (fun b:Nat=>(t,.c (.v (.slice (some ⟨b,0,none⟩) 0 0))) :: f) (fun b=>.row (.slice (some ⟨b,0,none⟩) 0 0) e sz [] :: L):=⟨fun a w s K Q hK=>by
 have hk:aP [] w (w.alloc (.cells #[] e)):=(aP.refl [] w).alloc _;have gM:(execOp a.eval ⟨some t,.buildSlice X 0 #[],T,ps,af,gd⟩).run P w=.ok (.value (.slice (some ⟨w.heap.size,0,none⟩) 0 0)) (w.alloc (.cells #[] e)):=by
  simp [execOp,Instr.buildSlice,Sem.run_bind,run_underlying (jK.iV i.h),gY.run i.s,Instr.fill,newRow,Array.range_zero']
 unfold Oper.wp;rw [gM];refine hK w.heap.size _ _ hk (s.new ht hk (by simp [ak.cA,de]) ⟨[],Row.lit w [] e sz 0 (by simp) (by simp [maxLen]),rfl⟩ (by unfold RD RA;exact ⟨rfl,rfl⟩)) (uv (by simp [ak.cA,de]))⟩
theorem Ld.dK {e sz:Nat} {x:Operand} {d:D} {cs:List A} {zs:List Value} [i:ez P X e sz] [z:aW P e zs] (ht:t < c.N) (h:aY f x=some d) (hc:fV d=some cs) (hn:cs.length=sz) (h0:Nat.ble 1 sz=true) (hs:Nat.ble sz 1000=true):Ld P c ⟨some t,.buildSlice X 1 #[(0,x)],T,ps,af,gd⟩ f L [] (fun b:Nat=>(t,.c (.v (.slice (some ⟨b,0,none⟩) 1 1))) :: f) (fun b=>.row (.slice (some ⟨b,0,none⟩) 1 1) e sz [cs] :: L):=⟨fun a w s K Q hK=>by
 have Mj:1≤sz:=Nat.le_of_ble_eq_true h0;have Ml:sz≤1000:=Nat.le_of_ble_eq_true hs;have ry:=fV.rep hc (s.ev h);have lH:(a.eval x).cells.size=sz:=by have:=ry.len;simp at this;omega
 obtain ⟨zv,wI,wJ⟩:=ni.run z.h;have Mm:zv.cells.size=sz:=by
  have h1:=z.s.symm.trans i.s;simp at h1;rw [← wI] at h1;simpa using h1
 have hk:aP [] w (w.alloc (.cells (a.eval x).cells e)):=(aP.refl [] w).alloc _;have Eo:Instr.fill (fun j=>some (j * sz,sz)) ((Array.range sz).map (zv.cells[· % zv.cells.size]!)) [(0,a.eval x)]=some (a.eval x).cells:=by
  have e1:=Ep (a.eval x).cells ((Array.range sz).map (zv.cells[· % zv.cells.size]!)) (by simp [lH]);simp only [Nat.zero_add] at e1;simpa [Instr.fill,lH] using e1
 have gM:(execOp a.eval ⟨some t,.buildSlice X 1 #[(0,x)],T,ps,af,gd⟩).run P w=.ok (.value (.slice (some ⟨w.heap.size,0,none⟩) 1 1)) (w.alloc (.cells (a.eval x).cells e)):=by
  have h1:¬ sz > 2 ^ 24:=by omega
  have h2:¬ sz=0:=by omega
  simp only [execOp,Instr.buildSlice,Sem.run_bind,run_underlying (jK.iV i.h),gY.run i.s,Result.andThen_ok,Nat.one_mul,h1,h2,↓reduceIte,wJ,Sem.run_pure,List.map_toArray,List.map_cons,List.map_nil,Eo,newRow,run_newObj_alloc]
 unfold Oper.wp;rw [gM];have hf:∀ y∈(ak.row (.slice (some ⟨w.heap.size,0,none⟩) 1 1) e sz [cs]).cA,w.heap.size≤y:=by simp [ak.cA,de]
 refine hK w.heap.size _ _ hk (s.new ht hk hf ⟨(a.eval x).cells.toList,?_,?_⟩ (by unfold RD RA;exact ⟨rfl,rfl⟩)) (uv hf)
 ·have:=Row.lit w (a.eval x).cells.toList e sz 1 (by simp [lH]) (by simp [maxLen]);simpa [de] using this
 ·refine ⟨(a.eval x).cells.toList,[],by simp,by simpa using lH,?_,rfl⟩;exact RC.cD (Mon.jJ hk fun g hg ho=>⟨wG hf g hg ho,by simp⟩) cs _ ry⟩
where
 Ep (u z:Array Value) (h:z.size=u.size):u.zipIdx.foldl (fun cs x=>cs.setIfInBounds (0 + x.2) x.1) z=u:=by
  have key:∀ (l:List Value) (k:Nat) (z:Array Value),k + l.length≤z.size→(l.zipIdx k).foldl (fun cs x=>cs.setIfInBounds (0 + x.2) x.1) z=(z.toList.take k ++ l ++ z.toList.drop (k + l.length)).toArray:=by
   intro l
   induction l with
   | nil=>intro k z hz;simp
   | cons x l ih =>
    intro k z hz;simp only [List.length_cons] at hz;rw [List.zipIdx_cons,List.foldl_cons,ih (k + 1) _ (by simp;omega)];simp only [Nat.zero_add];apply congrArg;simp only [Array.toList_setIfInBounds,List.length_cons];rw [List.take_add_one,List.take_set,List.getElem?_set_self (by simp;omega)];rw [List.set_eq_of_length_le (by simp;omega),List.drop_set,if_pos (by omega)];simp only [Option.toList_some,List.append_assoc,List.singleton_append,List.cons_append,List.nil_append];rw [show k + (l.length + 1)=k + 1 + l.length by omega]
  rw [← Array.foldl_toList,Array.toList_zipIdx,key u.toList 0 z (by simp [h])];have:List.drop u.size z.toList=[]:=List.drop_eq_nil_of_le (by simp [h]);simp [this]
end
end Fl
open Go.RowKit
namespace Fl
theorem iJ (r:ak) (L:List ak) (x:Nat):x∈bL (r :: L)↔x∈r.cA∨x∈bL L:=by simp [bL]
theorem RA.view {ok:Nat→Prop} {w:World} {sz:Nat} {l:List (List A)} {x:Value} (h:RA ok w (.r sz l) x):∃ ys S,View w x sz l.length ys S∧RX ok w sz l ys∧∀ g∈S,ok g:=by
 unfold RA at h;obtain ⟨ao,cap,rfl,h1,h2,h3⟩:=h;rcases h3 with rfl | ⟨g,off,rfl,rG,hg,hl⟩
 ·exact ⟨[],[],⟨by simp,ao,cap,rfl,by simpa using h1,h2,.inl ⟨rfl,rfl⟩⟩,rfl,by simp⟩
 ·have key:∀ (l:List (List A)) (off:Nat),RL ok w l g off sz→∃ ys:List Value,ys.length=l.length * sz∧w.rangeAt g off ys∧RX ok w sz l ys:=by
   intro l
   induction l with
   | nil=>intro off _;exact ⟨[],by simp,fun j v hj=>by simp at hj,rfl⟩
   | cons cs l ih =>
    intro off h;unfold RL at h;obtain ⟨⟨vs,a1,a2,a3⟩,h4⟩:=h;obtain ⟨ys,b1,b2,b3⟩:=ih _ h4;refine ⟨vs ++ ys,by simp [a1,b1,Nat.add_mul,Nat.add_comm],fun j v hj=>?_,vs,ys,rfl,a1,a3,b3⟩
    by_cases gq:j < vs.length
    ·rw [List.getElem?_append_left gq] at hj;exact a2 j v hj
    ·rw [List.getElem?_append_right (by omega)] at hj;have:=b2 _ v hj;rw [show off + sz + (j - vs.length)=off + j by omega] at this;exact this
  obtain ⟨ys,b1,b2,b3⟩:=key l off hl;exact ⟨ys,[g],⟨b1,_,cap,rfl,h1,h2,.inr ⟨g,off,rfl,rfl,hg,fun j hj=>by rw [List.getElem?_eq_getElem hj];exact b2 j _ (List.getElem?_eq_getElem hj)⟩⟩,b3,by simpa using rG⟩
theorem RA.wK {ok:Nat→Prop} {w:World} {sz:Nat} {l:List (List A)} {x:Value} {ys:List Value} {S:List Nat} (h:View w x sz l.length ys S) (hr:RX ok w sz l ys) (hS:∀ g∈S,ok g):RA ok w (.r sz l) x:=by
 unfold RA;obtain ⟨hl,ao,cap,rfl,h1,h2,h3⟩:=h;refine ⟨ao,cap,rfl,h1,h2,?_⟩;rcases h3 with ⟨h3,_⟩ | ⟨g,off,rfl,rfl,hg,hc⟩
 ·exact .inl (List.length_eq_zero_iff.1 h3)
 ·refine .inr ⟨g,off,rfl,hS g (by simp),hg,?_⟩;have key:∀ (l:List (List A)) (ys:List Value) (off:Nat),w.rangeAt g off ys→RX ok w sz l ys→RL ok w l g off sz:=by
   intro l
   induction l with
   | nil=>intro ys off _ _;unfold RL;trivial
   | cons cs l ih =>
    intro ys off hc h;obtain ⟨vs,us,rfl,a1,a2,a3⟩:=h;unfold RL;refine ⟨⟨vs,a1,fun j v hj=>hc j v (by rw [List.getElem?_append_left (List.getElem?_eq_some_iff.1 hj).1];exact hj),a2⟩,ih us (off + sz) (fun j v hj=>?_) a3⟩;have:=hc (sz + j) v (by rw [List.getElem?_append_right (by omega),a1,Nat.add_sub_cancel_left];exact hj);rw [Nat.add_assoc];exact this
  exact key l ys off (fun j v hj=>by rw [hc j (List.getElem?_eq_some_iff.1 hj).1];exact hj) hr
theorem Er {w:World} {v:Value} {e:TypeId} {sz n:Nat} {xs:List Value} {S:List Nat} (h:Row w v e sz n xs S):de v=S:=by
 obtain ⟨h0,ao,cap,rfl,h2,h3,h4⟩:=h;rcases h4 with ⟨rfl,_,_,rfl⟩ | ⟨g,off,cur,rfl,rfl,_⟩ <;> rfl
section
variable {P:Program} {c:Cx} {k:List Item} {f:Fm} {L:List ak} {ops:Array Oper} {l:List Oper} {o:Oper} {T X:TypeId} {ps:String} {af:Array Edge} {gd:Option (Nat × Bool)} {t:Nat}
inductive rL (L:List ak) (e:TypeId) (sz:Nat):Value→List (List A)→List ak→Prop
 | own {v m L'}:L=.row v e sz m :: L'→rL L e sz v m L'
 | nil:rL L e sz (.slice none 0 0) [] L
inductive lJ (L:List ak) (sz:Nat):D→List (List A)→Prop
 | read {m}:lJ L sz (.c (.r sz m)) m
 | own (i:Nat) {v e m}:L[i]?=some (.row v e sz m)→lJ L sz (.c (.v v)) m
 | nil:lJ L sz (.c (.v (.slice none 0 0))) []
theorem Ld.Es {e sz bytes:Nat} {z:Value} [E:fD P X e sz bytes z] {x y:Operand} {v:Value} {l1 l2:List (List A)} {L':List ak} {d2:D} (h1:aY f x=some (.c (.v v))) (hd:rL L e sz v l1 L') (h2:aY f y=some d2) (hs:lJ L' sz d2 l2) (hb:(l1.length + l2.length) * bytes≤140737488355328)
  {a:Act} {w:World} (s:St c f L a w):∃ v' w',(execOp a.eval ⟨some t,.call ⟨.builtin .append,#[x,y],#[X,X]⟩,T,ps,af,gd⟩).run P w=.ok (.value v') w'∧aP (de v) w w'∧Mon (bz c L) (bz c (.row v' e sz (l1 ++ l2) :: L')) w w'∧(ak.row v' e sz (l1 ++ l2)).holds (bz c (.row v' e sz (l1 ++ l2) :: L')) w'∧(∀ g∈de v',g∈de v∨w.heap.size≤g)∧(∀ q∈L',q∈L∧∀ g∈q.cA,g∉de v)∧fC L'∧(∀ g∈de v,g∈bL L):=by
 have rx:=s.val h1;have ry:=s.ev h2;have hD:∃ xs,Row w v e sz l1.length xs (de v)∧RX (bz c L) w sz l1 xs∧(∀ q∈L',q∈L∧∀ g∈q.cA,g∉de v)∧fC L'∧(∀ g∈de v,g∈bL L):=by
  cases hd with
  | own e1 =>
   subst e1;obtain ⟨xs,g1,g2⟩:=s.res _ (List.mem_cons_self ..);have ap:=List.pairwise_cons.1 s.ap;exact ⟨xs,g1,g2,fun q hq=>⟨List.mem_cons_of_mem _ hq,fun g hg eL=>ap.1 q hq g eL hg⟩,ap.2,fun g hg=>cZ.2 ⟨_,List.mem_cons_self ..,hg⟩⟩
  | nil=>exact ⟨[],Row.nil w e sz,rfl,fun q hq=>⟨hq,fun g _ hg=>by simp [de] at hg⟩,s.ap,fun g hg=>by simp [de] at hg⟩
 obtain ⟨xs,r1,r2,r3,r4,r5⟩:=hD;have hS:∃ ys S,View w (a.eval y) sz l2.length ys S∧RX (bz c L) w sz l2 ys:=by
  cases hs with
  | read=>unfold RD at ry;obtain ⟨ys,S,g1,g2,_⟩:=ry.view;exact ⟨ys,S,g1,g2⟩
  | own i hi =>
   obtain ⟨ys,g1,g2⟩:=s.res _ (r3 _ (List.mem_of_getElem? hi)).1;unfold RD RA at ry;rw [ry.1];exact ⟨ys,_,g1.view,g2⟩
  | nil =>
   unfold RD RA at ry;rw [ry.1];exact ⟨[],[],View.nil w sz,rfl⟩
 obtain ⟨ys,S,s1,s2⟩:=hS;obtain ⟨ao,cap,w',S',gM,g1,g2,g3,_⟩:=DH E.h T r1 s1 s2.one hb;have wL:=Er g1;have hm:Mon (bz c L) (bz c (.row (.slice ao (l1.length + l2.length) cap) e sz (l1 ++ l2) :: L')) w w':=by
  refine Mon.jJ g2 fun g hg ho=>⟨⟨ho.1,fun j3=>?_⟩,fun j3=>ho.2 (r5 g j3)⟩
  rcases (iJ _ _ _).1 j3 with j3 | j3
  ·rw [ak.cA,wL] at j3;rcases g3 g j3 with h | h
   ·exact ho.2 (r5 g h)
   ·omega
  ·obtain ⟨q,hq,Et⟩:=cZ.1 j3;exact ho.2 (cZ.2 ⟨q,(r3 q hq).1,Et⟩)
 refine ⟨.slice ao (l1.length + l2.length) cap,w',?_,g2,hm,⟨xs ++ ys,by rw [wL,List.length_append];exact g1,RX.app (RX.cD hm _ _ r2) (RX.cD hm _ _ s2)⟩,fun g hg=>by rw [wL] at hg;exact g3 g hg,r3,r4,r5⟩;simp [execOp,resolve,invoke,builtin,rx,Sem.run_bind,gM]
theorem St.Eu {e sz:Nat} {v v':Value} {l1 l2:List (List A)} {L':List ak} {a:Act} {w w':World} (s:St c f L a w) (ht:t < c.N) (k:aP (de v) w w') (m:Mon (bz c L) (bz c (.row v' e sz (l1 ++ l2) :: L')) w w') (hh:(ak.row v' e sz (l1 ++ l2)).holds (bz c (.row v' e sz (l1 ++ l2) :: L')) w') (hv:∀ g∈de v',g∈de v∨w.heap.size≤g) (h3:∀ q∈L',q∈L∧∀ g∈q.cA,g∉de v) (h4:fC L') (h5:∀ g∈de v,g∈bL L) (h1:v'.oneCell'=true) :
  St c ((t,.c (.v v')) :: f) (.row v' e sz (l1 ++ l2) :: L') (a.put (some t) v') w':=by
 refine s.put ht (by unfold RD RA;exact ⟨rfl,h1⟩) (s.kp.trans k (fun g hg=>s.dS g (h5 g hg))) ?_ ?_ ?_ m
 ·intro q hq;rcases List.mem_cons.1 hq with rfl | hq
  ·exact hh
  ·exact (s.res q (h3 q hq).1).cD k m (fun g hg eL=>(h3 q hq).2 g hg eL)
 ·intro x hx;rcases (iJ _ _ _).1 hx with hx | hx
  ·rcases hv x hx with h | h
   ·exact s.dS x (h5 x h)
   ·exact .inr (Nat.le_trans s.kp.size h)
  ·obtain ⟨q,hq,jL⟩:=cZ.1 hx;exact s.dS x (cZ.2 ⟨q,(h3 q hq).1,jL⟩)
 ·refine List.pairwise_cons.2 ⟨fun q hq x hx gw=>?_,h4⟩;rcases hv x hx with h | h
  ·exact (h3 q hq).2 x gw h
  ·have:=s.lt x (cZ.2 ⟨q,(h3 q hq).1,gw⟩);omega
theorem Ld.zJ {e sz bytes:Nat} {z:Value} [E:fD P X e sz bytes z] {x y:Operand} {v:Value} {l1 l2:List (List A)} {L':List ak} {d2:D} (ht:t < c.N) (h1:aY f x=some (.c (.v v))) (hd:rL L e sz v l1 L') (h2:aY f y=some d2) (hs:lJ L' sz d2 l2) (hb:(l1.length + l2.length) * bytes≤140737488355328) :
  Ld P c ⟨some t,.call ⟨.builtin .append,#[x,y],#[X,X]⟩,T,ps,af,gd⟩ f L (de v) (fun v':Value=>(t,.c (.v v')) :: f) (fun v'=>.row v' e sz (l1 ++ l2) :: L'):=⟨fun a w s K Q hK=>by
 obtain ⟨v',w',gM,g1,g2,g3,g4,g5,g6,g7⟩:=Ld.Es (P:=P) (X:=X) (t:=t) (T:=T) (ps:=ps) (af:=af) (gd:=gd) h1 hd h2 hs hb s;unfold Oper.wp;rw [gM];have Ew:v'.oneCell'=true:=by
  obtain ⟨xs,r,_⟩:=g3;obtain ⟨ao,cap,rfl⟩:=r.shape;rfl
 exact hK v' _ _ g1 (s.Eu ht g1 g2 g3 g4 g5 g6 g7 Ew) fun y hy=>by
  rcases (iJ _ _ _).1 hy with hy | hy
  ·rcases g4 y hy with h | h
   ·exact .inl (g7 y h)
   ·exact .inr h
  ·obtain ⟨q,hq,Ex⟩:=cZ.1 hy;exact .inl (cZ.2 ⟨q,(g5 q hq).1,Ex⟩)⟩
theorem St.freeze {e sz:Nat} {v:Value} {l:List (List A)} {a:Act} {w:World} (s:St c ((t,.c (.v v)) :: f) (.row v e sz l :: L) a w):St c ((t,.c (.r sz l)) :: f) L a w:=by
 have m:Mon (bz c (.row v e sz l :: L)) (bz c L) w w:=⟨Nat.le_refl _,fun g _ ho=>⟨⟨ho.1,fun hx=>ho.2 ((iJ _ _ _).2 (.inr hx))⟩,rfl⟩⟩
 have ap:=List.pairwise_cons.1 s.ap;refine ⟨s.kp,s.size,s.jj,fun q hq=>(s.res q (List.mem_cons_of_mem _ hq)).cD (aP.refl [] w) m (by simp),fun x hx=>s.dS x ((iJ _ _ _).2 (.inr hx)),ap.2,fun u e' hu=>?_⟩
 by_cases e1:t=u
 ·subst e1;rw [rD] at hu;cases hu;have hv:=s.fr t _ (rD _ _ _);obtain ⟨xs,r1,r2⟩:=s.res _ (List.mem_cons_self ..);unfold RD RA at hv;rw [hv.1];unfold RD;refine RA.wK r1.view (RX.cD m _ _ r2) fun g hg=>⟨.inr (s.dS g ((iJ _ _ _).2 (.inl hg))),fun hx=>?_⟩
  obtain ⟨q,hq,jL⟩:=cZ.1 hx;exact ap.1 q hq g hg jL
 ·rw [uh e1] at hu;exact RD.cD m e' _ (s.fr u e' (by rw [uh e1];exact hu))
theorem Ld.Ey {e sz bytes:Nat} {z:Value} [E:fD P X e sz bytes z] {x y:Operand} {v:Value} {l1 l2:List (List A)} {L':List ak} {d2:D} (ht:t < c.N) (h1:aY f x=some (.c (.v v))) (hd:rL L e sz v l1 L') (h2:aY f y=some d2) (hs:lJ L' sz d2 l2) (hb:(l1.length + l2.length) * bytes≤140737488355328) :
  Ld P c ⟨some t,.call ⟨.builtin .append,#[x,y],#[X,X]⟩,T,ps,af,gd⟩ f L (de v) (fun _:Unit=>(t,.c (.r sz (l1 ++ l2))) :: f) (fun _=>L'):=⟨fun a w s K Q hK =>
 (Ld.zJ ht h1 hd h2 hs hb).go a w s K Q fun v' u w' k' s' hf=>hK () u w' k' s'.freeze fun y hy=>hf y ((iJ _ _ _).2 (.inr hy))⟩
end
end Fl
open Go.RowKit
namespace Fl
inductive jr:A→A→Prop
 | refl {a}:jr a a
 | nil {sz}:jr (.v (.slice none 0 0)) (.r sz [])
inductive jM:List A→List A→Prop
 | nil:jM [] []
 | cons {a b xs ys}:jr a b→jM xs ys→jM (a :: xs) (b :: ys)
 | refl {xs}:jM xs xs
mutual
inductive dm:D→D→Prop
 | refl {d}:dm d d
 | c {a b}:jr a b→dm (.c a) (.c b)
 | agg {a b}:jM a b→dm (.agg a) (.agg b)
 | any {d}:dm d .any
 | aU {a b}:bR a b→dm (.aU a) (.aU b)
inductive bR:List D→List D→Prop
 | nil:bR [] []
 | cons {a b xs ys}:dm a b→bR xs ys→bR (a :: xs) (b :: ys)
end
theorem dm.of_eq {a b:D} (h:a=b):dm a b:=h ▸ .refl
section
variable {ok:Nat→Prop} {w:World}
theorem jr.rep {a b:A} (h:jr a b) {x:Value} (r:RA ok w a x):RA ok w b x:=by
 cases h with
 | refl=>exact r
 | nil=>unfold RA at r ⊢;exact ⟨none,0,r.1,by simp,by simp [maxLen],.inl rfl⟩
theorem jM.rep {a b:List A} (h:jM a b):∀ {x:List Value},RC ok w a x→RC ok w b x:=by
 induction h with
 | nil=>exact id
 | refl=>exact id
 | cons h1 h2 ih=>intro x r;unfold RC at r;obtain ⟨y,ys,rfl,r1,r2⟩:=r;exact RC.cons (h1.rep r1) (ih r2)
mutual
theorem dm.rep {a b:D}:dm a b→∀ {x:Value},RD ok w a x→RD ok w b x
 | .refl,x,r=>r
 | .c h,x,r=>by unfold RD at r ⊢;exact h.rep r
 | .agg h,x,r=>by unfold RD at r ⊢;obtain ⟨vs,h1,h2⟩:=r;exact ⟨vs,h1,h.rep h2⟩
 | .any,x,r=>by unfold RD;trivial
 | .aU h,x,r=>by unfold RD at r ⊢;obtain ⟨vs,h1,h2⟩:=r;exact ⟨vs,h1,bR.rep h h2⟩
theorem bR.rep {a b:List D}:bR a b→∀ {x:List Value},bU ok w a x→bU ok w b x
 | .nil,x,r=>r
 | .cons h1 h2,x,r=>by unfold bU at r;obtain ⟨y,ys,rfl,r1,r2⟩:=r;exact bU.cons (dm.rep h1 r1) (bR.rep h2 r2)
end
end
def oK (ok:Nat→Prop) (e:World) (L pL:List ak) (g:Nat):Prop:=(ok g∨g∈bL L∨e.heap.size≤g)∧g∉bL pL
def Ez (ok:Nat→Prop) (e:World) (L:List ak) (pd:D) (pL:List ak) (en:Ending) (w':World):Prop :=
 ∃ x,en=.returned x∧aP (bL L) e w'∧(∀ y∈bL pL,y∈bL L∨e.heap.size≤y)∧fC pL∧(∀ r∈pL,r.holds (oK ok e L pL) w')∧RD (oK ok e L pL) w' pd x
def wM {ι:Type} (ok:Nat→Prop) (e:World) (L:List ak) (post:ι→D × List ak) (en:Ending) (w':World):Prop:=∃ i,Ez ok e L (post i).1 (post i).2 en w'
structure aA (P:Program) (F:FuncId) (ds:List D) (L:List ak) {ι:Type} (post:ι→D × List ak):Prop where
 go:∀ (ok:Nat→Prop) (e:World) (xs:List Value),bU ok e ds xs→(∀ r∈L,r.holds ok e)→fC L→(∀ x∈bL L,¬ ok x)→Calls P F xs.toArray e (wM ok e L post)
abbrev Pure (P:Program) (F:FuncId) (ds:List D) (d:D):Prop:=aA P F ds [] (fun _:Unit=>(d,[]))
def cx (F:FuncId) {ι:Type} (ok:Nat→Prop) (e:World) (L:List ak) (post:ι→D × List ak) (N:Nat):Cx:=⟨F,wM ok e L post,bL L,ok,e,N⟩
def pS:Nat→List D→Fm
 | _,[]=>[]
 | k,d :: ds=>(k,d) :: pS (k + 1) ds
theorem zK:∀ (ds:List D) (k t:Nat) (d:D),look (pS k ds) t=some d→k≤t∧ds[t - k]?=some d
 | [],k,t,d,h=>by simp [pS,look] at h
 | x :: ds,k,t,d,h=>by
  simp only [pS,look] at h
  cases hb:Nat.beq k t with
  | true =>
   rw [hb] at h;have:=Nat.eq_of_beq_eq_true hb;subst this;simp at h;subst h;simp
  | false =>
   rw [hb] at h;obtain ⟨h1,h2⟩:=zK ds (k + 1) t d h;exact ⟨by omega,by rw [show t - k=t - (k + 1) + 1 by omega];simpa using h2⟩
section
variable {P:Program} {F:FuncId} {ds:List D} {L:List ak} {ι:Type} {post:ι→D × List ak} {fn:Func} {body:Code} {N:Nat}
theorem aA.intro (hf:P.funcs[F]?=some fn) (hb:fn.body=some body) (hN:fn.ntmps=N) (hn:Nat.ble ds.length N=true)
  (h:∀ ok e,J P (cx F ok e L post N) [.code body] (pS 0 ds) L):aA P F ds L post:=⟨fun ok e xs hd hr ha ho cs=>by
 have hlen:=hd.len;have j4:ds.length≤N:=Nat.le_of_ble_eq_true hn
 let b:Frame:={ (default:Frame) with fn:=F,kind:=.normal }
 have EA:Frame.enter P F xs.toArray .normal=b.at { tmps:=xs.toArray ++ Array.replicate (fn.ntmps - xs.toArray.size) undef,defers:=[] } [.code body]:=by
  simp [Frame.enter,Frame.at,hf,hb,b]
 have m:Mon ok (bz (cx F ok e L post N) L) e e:=⟨Nat.le_refl _,fun g _ hg=>⟨⟨.inl hg,fun hx=>ho g hx hg⟩,rfl⟩⟩
 have kL:St (cx F ok e L post N) (pS 0 ds) L { tmps:=xs.toArray ++ Array.replicate (fn.ntmps - xs.toArray.size) undef,defers:=[] } e:=by
  refine ⟨aP.refl _ _,by simp [cx];omega,rfl,fun r EB=>(hr r EB).cD (aP.refl [] e) m (by simp),fun x hx=>.inl hx,ha,fun t d ht=>?_⟩;obtain ⟨_,h2⟩:=zK ds 0 t d ht;rw [Nat.sub_zero] at h2;obtain ⟨x,hx,mu⟩:=hd.get t h2;have gq:=(List.getElem?_eq_some_iff.1 hx).1;have:(xs.toArray ++ Array.replicate (fn.ntmps - xs.toArray.size) undef).getD t undef=x:=by
   rw [Array.getD_eq_getD_getElem?,Array.getElem?_append_left (by simpa using gq)];simp [hx]
  rw [this];exact RD.cD m d _ mu
 obtain ⟨en,w',fr,h1,h2,h3,h4⟩:=(h ok e).go _ e kL b cs rfl rfl;exact ⟨en,w',fr,h1,by rw [EA];exact h2,h3,h4⟩⟩
end
inductive pU (P:Program) (f:Fm) (L:List ak):ResultVar→D→Prop
 | tmp {t d}:look f t=some d→pU P f L (.tmp t) d
 | cell (i:Nat) {t b T B n cs} [gL P T n]:look f t=some (.c (.v (.pointer (some ⟨b,0,none⟩))))→L[i]?=some (.box b B cs)→cs.length=n→pU P f L (.cell t T) (.agg cs)
 | EC (i:Nat) {t b T B a} [fU P T]:look f t=some (.c (.v (.pointer (some ⟨b,0,none⟩))))→L[i]?=some (.box b B [a])→pU P f L (.cell t T) (.c a)
inductive fE (P:Program) (f:Fm) (L:List ak):List ResultVar→List D→Prop
 | nil:fE P f L [] []
 | cons {r d rs ds}:pU P f L r d→fE P f L rs ds→fE P f L (r :: rs) (d :: ds)
def lK:List D→D
 | [d]=>d
 | ds=>.aU ds
def rM (tmps:Array Value):ResultVar→Sem Value
 | .tmp t=>pure (tmps.getD t undef)
 | .cell a t=>do loadVar t (← asAddr (tmps.getD a undef))
theorem ED (fn:Func) (tmps:Array Value):results fn tmps=(do let vs ← fn.results.mapM (rM tmps);pure (if h:vs.size=1 then vs[0] else .tuple vs)):=rfl
section
variable {P:Program} {c:Cx} {f:Fm} {L:List ak}
theorem pU.run {r:ResultVar} {d:D} (h:pU P f L r d) {a:Act} {w:World} (s:St c f L a w):∃ x,RD (bz c L) w d x∧(rM a.tmps r).run P w=.ok x w:=by
 cases h with
 | tmp h1=>exact ⟨_,s.fr _ _ h1,rfl⟩
 | @cell i t b T B n cs it h1 h2 h3 =>
  have hv:=s.fr _ _ h1;unfold RD RA at hv;obtain ⟨vs,g1,g2⟩:=s.res _ (List.mem_of_getElem? h2);refine ⟨.agg vs.toArray,by unfold RD;exact ⟨vs,rfl,g2⟩,?_⟩;have hlen:=g2.len;have rE:(loadCells ⟨b,0,none⟩ vs.length).run P w=.ok vs.toArray w:=run_loadCells_list (P:=P) w ⟨b,0,none⟩ _ (fun j v hv=>by rw [Addr.add_mid];exact g1.range j v hv);rw [hlen,h3] at rE;simp only [rM,hv.1,asAddr,Sem.run_bind,Sem.run_pure,Result.andThen_ok,loadVar,jm.runT it.h,↓reduceIte,gY.run it.s,rE]
 | @EC i t b T B e it h1 h2 =>
  have hv:=s.fr _ _ h1;unfold RD RA at hv;obtain ⟨vs,g1,g2⟩:=s.res _ (List.mem_of_getElem? h2);obtain ⟨x,hx,hr⟩:=g2.get 0 rfl;refine ⟨x,by unfold RD;exact hr,?_⟩;have pH:w.cell? ⟨b,0,none⟩=some x:=by rw [g1.cell];exact hx
  have hl:(load ⟨b,0,none⟩).run P w=.ok x w:=by simp [load,Sem.run,pH]
  simp only [rM,hv.1,asAddr,Sem.run_bind,Sem.run_pure,Result.andThen_ok,loadVar,jm.wD it.h,Bool.false_eq_true,↓reduceIte,hl]
theorem fE.run {rs:List ResultVar} {ds:List D} (h:fE P f L rs ds) {a:Act} {w:World} (s:St c f L a w):∃ xs,bU (bz c L) w ds xs∧(rs.mapM (rM a.tmps)).run P w=.ok xs w:=by
 induction h with
 | nil=>exact ⟨[],bU.nil,rfl⟩
 | cons h1 h2 ih =>
  obtain ⟨x,a1,a2⟩:=h1.run s;obtain ⟨xs,b1,b2⟩:=ih;refine ⟨x :: xs,bU.cons a1 b1,?_⟩;rw [List.mapM_cons,Sem.run_bind,a2];simp [Sem.run_bind,b2]
end
section
variable {P:Program} {F:FuncId} {ok:Nat→Prop} {e:World} {L0 L L':List ak} {ι:Type} {post:ι→D × List ak} {fn:Func} {N:Nat} {f:Fm} {k:List Item}
theorem mapM_some {α:Type} {L L':List α}:∀ {idx:List Nat},idx.map (fun i=>L[i]?)=L'.map some→∀ q∈L',q∈L
 | [],h=>by cases L' with | nil=>simp | cons x l=>simp at h
 | i :: idx,h=>by
  cases L' with
  | nil=>simp
  | cons x l =>
   simp only [List.map_cons,List.cons.injEq] at h;intro q hq;rcases List.mem_cons.1 hq with rfl | hq
   ·exact List.mem_of_getElem? h.1
   ·exact mapM_some h.2 q hq
theorem zL {L:List ak} (ha:fC L):∀ {idx:List Nat} {L':List ak},idx.Nodup→idx.map (fun i=>L[i]?)=L'.map some→fC L'
 | [],L',hn,h=>by cases L' with | nil=>exact List.Pairwise.nil | cons x l=>simp at h
 | i :: idx,L',hn,h=>by
  cases L' with
  | nil=>simp at h
  | cons x l =>
   simp only [List.map_cons,List.cons.injEq] at h;have nr:=List.nodup_cons.1 hn;refine List.pairwise_cons.2 ⟨fun q hq=>?_,zL ha nr.2 h.2⟩;have:∃ j∈idx,L[j]?=some q:=by
    have hm:some q∈l.map some:=List.mem_map.2 ⟨q,hq,rfl⟩;rw [← h.2] at hm;exact List.mem_map.1 hm
   obtain ⟨j,hj,oG⟩:=this;exact fC.ne ha h.1 oG (fun e=>nr.1 (e ▸ hj))
theorem zM (hf:P.funcs[F]?=some fn) {rs:List ResultVar} {ds:List D} (iW:fn.results=rs.toArray) (h:fE P f L rs ds) {d:D} {i:ι} (hle:dm (lK ds) d) (idx:List Nat) (dF:idx.Nodup) (hL:idx.map (fun i=>L[i]?)=L'.map some) (hp:post i=(d,L')) {a:Act} {w:World} (s:St (cx F ok e L0 post N) f L a w) :
  ∃ x,(results fn a.tmps).run P w=.ok x w∧wM ok e L0 post (.returned x) w:=by
 obtain ⟨xs,h1,h2⟩:=h.run s;have hr:(results fn a.tmps).run P w=.ok (if h:xs.toArray.size=1 then xs.toArray[0] else .tuple xs.toArray) w:=by
  rw [ED,iW,List.mapM_toArray,Sem.run_bind,map_eq_pure_bind,Sem.run_bind,h2];rfl
 refine ⟨_,hr,i,?_⟩;rw [hp];have zN:=mapM_some hL;have zO:∀ x,x∈bL L'→x∈bL L:=fun x hx=>by
  obtain ⟨q,hq,hx⟩:=cZ.1 hx;exact cZ.2 ⟨q,zN q hq,hx⟩
 have m:Mon (bz (cx F ok e L0 post N) L) (oK ok e L0 L') w w:=⟨Nat.le_refl _,fun g _ hg=>⟨⟨hg.1,fun hx=>hg.2 (zO g hx)⟩,rfl⟩⟩
 refine ⟨_,rfl,s.kp,fun y hy=>s.dS y (zO y hy),zL s.ap dF hL,fun r hr=>(s.res r (zN r hr)).cD (aP.refl [] w) m (by simp),RD.cD m _ _ (hle.rep ?_)⟩
 cases ds with
 | nil=>unfold bU at h1;subst h1;unfold lK RD;exact ⟨[],rfl,bU.nil⟩
 | cons d1 ds =>
  unfold bU at h1;obtain ⟨x,ys,rfl,h3,h4⟩:=h1
  cases ds with
  | nil=>unfold bU at h4;subst h4;exact h3
  | cons d2 ds =>
   unfold bU at h4;obtain ⟨y,zs,rfl,h5,h6⟩:=h4;unfold lK RD;exact ⟨x :: y :: zs,rfl,bU.cons h3 (bU.cons h5 h6)⟩
theorem J.ret (hf:P.funcs[F]?=some fn) {rs:List ResultVar} {ds:List D} (iW:fn.results=rs.toArray) (h:fE P f L rs ds) {d:D} (i:ι) (hle:dm (lK ds) d) (idx:List Nat) (dF:idx.Nodup) (hL:idx.map (fun i=>L[i]?)=L'.map some) (hp:post i=(d,L')):J P (cx F ok e L0 post N) (.code .ret :: k) f L:=⟨fun a w s=>by
 obtain ⟨x,h1,h2⟩:=zM hf iW h hle idx dF hL hp s;exact fun b cs hb hk=>⟨.returned x,w,_,h2,Steps.one step_ret,hb,rfl,s.jj,hk,fn,by simpa [Frame.at,hb,cx] using hf,h1⟩⟩
theorem J.fin (hf:P.funcs[F]?=some fn) {rs:List ResultVar} {ds:List D} (iW:fn.results=rs.toArray) (h:fE P f L rs ds) {d:D} (i:ι) (hle:dm (lK ds) d) (idx:List Nat) (dF:idx.Nodup) (hL:idx.map (fun i=>L[i]?)=L'.map some) (hp:post i=(d,L')):J P (cx F ok e L0 post N) [] f L:=⟨fun a w s=>by
 obtain ⟨x,h1,h2⟩:=zM hf iW h hle idx dF hL hp s;exact fun b cs hb hk=>⟨.returned x,w,_,h2,Steps.one step_end,hb,rfl,s.jj,hk,fn,by simpa [Frame.at,hb,cx] using hf,h1⟩⟩
end
end Fl
open Go.RowKit
namespace Fl
theorem nt (L M:List ak) (x:Nat):x∈bL (L ++ M)↔x∈bL L∨x∈bL M:=by simp [bL]
def fS (f:Fm):List Operand→Option (List D)
 | []=>some []
 | x :: xs=>match aY f x,fS f xs with
  | some d,some ds=>some (d :: ds)
  | _,_=>none
section
variable {P:Program} {c:Cx} {k:List Item} {f:Fm} {L:List ak} {ops:Array Oper} {l:List Oper} {o:Oper} {T X:TypeId} {ps:String} {af:Array Edge} {gd:Option (Nat × Bool)} {t:Nat}
theorem St.iK {a:Act} {w:World} (s:St c f L a w):∀ {xs:List Operand} {ds:List D},fS f xs=some ds→bU (bz c L) w ds (xs.map a.eval)
 | [],ds,h=>by simp [fS] at h;subst h;exact bU.nil
 | x :: xs,ds,h=>by
  unfold fS at h
  cases h1:aY f x with
  | none=>rw [h1] at h;cases h
  | some d =>
   cases h2:fS f xs with
   | none=>rw [h1,h2] at h;cases h
   | some pV=>rw [h1,h2] at h;cases h;exact bU.cons (s.ev h1) (St.iK s h2)
theorem EE {F:FuncId} (h:wF P F=true) (args:Array Value) (w:World):(callFunc F args).run P w=.ok (.enter F args) w:=by
 unfold wF at h
 cases hf:P.funcs[F]? with
 | none=>rw [hf] at h;cases h
 | some fn =>
  rw [hf] at h;simp at h;have h2:fn.body≠none:=by intro hb;simp [hb] at h
  simp [callFunc,Sem.run_bind,hf,h.1,h2]
theorem Ld.call {F:FuncId} {args:List Operand} {tys:Array TypeId} {cV ds:List D} {Ll Lr:List ak} {ι:Type} {post:ι→D × List ak} [i:aS P F] (hC:aA P F ds Ll post) (ht:t < c.N) (h:fS f args=some cV) (hle:bR cV ds) (hL:L=Ll ++ Lr) :
  Ld P c ⟨some t,.call ⟨.value (.func F),args.toArray,tys⟩,T,ps,af,gd⟩ f L (bL Ll) (fun i=>(t,(post i).1) :: f) (fun i=>(post i).2 ++ Lr):=⟨fun a w s K Q hK=>by
 have EF:=hle.rep (s.iK h);have rJ:(execOp a.eval ⟨some t,.call ⟨.value (.func F),args.toArray,tys⟩,T,ps,af,gd⟩).run P w=.ok (.enter F (args.map a.eval).toArray) w:=by
  simp [execOp,resolve,Deferred.ofValue,invoke,Act.eval,Sem.run_bind,EE i.h]
 unfold Oper.wp;rw [rJ];have wN:=List.pairwise_append.1 (show List.Pairwise _ (Ll ++ Lr) from hL ▸ s.ap);have EG:∀ r∈Ll,r∈L:=fun r hr=>hL ▸ List.mem_append_left Lr hr
 have EH:∀ r∈Lr,r∈L:=fun r hr=>hL ▸ List.mem_append_right Ll hr
 have mw:∀ x,x∈bL Ll→x∈bL L:=fun x hx=>by rw [hL,nt];exact .inl hx
 have pW:∀ x,x∈bL Lr→x∈bL L:=fun x hx=>by rw [hL,nt];exact .inr hx
 have rN:∀ x,x∈bL Ll→x∉bL Lr:=fun x hx gw=>by
  obtain ⟨q,hq,h1⟩:=cZ.1 hx;obtain ⟨r,hr,h2⟩:=cZ.1 gw;exact wN.2.2 q hq r hr x h1 h2
 refine Calls.mono (hC.go (bz c L) w (args.map a.eval) EF (fun r hr=>s.res r (EG r hr)) wN.1 (fun x hx ho=>ho.2 (mw x hx))) ?_
 rintro en w' ⟨i,x,rfl,kp,g1,g2,g3,g4⟩
 have rG:∀ g,g < w'.heap.size→oK (bz c L) w Ll (post i).2 g→bz c ((post i).2 ++ Lr) g:=fun g _ hg=>by
  obtain ⟨hg,hn⟩:=hg;rcases hg with hg | hg | hg
  ·exact ⟨hg.1,fun hx=>by rcases (nt _ _ _).1 hx with hx | hx;exact hn hx;exact hg.2 (pW g hx)⟩
  ·exact ⟨.inr (s.dS g (mw g hg)),fun hx=>by rcases (nt _ _ _).1 hx with hx | hx;exact hn hx;exact rN g hg hx⟩
  ·exact ⟨.inr (.inr (Nat.le_trans s.kp.size hg)),fun hx=>by
    rcases (nt _ _ _).1 hx with hx | hx
    ·exact hn hx
    ·have:=s.lt g (pW g hx);omega⟩
 have m1:Mon (oK (bz c L) w Ll (post i).2) (bz c ((post i).2 ++ Lr)) w' w':=⟨Nat.le_refl _,fun g hg ho=>⟨rG g hg ho,rfl⟩⟩
 have mz:∀ y,y∈bL (post i).2→y∈bL Ll∨w.heap.size≤y:=g1;have m2:Mon (bz c L) (bz c ((post i).2 ++ Lr)) w w':=Mon.jJ kp fun g hg ho=>⟨⟨ho.1,fun hx=>by
  rcases (nt _ _ _).1 hx with hx | hx
  ·rcases mz g hx with h | h
   ·exact ho.2 (mw g h)
   ·omega
  ·exact ho.2 (pW g hx)⟩,fun hx=>ho.2 (mw g hx)⟩
 refine hK i _ _ kp (s.put ht (RD.cD m1 _ _ g4) (s.kp.trans kp (fun x hx=>s.dS x (mw x hx))) ?_ ?_ ?_ m2) (fun y hy=>by
  rcases (nt _ _ _).1 hy with hy | hy
  ·rcases mz y hy with h | h
   ·exact .inl (mw y h)
   ·exact .inr h
  ·exact .inl (pW y hy))
 ·intro q hq;rcases List.mem_append.1 hq with hq | hq
  ·exact (g3 q hq).cD (aP.refl [] w') m1 (by simp)
  ·exact (s.res q (EH q hq)).cD kp m2 (fun x hx gw=>rN x gw (cZ.2 ⟨q,hq,hx⟩))
 ·intro x hx;rcases (nt _ _ _).1 hx with hx | hx
  ·rcases mz x hx with h | h
   ·exact s.dS x (mw x h)
   ·exact .inr (Nat.le_trans s.kp.size h)
  ·exact s.dS x (pW x hx)
 ·refine List.pairwise_append.2 ⟨g2,wN.2.1,fun q hq r hr x hx gw=>?_⟩;have pX:x∈bL Lr:=cZ.2 ⟨r,hr,gw⟩;rcases mz x (cZ.2 ⟨q,hq,hx⟩) with h | h
  ·exact rN x h pX
  ·have:=s.lt x (pW x pX);omega⟩
theorem JO.alloc {zs:List Value} [i:aW P X zs] (hw:dD ops ⟨some t,.alloc X,T,ps,af,gd⟩ f=true) (ht:t < c.N) (h:∀ b,JO P c ops l k ((t,.c (.v (.pointer (some ⟨b,0,none⟩)))) :: f) (.box b X (vs zs) :: L)):JO P c ops (⟨some t,.alloc X,T,ps,af,gd⟩ :: l) k f L :=
 JO.ld (Ld.alloc ht) hw h
theorem JO.box {x:Operand} {d:D} {cs:List A} (hw:dD ops ⟨some t,.box X x,T,ps,af,gd⟩ f=true) (ht:t < c.N) (hx:aY f x=some d) (hc:fV d=some cs) (h:∀ b,JO P c ops l k ((t,.c (.v (.pointer (some ⟨b,0,none⟩)))) :: f) (.box b X cs :: L)):JO P c ops (⟨some t,.box X x,T,ps,af,gd⟩ :: l) k f L :=
 JO.ld (Ld.box ht hx hc) hw h
theorem Ld.bu {x y:Operand} {b n B i:Nat} {cs es:List A} {d:D} {L':List ak} [it:eD P X n] [bx:jn L b B cs i] [st:jZ L i (.box b B es) L'] (hx:aY f x=some (.c (.v (.pointer (some ⟨b,0,none⟩))))) (hy:aY f y=some d) (hd:fV d=some es) (hn:es.length=n) (hl:cs.length=n) :
  Ld P c ⟨none,.store X x y,T,ps,af,gd⟩ f L [b] (fun _:Unit=>f) (fun _=>L'):=by
 have h:=Ld.wH (P:=P) (c:=c) (T:=T) (X:=X) (ps:=ps) (af:=af) (gd:=gd) i hx bx.h hy hd hn (by rw [hl,Nat.zero_add];exact Nat.ble_self_eq_true _);rw [zH (hn.trans hl.symm),st.h] at h;exact h
theorem Ld.cW {x y:Operand} {b o B i:Nat} {cs:List A} {e:A} {L':List ak} [it:eD P X 1] [bx:jn L b B cs i] [st:jZ L i (.box b B (cs.set o e)) L'] (hx:aY f x=some (.c (.v (.pointer (some ⟨b,o,none⟩))))) (hy:aY f y=some (.c e)) (hl:Nat.ble (o + 1) cs.length=true) :
  Ld P c ⟨none,.store X x y,T,ps,af,gd⟩ f L [b] (fun _:Unit=>f) (fun _=>L'):=by
 have h:=Ld.wH (P:=P) (c:=c) (T:=T) (X:=X) (ps:=ps) (af:=af) (gd:=gd) i hx bx.h hy rfl rfl hl;rw [Eh (Nat.le_of_ble_eq_true hl),st.h] at h;exact h
theorem Ld.mA {x y:Operand} {b o n B i:Nat} {cs es:List A} {d:D} {L':List ak} [it:eD P X n] [bx:jn L b B cs i] [st:jZ L i (.box b B (gN cs o es)) L'] (hx:aY f x=some (.c (.v (.pointer (some ⟨b,o,none⟩))))) (hy:aY f y=some d) (hd:fV d=some es) (hn:es.length=n) (hl:Nat.ble (o + n) cs.length=true) :
  Ld P c ⟨none,.store X x y,T,ps,af,gd⟩ f L [b] (fun _:Unit=>f) (fun _=>L'):=by
 have h:=Ld.wH (P:=P) (c:=c) (T:=T) (X:=X) (ps:=ps) (af:=af) (gd:=gd) i hx bx.h hy hd hn hl;rw [st.h] at h;exact h
theorem Ld.bM {x y:Operand} {v:Value} {sz q e i:Nat} {ll:List (List A)} {es:List A} {d:D} {L':List ak} [it:eD P X sz] [bx:gu L v e sz ll i] [st:jZ L i (.row v e sz (ll.set q es)) L'] (hx:aY f x=some (.ow v sz q 0)) (hy:aY f y=some d) (hd:fV d=some es) (hn:es.length=sz) (hq:q < ll.length) :
  Ld P c ⟨none,.store X x y,T,ps,af,gd⟩ f L (de v) (fun _:Unit=>f) (fun _=>L'):=⟨fun a w s=>by
 obtain ⟨xs,h1,h2⟩:=s.res _ (List.mem_of_getElem? bx.h);have hl:=RX.zI h2 (List.getElem?_eq_getElem hq);have h:=Ld.El (P:=P) (c:=c) (T:=T) (X:=X) (ps:=ps) (af:=af) (gd:=gd) i hx bx.h (List.getElem?_eq_getElem hq) hy hd hn (by rw [Nat.zero_add];exact Nat.ble_self_eq_true _);rw [zH (hn.trans hl.symm),st.h] at h;exact h.go a w s⟩
theorem Ld.pure {F:FuncId} {args:List Operand} {tys:Array TypeId} {cV ds:List D} {d:D} [i:aS P F] (hC:Pure P F ds d) (ht:t < c.N) (h:fS f args=some cV) (hle:bR cV ds) :
  Ld P c ⟨some t,.call ⟨.value (.func F),args.toArray,tys⟩,T,ps,af,gd⟩ f L [] (fun _:Unit=>(t,d) :: f) (fun _=>L):=Ld.call hC ht h hle (Ll:=[]) (Lr:=L) rfl
theorem JO.eJ {e sz:Nat} [i:ez P X e sz] (hw:dD ops ⟨some t,.buildSlice X 0 #[],T,ps,af,gd⟩ f=true) (ht:t < c.N) (h:∀ b,JO P c ops l k ((t,.c (.v (.slice (some ⟨b,0,none⟩) 0 0))) :: f) (.row (.slice (some ⟨b,0,none⟩) 0 0) e sz [] :: L)):JO P c ops (⟨some t,.buildSlice X 0 #[],T,ps,af,gd⟩ :: l) k f L :=
 JO.ld (Ld.eJ ht) hw h
theorem JO.dK {e sz:Nat} {x:Operand} {d:D} {cs:List A} {zs:List Value} [i:ez P X e sz] [z:aW P e zs] (hw:dD ops ⟨some t,.buildSlice X 1 #[(0,x)],T,ps,af,gd⟩ f=true) (ht:t < c.N) (hx:aY f x=some d) (hc:fV d=some cs) (hn:cs.length=sz) (h0:Nat.ble 1 sz=true) (hs:Nat.ble sz 1000=true)
  (h:∀ b,JO P c ops l k ((t,.c (.v (.slice (some ⟨b,0,none⟩) 1 1))) :: f) (.row (.slice (some ⟨b,0,none⟩) 1 1) e sz [cs] :: L)):JO P c ops (⟨some t,.buildSlice X 1 #[(0,x)],T,ps,af,gd⟩ :: l) k f L :=
 JO.ld (Ld.dK ht hx hc hn h0 hs) hw h
theorem JO.call {F:FuncId} {args:List Operand} {tys:Array TypeId} {cV ds:List D} {Ll Lr:List ak} {ι:Type} {post:ι→D × List ak} [i:aS P F] (hC:aA P F ds Ll post) (hw:dD ops ⟨some t,.call ⟨.value (.func F),args.toArray,tys⟩,T,ps,af,gd⟩ f=true) (ht:t < c.N) (h:fS f args=some cV) (hle:bR cV ds) (hL:L=Ll ++ Lr)
  (hk:∀ i,JO P c ops l k ((t,(post i).1) :: f) ((post i).2 ++ Lr)):JO P c ops (⟨some t,.call ⟨.value (.func F),args.toArray,tys⟩,T,ps,af,gd⟩ :: l) k f L :=
 JO.ld (Ld.call hC ht h hle hL) hw hk
theorem JO.pure {F:FuncId} {args:List Operand} {tys:Array TypeId} {cV ds:List D} {d:D} [i:aS P F] (hC:Pure P F ds d) (hw:dD ops ⟨some t,.call ⟨.value (.func F),args.toArray,tys⟩,T,ps,af,gd⟩ f=true) (ht:t < c.N) (h:fS f args=some cV) (hle:bR cV ds)
  (hk:JO P c ops l k ((t,d) :: f) L):JO P c ops (⟨some t,.call ⟨.value (.func F),args.toArray,tys⟩,T,ps,af,gd⟩ :: l) k f L :=
 JO.call hC hw ht h hle (Ll:=[]) (Lr:=L) rfl fun _=>hk
theorem J.pY (i j n:Nat) {v:Value} {e:TypeId} {sz:Nat} {ll:List (List A)} {b:Nat} {B:TypeId} {cs:List A} (hi:L[i]?=some (.row v e sz ll)) (hj:L[j]?=some (.box b B cs)) (hc:cs[n]?=some (.v v))
  (h:J P c k f ((L.set j (.box b B (cs.set n (.r sz ll)))).eraseIdx i)):J P c k f L:=⟨fun a w s=>by
 have ck:i≠j:=fun e=>by subst e;rw [hi] at hj;cases hj
 have gq:=(List.getElem?_eq_some_iff.1 hj).1;have hm:∀ q,q∈L.eraseIdx i→q∈L:=fun q hq=>List.mem_of_mem_eraseIdx hq
 have ho:∀ q∈L.eraseIdx i,∀ x∈q.cA,x∉de v:=fun q hq x hx gw=>by
  obtain ⟨m,ux⟩:=List.mem_iff_getElem?.1 hq;rw [List.getElem?_eraseIdx] at ux
  split at ux
  ·exact fC.ne s.ap hi ux (by omega) x gw hx
  ·exact fC.ne s.ap hi ux (by omega) x gw hx
 have hf:∀ x,x∈bL (L.eraseIdx i)→x∈bL L:=fun x hx=>by
  obtain ⟨q,hq,hx⟩:=cZ.1 hx;exact cZ.2 ⟨q,hm q hq,hx⟩
 have mo:Mon (bz c L) (bz c (L.eraseIdx i)) w w:=⟨Nat.le_refl _,fun g _ hg=>⟨⟨hg.1,fun hx=>hg.2 (hf g hx)⟩,rfl⟩⟩
 have s1:St c f (L.eraseIdx i) a w:=⟨s.kp,s.size,s.jj,fun q hq=>(s.res q (hm q hq)).cD (aP.refl [] w) mo (by simp),fun x hx=>s.dS x (hf x hx),s.ap.sublist (List.eraseIdx_sublist L i),fun t d ht=>RD.cD mo d _ (s.fr t d ht)⟩
 obtain ⟨xs,r1,r2⟩:=s.res _ (List.mem_of_getElem? hi);have hR:RA (bz c (L.eraseIdx i)) w (.r sz ll) v:=RA.wK r1.view (RX.cD mo _ _ r2) fun g hg=>⟨.inr (s.dS g (cZ.2 ⟨_,List.mem_of_getElem? hi,hg⟩)),fun hx=>by
  obtain ⟨q,hq,jL⟩:=cZ.1 hx;exact ho q hq g jL hg⟩
 have EI:∃ j',(L.eraseIdx i)[j']?=some (.box b B cs)∧(L.set j (.box b B (cs.set n (.r sz ll)))).eraseIdx i=(L.eraseIdx i).set j' (.box b B (cs.set n (.r sz ll))):=by
  by_cases rO:j < i
  ·refine ⟨j,by rw [List.getElem?_eraseIdx,if_pos rO];exact hj,?_⟩;apply List.ext_getElem?;intro m;rw [List.getElem?_eraseIdx,List.getElem?_set,List.getElem?_set,List.getElem?_set,List.getElem?_eraseIdx,List.length_eraseIdx];have iL:=(List.getElem?_eq_some_iff.1 hi).1
   split <;> split <;> (try split) <;> (try split) <;> (try split) <;> first | rfl | omega
  ·refine ⟨j - 1,by rw [List.getElem?_eraseIdx,if_neg (by omega),show j - 1 + 1=j by omega];exact hj,?_⟩;apply List.ext_getElem?;intro m;rw [List.getElem?_eraseIdx,List.getElem?_set,List.getElem?_set,List.getElem?_set,List.getElem?_eraseIdx,List.length_eraseIdx];have iL:=(List.getElem?_eq_some_iff.1 hi).1
   split <;> split <;> (try split) <;> (try split) <;> (try split) <;> first | rfl | omega
 obtain ⟨j',e1,e2⟩:=EI;rw [e2] at h;obtain ⟨vs,b1,b2⟩:=s1.res _ (List.mem_of_getElem? e1);refine h.go a w (s1.set e1 rfl (aP.refl _ w) ⟨vs,b1,?_⟩);have bX:=b2.get n (by exact hc);obtain ⟨x,hx,zP⟩:=bX;unfold RA at zP;obtain ⟨rfl,_⟩:=zP;have:=RC.set n b2 hR;have e3:vs.set n x=vs:=by
  apply List.ext_getElem?;intro m;rw [List.getElem?_set]
  split
  ·rename_i e;subst e
   split
   ·exact hx.symm
   ·rename_i hn;rw [List.getElem?_eq_none (by omega)] at hx;cases hx
  ·rfl
 rw [e3] at this;exact this⟩
end
end Fl
open Go.RowKit
namespace Fl
section
variable {P:Program} {ops:Array Oper} {Q:Exit→Act→World→Prop} {md:Region.Mode} {S:World→Prop} {m:Option Nat}
def Gx (P:Program) (md:Region.Mode) (ops:Array Oper) (Q:Exit→Act→World→Prop) (S:World→Prop) (m:Option Nat):Nat→Array Bool→Act→World→Prop
 | 0,aQ,a,w=>Region.ready md ops aQ=[]∧Q .normal a w
 | n + 1,aQ,a,w=>(Region.ready md ops aQ=[]→Q .normal a w) ∧
  ∀ i∈Region.ready md ops aQ,wpOp P ops Q i (fun a' w'=>(some i=m∧wpAny P md ops Q n (aQ.setIfInBounds i true) a' w')∨(S w'∧Gx P md ops Q S m n (aQ.setIfInBounds i true) a' w')) a w
theorem Gx.any:∀ (n:Nat) (aQ:Array Bool) (a:Act) (w:World),Gx P md ops Q S m n aQ a w→wpAny P md ops Q n aQ a w
 | 0,_,_,_,h=>h
 | n + 1,_,_,_,h=>⟨h.1,fun i hi=>wpOp_mono (fun a' w' h'=>h'.elim (·.2) (fun h'=>Gx.any n _ a' w' h'.2)) (h.2 i hi)⟩
def wO (md:Region.Mode) (ops:Array Oper) (m:Option Nat) (i:Nat):Bool:=match m with
 | none=>true
 | some j=>waitsFor md ops j i
theorem Gx.first {i:Nat} {oi:Oper} {v:Value} (hi:ops[i]?=some oi) (oL:∀ (j:Nat) (o:Oper) cs b,ops[j]?=some o→o.op≠.select cs b) (hQ:∀ c a w,Q (.panic c) (a.put oi.dst v) w→Q (.panic c) a w) (hm:wO md ops m i=true) :
  ∀ (n:Nat) (aQ:Array Bool) (a:Act) (w:World),(∀ (j:Nat) oj,ops[j]?=some oj→j≠i→aQ.getD j true=false→(∀ e∈oj.after,Region.binds md e=true→e.on≠i)→oi.apart ops oj=true) →
   i∈Region.ready md ops aQ→YieldsIf P ops S oi v a→S w→Gx P md ops Q S m n (aQ.setIfInBounds i true) (a.put oi.dst v) w→Gx P md ops Q S m (n + 1) aQ a w
 | n,aQ,a,w,rP,hr,hy,hS,H=>by
  refine ⟨fun h=>(by rw [h] at hr;cases hr),fun j hj=>?_⟩
  by_cases iX:j=i
  ·subst iX;exact hy.wpOp hi hS (.inr ⟨hS,H⟩)
  ·cases n with
   | zero =>
    have:=ready_mono hj iX;rw [H.1] at this
    cases this
   | succ n =>
    obtain ⟨rQ,oj,j5,mj⟩:=mem_ready.1 hj;have lM:=wB hr mj;have wP:some j≠m:=fun e=>by
     subst e;unfold wO waitsFor at hm;simp only at hm;rw [j5] at hm;obtain ⟨x,hx,hp⟩:=Array.any_eq_true'.1 hm;simp only [Bool.and_eq_true,beq_iff_eq] at hp;exact lM x hx hp.2 hp.1
    have h2:=wpOp_putIf j5 (rP j oj j5 iX rQ lM) (fun cs b=>oL i oi cs b hi) (fun cs b=>oL j oj cs b j5) hQ hy (H.2 j (ready_mono hj iX));have iq:i∈Region.ready md ops (aQ.setIfInBounds j true):=ready_mono hr (Ne.symm iX);refine wpOp_mono (fun a' w' h3=>?_) h2;have wQ:=Array.setIfInBounds_comm (xs:=aQ) true true iX;obtain ⟨h4,h5⟩:S w'∧_:=h3.2.resolve_left (fun h=>wP h.1);exact .inr ⟨h4,Gx.first hi oL hQ hm n (aQ.setIfInBounds j true) a' w' (fun k ok hk wR rR lM=>by
     refine rP k ok hk wR ?_ lM
     by_cases rS:j=k
     ·subst rS;exact rQ
     ·rw [getD_set_ne true rS] at rR;exact rR) iq h3.1 h4 (by rw [wQ];exact h5)⟩
end
def rT (md:Region.Mode) (ops:Array Oper) (m:Option Nat) (aQ:Array Bool) (i:Nat):Bool :=
 Region.noSelect ops && Region.free md ops aQ i && (Region.ready md ops aQ).contains i && wO md ops m i
def cr (L:List ak) (T:List Nat):List Nat:=T.flatMap fun i=>match L[i]? with
 | some r=>r.cA
 | none=>[]
theorem uy {L:List ak} {T:List Nat} {x:Nat}:x∈cr L T↔∃ i∈T,∃ r,L[i]?=some r∧x∈r.cA:=by
 unfold cr;rw [List.mem_flatMap]
 constructor
 ·rintro ⟨i,hi,hx⟩
  cases h:L[i]? with
  | none=>rw [h] at hx;cases hx
  | some r=>rw [h] at hx;exact ⟨i,hi,r,h,hx⟩
 ·rintro ⟨i,hi,r,h,hx⟩
  exact ⟨i,hi,by rw [h];exact hx⟩
theorem uz {L:List ak} {T:List Nat} {x:Nat} (h:x∈cr L T):x∈bL L:=by
 obtain ⟨i,_,r,hr,hx⟩:=uy.1 h;exact cZ.2 ⟨r,List.mem_of_getElem? hr,hx⟩
section
variable (P:Program) (c:Cx)
structure JW (ops:Array Oper) (n:Nat) (aQ:Array Bool) (k:List Item) (f:Fm) (L:List ak):Prop where
 go:∀ a w,St c f L a w→wpAny P .any ops (fun e a' w'=>e=.normal∧ij P c k a' w') n aQ a w
structure JD (ops:Array Oper) (m:Option Nat) (T:List Nat) (n:Nat) (aQ:Array Bool) (k:List Item) (f:Fm) (L:List ak) (f0:Fm) (L0:List ak):Prop where
 go:∀ a w w0,St c f L a w→St c f0 L0 a w0→aP (cr L0 T) w0 w→(∀ x∈bL L,x∈bL L0∨w0.heap.size≤x)→Gx P .any ops (fun e a' w'=>e=.normal∧ij P c k a' w') (fun w'=>aP (cr L0 T) w0 w') m n aQ a w
end
section
variable {P:Program} {c:Cx} {k:List Item} {f f0:Fm} {L L0:List ak} {ops:Array Oper} {l:List Oper} {o:Oper} {m:Option Nat} {T:List Nat} {n:Nat} {aQ:Array Bool}
theorem J.draw {id:Nat} (hm:P.follows .mixedOrders=true) (hn:l.length=n) (h:JW P c l.toArray n (Array.replicate n false) k f L):J P c (.code (.region id l.toArray true) :: k) f L:=⟨fun a w s=>by
 refine ij.wp (wp_region_any hm ?_);have s':St c f L a w.drew:=⟨s.kp.drew,s.size,s.jj,fun r hr=>(s.res r hr).cD ((aP.refl [] w).drew) (Mon.jJ ((aP.refl [] w).drew) fun g _ hg=>⟨hg,by simp⟩) (by simp),s.dS,s.ap,fun t d ht=>RD.cD (Mon.jJ ((aP.refl [] w).drew) fun g _ hg=>⟨hg,by simp⟩) d _ (s.fr t d ht)⟩
 have:=h.go a w.drew s';subst hn;simpa using this⟩
theorem JW.wS (T:List Nat) (m:Option Nat) (h:JD P c ops m T n aQ k f L f L):JW P c ops n aQ k f L:=⟨fun a w s =>
 Gx.any (S:=fun w'=>aP (cr L T) w w') (m:=m) _ _ _ _ (h.go a w w s s (aP.refl _ _) (fun g hg=>.inl hg))⟩
theorem JW.base (m:Option Nat) (h:JD P c ops m [] n aQ k f L f L):JW P c ops n aQ k f L:=JW.wS [] m h
theorem JW.done (hl:Region.ready .any ops aQ=[]) (h:J P c k f L):JW P c ops n aQ k f L:=⟨fun a w s=>wpAny_done hl ⟨rfl,h.go _ w s⟩ n⟩
theorem St.undef {a:Act} {w:World} {t:Nat} (s:St c f L a w) (ht:t < c.N):St c ((t,.aU []) :: f) L (a.put (some t) Go.undef) w:=s.lI ht (by unfold RD;exact ⟨[],rfl,rfl⟩)
theorem JD.take (i:Nat) {t:Nat} {d:D} {U:List Nat} (hi:ops[i]?=some o) (hd:o.dst=some t) (hk:rT .any ops m aQ i=true) (hw:dD ops o f0=true) (ht:t < c.N) (q:Qt P c U o f0 L0 d) (hu:(U.all fun j=>!T.contains j)=true) (h:JD P c ops m T n (aQ.setIfInBounds i true) k ((t,d) :: f) L ((t,d) :: f0) L0):JD P c ops m T (n + 1) aQ k f L f0 L0:=⟨fun a w w0 s s0 kp ho=>by
 obtain ⟨v,h1,h2⟩:=q.go a w0 s0;unfold rT at hk;simp only [Bool.and_eq_true] at hk;obtain ⟨⟨⟨k1,k2⟩,k3⟩,k4⟩:=hk;have m1:Mon (bz c L0) (bz c L) w0 w:=Mon.jJ kp fun g hg eL=>⟨⟨eL.1,fun hx=>by rcases ho g hx with h | h;exact eL.2 h;omega⟩,fun hm=>eL.2 (uz hm)⟩
 have wT:∀ w',aP (cr L0 T) w0 w'→nj L0 U w0 w':=fun w' oM=>⟨_,oM,fun x hx=>uz hx,fun x hx j hj r hr pX=>by
  obtain ⟨i,hi,r2,iq,mu⟩:=uy.1 hx;have rO:j≠i:=fun e=>by
   subst e;have:=List.all_eq_true.1 hu j hj;simp [hi] at this
  exact fC.ne s0.ap hr iq rO x pX mu⟩
 refine Gx.first hi (Region.noSelect_spec k1) (fun c a w h=>by cases h.1) k4 n aQ a w (Region.free_spec hi k2) (by simpa using k3) (v:=v) (.inl ⟨dD.run hw s0,fun w' oM=>h2 w' (wT w' oM)⟩) kp ?_
 have:=h.go (a.put o.dst v) w w0 (by rw [hd];exact s.lI ht (RD.cD m1 _ _ h1)) (by rw [hd];exact s0.lI ht h1) kp ho;exact this⟩
theorem JD.skip (i:Nat) {t:Nat} (hi:ops[i]?=some o) (hd:o.dst=some t) (hk:rT .any ops m aQ i=true) (hw:oH ops o f0=true) (ht:t < c.N) (h:JD P c ops m T n (aQ.setIfInBounds i true) k ((t,.aU []) :: f) L ((t,.aU []) :: f0) L0):JD P c ops m T (n + 1) aQ k f L f0 L0:=⟨fun a w w0 s s0 kp ho=>by
 unfold rT at hk;simp only [Bool.and_eq_true] at hk;obtain ⟨⟨⟨k1,k2⟩,k3⟩,k4⟩:=hk;refine Gx.first hi (Region.noSelect_spec k1) (fun c a w h=>by cases h.1) k4 n aQ a w (Region.free_spec hi k2) (by simpa using k3) (v:=undef) (.inr ⟨oH.run hw s0,rfl⟩) kp ?_
 have:=h.go (a.put o.dst undef) w w0 (by rw [hd];exact s.undef ht) (by rw [hd];exact s0.undef ht) kp ho;exact this⟩
def stays:D→D
 | .c (.v x)=>.c (.v x)
 | _=>.any
theorem stays.rep {d:D} {ok eR:Nat→Prop} {w w':World} {x:Value} (h:RD ok w d x):RD eR w' (stays d) x:=by
 unfold stays
 split
 ·unfold RD RA at h ⊢;exact h
 ·unfold RD;trivial
inductive nu (L0:List ak):List ak→Prop
 | refl:nu L0 L0
 | cons {r L}:nu L0 L→nu L0 (r :: L)
theorem nu.mem {L0 L:List ak} (h:nu L0 L):∀ q∈L0,q∈L:=by
 induction h with
 | refl=>exact fun _ h=>h
 | cons _ ih=>exact fun q hq=>List.mem_cons_of_mem _ (ih q hq)
inductive Since (T:List Nat) (L0 L:List ak):List Nat→Prop
 | none:Since T L0 L []
 | nil:Since T L0 L (de (.slice none 0 0))
 | first {v e sz m Lr}:L=.row v e sz m :: Lr→nu L0 Lr→Since T L0 L (de v)
 | any {r i Lr}:L[i]?=some r→L.eraseIdx i=Lr→nu L0 Lr→Since T L0 L r.cA
 | there {r j}:L0[j]?=some r→T.contains j=true→Since T L0 L r.cA
theorem Since.row {L0 L L':List ak} {v:Value} {e sz i:Nat} {m:List (List A)} [bx:gu L v e sz m i] [er:jo L i L'] (ht:nu L0 L'):Since T L0 L (de v):=.any bx.h er.h ht
theorem Since.cK {L0 L:List ak} {v:Value} {e sz i:Nat} {m:List (List A)} [bx:gu L0 v e sz m i] (ht:T.contains i=true):Since T L0 L (de v):=.there bx.h ht
theorem Since.uA {L0 L:List ak} {b B i:Nat} {cs:List A} [bx:jn L0 b B cs i] (ht:T.contains i=true):Since T L0 L [b]:=.there bx.h ht
theorem Since.keeps {S:List Nat} (hS:Since T L0 L S) {a:Act} {w w0 w':World} (s:St c f L a w) (kp:aP (cr L0 T) w0 w) (ho:∀ x∈bL L,x∈bL L0∨w0.heap.size≤x) (pZ:aP S w w'):aP (cr L0 T) w0 w':=by
 refine kp.trans pZ fun x hx=>?_
 cases hS with
 | none=>cases hx
 | nil=>cases hx
 | first e ht =>
  subst e;rcases ho x (cZ.2 ⟨_,List.mem_cons_self ..,hx⟩) with h | h
  ·obtain ⟨q,hq,jL⟩:=cZ.1 h;exact absurd jL ((List.pairwise_cons.1 s.ap).1 q (ht.mem q hq) x hx)
  ·exact .inr h
 | any h1 e ht =>
  rcases ho x (cZ.2 ⟨_,List.mem_of_getElem? h1,hx⟩) with h | h
  ·obtain ⟨q,hq,jL⟩:=cZ.1 h;have hm:=ht.mem q hq;rw [← e] at hm;obtain ⟨j,hj⟩:=List.mem_iff_getElem?.1 hm;rw [List.getElem?_eraseIdx] at hj
   exfalso
   split at hj
   ·exact fC.ne s.ap h1 hj (by omega) x hx jL
   ·exact fC.ne s.ap h1 hj (by omega) x hx jL
  ·exact .inr h
 | there h1 ht=>exact .inl (uy.2 ⟨_,by simpa using ht,_,h1,hx⟩)
structure JS (P:Program) (c:Cx) (ops:Array Oper) (m:Option Nat) (T:List Nat) (n:Nat) (aQ:Array Bool) (k:List Item) (f:Fm) (L:List ak) (f0:Fm) (L0:List ak) (i:Nat):Prop where
 go:∀ a w w0,St c f L a w→St c f0 L0 a w0→aP (cr L0 T) w0 w→(∀ x∈bL L,x∈bL L0∨w0.heap.size≤x) →
  wpOp P ops (fun e a' w'=>e=.normal∧ij P c k a' w') i (fun a' w'=>(some i=m∧wpAny P .any ops (fun e a' w'=>e=.normal∧ij P c k a' w') n (aQ.setIfInBounds i true) a' w')∨(aP (cr L0 T) w0 w'∧Gx P .any ops (fun e a' w'=>e=.normal∧ij P c k a' w') (fun w'=>aP (cr L0 T) w0 w') m n (aQ.setIfInBounds i true) a' w')) a w
theorem JS.cC {S:List Nat} {i t:Nat} {ι:Type} {g:ι→D} {L':ι→List ak} (hi:ops[i]?=some o) (hd:o.dst=some t) (hw:dD ops o f=true) (ht:t < c.N) (q:Ld P c o f L S (fun x=>(t,g x) :: f) L') (hS:Since T L0 L S)
  (h:∀ x,JD P c ops m T n (aQ.setIfInBounds i true) k ((t,g x) :: f) (L' x) ((t,stays (g x)) :: f0) L0):JS P c ops m T n aQ k f L f0 L0 i:=⟨fun a w w0 s s0 kp ho=>by
 refine wpOp_step hi (fun K hK=>?_);rw [dD.run hw s,if_pos rfl];refine q.go a w s K _ fun x v w' pZ sx hf=>?_
 have rU:=hS.keeps s kp ho pZ;refine hK _ _ (.inr ⟨rU,(h x).go _ w' w0 sx ?_ rU ?_⟩)
 ·rw [hd];exact s0.lI ht (stays.rep (by
   have h1:=sx.fr t (g x) (rD _ _ _);have h2:=s.size;rw [hd] at h1;simpa [Act.put,Array.getD_eq_getD_getElem?,Array.getElem?_setIfInBounds,h2,ht] using h1))
 ·intro y hy;rcases hf y hy with h1 | h1
  ·exact ho y h1
  ·exact .inr (Nat.le_trans kp.size h1)⟩
theorem JS.st {S:List Nat} {i:Nat} {ι:Type} {L':ι→List ak} (hi:ops[i]?=some o) (hd:o.dst=none) (hw:dD ops o f=true) (q:Ld P c o f L S (fun _=>f) L') (hS:Since T L0 L S)
  (h:∀ x,JD P c ops m T n (aQ.setIfInBounds i true) k f (L' x) f0 L0):JS P c ops m T n aQ k f L f0 L0 i:=⟨fun a w w0 s s0 kp ho=>by
 refine wpOp_step hi (fun K hK=>?_);rw [dD.run hw s,if_pos rfl];refine q.go a w s K _ fun x v w' pZ sx hf=>?_
 have rU:=hS.keeps s kp ho pZ;refine hK _ _ (.inr ⟨rU,(h x).go _ w' w0 sx (by rw [hd];exact s0) rU ?_⟩);intro y hy;rcases hf y hy with h1 | h1
 ·exact ho y h1
 ·exact .inr (Nat.le_trans kp.size h1)⟩
theorem JS.q {i t:Nat} {d:D} {U:List Nat} (hi:ops[i]?=some o) (hd:o.dst=some t) (hw:dD ops o f=true) (ht:t < c.N) (q:Qt P c U o f L d)
  (h:JD P c ops m T n (aQ.setIfInBounds i true) k ((t,d) :: f) L ((t,stays d) :: f0) L0):JS P c ops m T n aQ k f L f0 L0 i:=⟨fun a w w0 s s0 kp ho=>by
 obtain ⟨v,h1,h2⟩:=q.go a w s;refine wpOp_step hi (fun K hK=>?_);rw [dD.run hw s,if_pos rfl];simp only [Oper.wp,h2 w (nj.now _ _ _),Oper.upon];exact hK _ _ (.inr ⟨kp,h.go _ w w0 (by rw [hd];exact s.lI ht h1) (by rw [hd];exact s0.lI ht (stays.rep h1)) kp ho⟩)⟩
theorem JS.last {i:Nat} {ι:Type} {f':ι→Fm} {L':ι→List ak} {S:List Nat} (hi:ops[i]?=some o) (hw:dD ops o f=true) (q:Ld P c o f L S f' L') (h:∀ x,JW P c ops n (aQ.setIfInBounds i true) k (f' x) (L' x)):JS P c ops (some i) T n aQ k f L f0 L0 i:=⟨fun a w w0 s s0 kp ho=>by
 refine wpOp_step hi (fun K hK=>?_);rw [dD.run hw s,if_pos rfl];exact q.go a w s K _ fun x v w' pZ sx hf=>hK _ _ (.inl ⟨rfl,(h x).go _ w' sx⟩)⟩
theorem JD.cE {i:Nat} (hr:Region.ready .any ops aQ=[i]) (h:JS P c ops m T n aQ k f L f0 L0 i):JD P c ops m T (n + 1) aQ k f L f0 L0:=⟨fun a w w0 s s0 kp ho=>by
 refine ⟨fun h0=>(by rw [hr] at h0;cases h0),fun j hj=>?_⟩;rw [hr] at hj;simp at hj;subst hj;exact h.go a w w0 s s0 kp ho⟩
theorem JD.cF {i j:Nat} (hr:Region.ready .any ops aQ=[i,j]) (h1:JS P c ops m T n aQ k f L f0 L0 i) (h2:JS P c ops m T n aQ k f L f0 L0 j):JD P c ops m T (n + 1) aQ k f L f0 L0:=⟨fun a w w0 s s0 kp ho=>by
 refine ⟨fun h0=>(by rw [hr] at h0;cases h0),fun j hj=>?_⟩;rw [hr] at hj;simp at hj;rcases hj with rfl | rfl
 ·exact h1.go a w w0 s s0 kp ho
 ·exact h2.go a w w0 s s0 kp ho⟩
theorem JD.zQ {i j q:Nat} (hr:Region.ready .any ops aQ=[i,j,q]) (h1:JS P c ops m T n aQ k f L f0 L0 i) (h2:JS P c ops m T n aQ k f L f0 L0 j) (h3:JS P c ops m T n aQ k f L f0 L0 q):JD P c ops m T (n + 1) aQ k f L f0 L0:=⟨fun a w w0 s s0 kp ho=>by
 refine ⟨fun h0=>(by rw [hr] at h0;cases h0),fun j hj=>?_⟩;rw [hr] at hj;simp at hj;rcases hj with rfl | rfl | rfl
 ·exact h1.go a w w0 s s0 kp ho
 ·exact h2.go a w w0 s s0 kp ho
 ·exact h3.go a w w0 s s0 kp ho⟩
theorem JD.done (hl:Region.ready .any ops aQ=[]) (h:J P c k f L):JD P c ops m T n aQ k f L f0 L0:=⟨fun a w w0 s s0 kp ho=>by
 have hq:=h.go _ w s
 cases n with
 | zero=>exact ⟨hl,rfl,hq⟩
 | succ n=>exact ⟨fun _=>⟨rfl,hq⟩,fun k hk=>by rw [hl] at hk;cases hk⟩⟩
end
end Fl
open Go.RowKit
namespace Fl
def p5 (P:Program) (T:TypeId):Option (List (Nat × Nat)):=match P.underlying T with
 | some (.struct fs)=>fs.toList.mapM fun f=>(P.info? f.type).map fun i=>(f.offset,i.size)
 | _=>none
class j6 (P:Program) (T:TypeId) (pl:outParam (List (Nat × Nat))):Prop where h:p5 P T=some pl:=by kernel_rfl
def nv (pl:List (Nat × Nat)):List A→List (Nat × List A)→Option (List A)
 | cs,[]=>some cs
 | cs,(i,es) :: r=>match pl[i]? with
  | none=>none
  | some (off,size)=>cond (Nat.beq es.length size && Nat.ble (off + es.length) cs.length) (nv pl (gN cs off es) r) none
def rV:List (Nat × Nat)→Nat→List (Nat × List A)→List A→List A
 | [],_,_,_=>[]
 | (_,n) :: pl,k,[],zs=>zs.take n ++ rV pl (k + 1) [] (zs.drop n)
 | (_,n) :: pl,k,(i,es) :: r,zs=>cond (Nat.beq i k) (es ++ rV pl (k + 1) r (zs.drop n)) (zs.take n ++ rV pl (k + 1) ((i,es) :: r) (zs.drop n))
theorem EJ (l:List Value):∀ (k:Nat) (z:Array Value),k + l.length≤z.size→∀ off,off≤k→(l.zipIdx (k - off)).foldl (fun cs x=>cs.setIfInBounds (off + x.2) x.1) z=(z.toList.take k ++ l ++ z.toList.drop (k + l.length)).toArray:=by
 induction l with
 | nil=>intro k z hz off ho;simp
 | cons x l ih =>
  intro k z hz off ho;simp only [List.length_cons] at hz;rw [List.zipIdx_cons,List.foldl_cons];have:=ih (k + 1) (z.setIfInBounds (off + (k - off)) x) (by simp;omega) off (by omega);rw [show k + 1 - off=k - off + 1 by omega] at this;rw [this];simp only [show off + (k - off)=k by omega];apply congrArg;simp only [Array.toList_setIfInBounds,List.length_cons];rw [List.take_add_one,List.take_set,List.getElem?_set_self (by simp;omega)];rw [List.set_eq_of_length_le (by simp;omega),List.drop_set,if_pos (by omega)];simp only [Option.toList_some,List.append_assoc,List.singleton_append,List.cons_append,List.nil_append];rw [show k + (l.length + 1)=k + 1 + l.length by omega]
theorem nv.run {ok:Nat→Prop} {w:World} {pl:List (Nat × Nat)}:∀ (ps:List (Nat × List A)) (xs:List (Nat × Value)) (cs gX:List A) (us:Array Value),nv pl cs ps=some gX→RC ok w cs us.toList→xs.map (·.1)=ps.map (·.1)→(∀ (j:Nat) (p:Nat × List A) (x:Nat × Value),ps[j]?=some p→xs[j]?=some x→RC ok w p.2 x.2.cells.toList) →
  ∃ uD,Instr.fill (pl.toArray[·]?) us xs=some uD∧RC ok w gX uD.toList
 | [],xs,cs,gX,us,h,hr,hm,hx=>by
  have:xs=[]:=by simpa using hm
  subst this;simp [nv] at h;subst h;exact ⟨us,rfl,hr⟩
 | (i,es) :: ps,[],cs,gX,us,h,hr,hm,hx=>by simp at hm
 | (i,es) :: ps,(i',x) :: xs,cs,gX,us,h,hr,hm,hx=>by
  simp only [List.map_cons,List.cons.injEq] at hm;obtain ⟨rfl,hm⟩:=hm;have wU:=hx 0 _ _ rfl rfl;simp only at wU;unfold nv at h
  cases hp:pl[i']? with
  | none=>rw [hp] at h;cases h
  | some q =>
   obtain ⟨off,size⟩:=q;rw [hp] at h;simp only at h
   cases hc:(Nat.beq es.length size && Nat.ble (off + es.length) cs.length) with
   | false=>rw [hc] at h;cases h
   | true =>
    rw [hc] at h;simp only [Bool.and_eq_true] at hc;have h1:=Nat.eq_of_beq_eq_true hc.1;have h2:=Nat.le_of_ble_eq_true hc.2;have p6:=wU.len;have mC:=hr.len;simp only [Array.length_toList] at p6 mC;have hf:=EJ x.cells.toList off us (by simp;omega) off (Nat.le_refl _);rw [Nat.sub_self] at hf;have iq:RC ok w (gN cs off es) (us.toList.take off ++ x.cells.toList ++ us.toList.drop (off + x.cells.toList.length)):=by
     unfold gN;have:es.length=x.cells.toList.length:=by simp;omega
     rw [this];exact RC.app (RC.app (hr.take off) wU) (hr.drop _)
    obtain ⟨uD,g1,g2⟩:=nv.run ps xs _ gX ((us.toList.take off ++ x.cells.toList ++ us.toList.drop (off + x.cells.toList.length)).toArray) h (by simpa using iq) hm (fun j p x hp gw=>hx (j + 1) p x (by simpa using hp) (by simpa using gw));refine ⟨uD,?_,g2⟩;have EK:pl.toArray[i']?=some (off,size):=by simpa using hp
    unfold Instr.fill;rw [EK];simp only;rw [if_neg (by simp;omega)];rw [← g1]
    congr 1
    rw [← Array.foldl_toList,Array.toList_zipIdx];exact hf
section
variable {P:Program}
theorem p5.run {T:Nat} {pl:List (Nat × Nat)} (h:p5 P T=some pl):∃ fs,P.underlying T=some (.struct fs)∧∀ w,(fs.mapM fun f=>do pure (f.offset,← sizeOf f.type):Sem (Array (Nat × Nat))).run P w=.ok pl.toArray w:=by
 unfold p5 at h
 cases hu:P.underlying T with
 | none=>rw [hu] at h;cases h
 | some d =>
  rw [hu] at h
  cases d with
  | struct fs =>
   simp only at h;refine ⟨fs,rfl,fun w=>?_⟩;have key:∀ (l:List Field) (pl:List (Nat × Nat)),(l.mapM fun f=>(P.info? f.type).map fun i=>(f.offset,i.size))=some pl→(l.mapM fun f=>do pure (f.offset,← sizeOf f.type):Sem (List (Nat × Nat))).run P w=.ok pl w:=by
    intro l
    induction l with
    | nil=>intro pl h;simp at h;subst h;simp
    | cons f l ih =>
     intro pl h;rw [List.mapM_cons] at h
     cases hi:P.info? f.type with
     | none=>rw [hi] at h;cases h
     | some i =>
      rw [hi] at h;simp only [Option.map_some,Option.bind_eq_bind,Option.bind_some] at h
      cases hm:(l.mapM fun f=>(P.info? f.type).map fun i=>(f.offset,i.size)) with
      | none=>rw [hm] at h;cases h
      | some q =>
       rw [hm] at h;simp at h;subst h;have h5:=ih q hm;have h6:(sizeOf f.type).run P w=.ok i.size w:=by simp [sizeOf,typeInfo,Sem.run_bind,hi]
       rw [List.mapM_cons,Sem.run_bind,Sem.run_bind,h6];simp only [Result.andThen_ok,Sem.run_pure,Sem.run_bind,h5]
   have h2:=key fs.toList pl h;have e:(fs.mapM fun f=>do pure (f.offset,← sizeOf f.type):Sem (Array (Nat × Nat)))=(do let l ← (fs.toList.mapM fun f=>do pure (f.offset,← sizeOf f.type));pure l.toArray):=by
    rw [Array.mapM_eq_mapM_toList,map_eq_pure_bind]
   rw [e,Sem.run_bind,h2];rfl
  | _=>cases h
end
def zR (P:Program) (X k:Nat):Bool:=match P.underlying X with
  | some (.struct fs)=>match fs[k]? with
   | some fd=>jm P fd.type == some false
   | none=>false
  | _=>false
theorem zS {α β:Type} {g:α→Option β}:∀ {l:List α} {q:List β},l.mapM g=some q→∀ {k:Nat} {a:α},l[k]?=some a→∃ b,q[k]?=some b∧g a=some b
  | [],q,h,k,a,e=>by simp at e
  | x :: l,q,h,k,a,e=>by
   rw [List.mapM_cons] at h
   cases hx:g x with
   | none=>rw [hx] at h;cases h
   | some b =>
    rw [hx] at h;simp only [Option.bind_eq_bind,Option.bind_some] at h
    cases hl:l.mapM g with
    | none=>rw [hl] at h;cases h
    | some r =>
     rw [hl] at h;simp at h;subst h
     cases k with
     | zero=>simp at e;subst e;exact ⟨b,rfl,hx⟩
     | succ k=>simp at e;simpa using zS hl e
def mD (f:Fm):List (Nat × Operand)→Option (List (Nat × List A))
 | []=>some []
 | (i,x) :: r=>match aY f x with
  | none=>none
  | some d=>match fV d,mD f r with
   | some cs,some l=>some ((i,cs) :: l)
   | _,_=>none
section
variable {P:Program} {c:Cx} {f:Fm} {L:List ak} {t:Option Tmp} {T:TypeId} {ps:String} {af:Array Edge} {gd:Option (Nat × Bool)}
theorem mD.rep {a:Act} {w:World} (s:St c f L a w):∀ {parts:List (Nat × Operand)} {l:List (Nat × List A)},mD f parts=some l→(parts.map fun p=>(p.1,a.eval p.2)).map (·.1)=l.map (·.1)∧∀ (j:Nat) (p:Nat × List A) (x:Nat × Value),l[j]?=some p→(parts.map fun p=>(p.1,a.eval p.2))[j]?=some x→RC (bz c L) w p.2 x.2.cells.toList
 | [],l,h=>by simp [mD] at h;subst h;simp
 | (i,x) :: r,l,h=>by
  unfold mD at h
  cases h1:aY f x with
  | none=>rw [h1] at h;cases h
  | some d =>
   rw [h1] at h;simp only at h
   cases h2:fV d with
   | none=>rw [h2] at h;cases h
   | some cs =>
    cases h3:mD f r with
    | none=>rw [h2,h3] at h;cases h
    | some l' =>
     rw [h2,h3] at h
     cases h;obtain ⟨g1,g2⟩:=mD.rep s h3;refine ⟨by simpa using g1,fun j p x hp hx=>?_⟩
     cases j with
     | zero=>simp at hp hx;subst hp;subst hx;exact fV.rep h2 (s.ev h1)
     | succ j=>exact g2 j p x (by simpa using hp) (by simpa using hx)
theorem Qt.build {X:Nat} {parts:List (Nat × Operand)} {pl:List (Nat × Nat)} {zs:List Value} {l:List (Nat × List A)} [z:aW P X zs] [i:j6 P X pl] (h:mD f parts=some l) (hf:nv pl (vs zs) l=some (rV pl 0 l (vs zs))):Qt P c [] ⟨t,.build X parts.toArray,T,ps,af,gd⟩ f L (.agg (rV pl 0 l (vs zs))):=⟨fun a w s=>by
 obtain ⟨g1,g2⟩:=mD.rep s h;obtain ⟨zv,wI,wJ⟩:=ni.run z.h;obtain ⟨fs,u1,u2⟩:=p5.run i.h;obtain ⟨us,r1,r2⟩:=nv.run (ok:=bz c L) (w:=w) l (parts.map fun p=>(p.1,a.eval p.2)) (vs zs) _ zv.cells hf (by rw [wI];exact RC.vs z.o) g1 g2;refine ⟨.agg us,by unfold RD;exact ⟨us.toList,by simp,r2⟩,fun w' k=>?_⟩;have e:(parts.toArray.map fun (i,x)=>(i,a.eval x)).toList=parts.map fun p=>(p.1,a.eval p.2):=by simp
 simp only [execOp,Instr.build,Sem.run_bind,wJ,Result.andThen_ok,run_underlying u1,u2,e,r1,Sem.run_pure]⟩
theorem Qt.field {x:Operand} {X k off:Nat} {cs:List A} {e:A} {pl:List (Nat × Nat)} [i:j6 P X pl] (h:aY f x=some (.agg cs)) (hp:pl[k]?=some (off,1)) (hv:zR P X k=true) (he:cs[off]?=some e):Qt P c [] ⟨t,.field X x k,T,ps,af,gd⟩ f L (.c e):=⟨fun a w s=>by
 have r:=s.ev h;unfold RD at r;obtain ⟨vs,hx,hr⟩:=r;obtain ⟨y,hy,EL⟩:=hr.get off he;refine ⟨y,by unfold RD;exact EL,fun w' k'=>?_⟩;unfold zR at hv;have hi:=i.h;unfold p5 at hi
 cases hu:P.underlying X with
 | none=>rw [hu] at hi;cases hi
 | some d =>
  rw [hu] at hi hv
  cases d with
  | struct fs =>
   simp only at hi hv
   cases hf:fs[k]? with
   | none=>rw [hf] at hv;cases hv
   | some fd =>
    rw [hf] at hv;simp only [beq_iff_eq] at hv;have EM:fd.offset=off:=by
     have h3:=zS hi (k:=k) (a:=fd) (by simpa using hf);obtain ⟨q,zT,p7⟩:=h3;rw [hp] at zT;cases zT
     cases ri:P.info? fd.type with
     | none=>rw [ri] at p7;cases p7
     | some ii=>rw [ri] at p7;simp at p7;exact p7.1
    simp [execOp,Instr.field,Sem.run_bind,run_underlying hu,hf,hx,asAgg,part,jm.wD hv,EM,hy]
  | _=>cases hv⟩
def kM (f:Fm) (x:Option Operand) (n:Int):Option Int:=match x with
 | none=>some n
 | some y=>match aY f y with
  | some (.c (.v (.int _ m)))=>some m
  | _=>none
theorem kM.run {a:Act} {w:World} (s:St c f L a w) {x:Option Operand} {n m:Int} (h:kM f x n=some m):(x=none∧m=n)∨∃ y k,x=some y∧a.eval y=.int k m:=by
 unfold kM at h
 cases x with
 | none=>simp at h;exact .inl ⟨rfl,h.symm⟩
 | some y =>
  simp only at h
  split at h
  ·rename_i k q e
   cases h;exact .inr ⟨y,k,rfl,s.val e⟩
  ·cases h
theorem Qt.j7 {x:Operand} {lo hi:Option Operand} {X e sz:Nat} {l:List (List A)} {m n:Int} [i:ez P X e sz] (h:aY f x=some (.c (.r sz l))) (wV:kM f lo 0=some m) (wX:kM f hi l.length=some n) (h1:0≤m) (h2:m≤n) (h3:n≤l.length):Qt P c [] ⟨t,.slice X x lo hi none,T,ps,af,gd⟩ f L (.c (.r sz ((l.take n.toNat).drop m.toNat))):=⟨fun a w s=>by
 have r:=s.ev h;unfold RD RA at r;obtain ⟨ao,cap,hx,g1,g2,g3⟩:=r;have hn:n.toNat≤l.length:=by omega
 refine ⟨.slice (if cap=m.toNat then ao else ao.map (·.add (m.toNat * sz))) (n.toNat - m.toNat) (cap - m.toNat),?_,fun w' k=>?_⟩
 ·unfold RD RA;refine ⟨if cap=m.toNat then ao else ao.map (·.add (m.toNat * sz)),cap - m.toNat,by simp [hn],by simp;omega,by omega,?_⟩
  by_cases hz:((l.take n.toNat).drop m.toNat)=[]
  ·exact .inl hz
  ·have ck:l≠[]:=fun e=>hz (by simp [e])
   rcases g3 with g3 | ⟨g,off,rfl,g5,g6,g7⟩
   ·exact absurd g3 ck
   ·have gq:m.toNat < cap:=by
     rcases Nat.lt_or_ge m.toNat cap with h | h
     ·exact h
     ·exact absurd (List.eq_nil_of_length_eq_zero (by simp;omega)) hz
    refine .inr ⟨g,off + m.toNat * sz,by rw [if_neg (by omega)];simp [Addr.add_mid],g5,g6,?_⟩;exact (g7.take n.toNat).drop m.toNat
 ·have wY:∀ w,(match lo.map a.eval with | some v=>Instr.sliceBound v n.toNat .sliceB | none=>pure 0:Sem Nat).run P w=.ok m.toNat w:=fun w=>by
   rcases kM.run s wV with ⟨rfl,rfl⟩ | ⟨y,kd,rfl,hy⟩
   ·simp
   ·simp only [Option.map_some,hy,Instr.sliceBound,asIntOf,Sem.run_bind,Sem.run_pure,Result.andThen_ok];rw [if_pos ⟨h1,by omega⟩];rfl
  have wZ:∀ w,(match hi.map a.eval,(none:Option Value) with | some v,some _=>Instr.sliceBound v cap .slice3B | some v,none=>Instr.sliceBound v cap (if true then .sliceAcap else .sliceAlen) | none,none=>pure l.length | none,some _=>stuck "Slice: max without high":Sem Nat).run P w=.ok n.toNat w:=fun w=>by
   rcases kM.run s wX with ⟨rfl,rfl⟩ | ⟨y,kd,rfl,hy⟩
   ·simp
   ·simp only [Option.map_some,hy,Instr.sliceBound,asIntOf,Sem.run_bind,Sem.run_pure,Result.andThen_ok];rw [if_pos ⟨by omega,by omega⟩];rfl
  have w9:∀ w,(Instr.sliceBounds true l.length cap (lo.map a.eval) (hi.map a.eval) none).run P w=.ok (m.toNat,n.toNat,cap) w:=fun w=>by
   unfold Instr.sliceBounds;simp only [Sem.run_bind,Sem.run_pure,Result.andThen_ok,Option.isSome_none,Bool.false_eq_true,↓reduceIte];have a1:=wZ w;have a2:=wY w
   cases xb:hi.map a.eval <;> cases xd:lo.map a.eval <;> rw [xb] at a1 <;> rw [xd] at a2 <;> simp only [↓reduceIte,Sem.run_pure,Result.ok.injEq,and_true] at a1 a2 <;> simp [Sem.run_bind,a1,a2]
  simp only [execOp,Option.map_none,Instr.sliceAt,Instr.slice,hx,Sem.run_bind,run_underlying (jK.iV i.h),Result.andThen_ok,w9,gY.run i.s,Sem.run_pure]⟩
theorem Qt.eq {U:List Nat} {o:Oper} {d d':D} (q:Qt P c U o f L d) (h:d=d'):Qt P c U o f L d':=h ▸ q
theorem aV {n:Int} (h1:-9223372036854775808≤n) (h2:n≤9223372036854775807):IntKind.i64.wrap n=n:=IntWalk.i64_in n ⟨h1,h2⟩
end
section
variable {P:Program} {c:Cx} {k:List Item} {f:Fm} {L L2:List ak} {o:Oper}
theorem oN (hp:L2.Perm L) (x:Nat):x∈bL L2↔x∈bL L:=by
 rw [cZ,cZ];exact ⟨fun ⟨q,hq,hx⟩=>⟨q,hp.mem_iff.1 hq,hx⟩,fun ⟨q,hq,hx⟩=>⟨q,hp.mem_iff.2 hq,hx⟩⟩
theorem St.perm (hp:L2.Perm L) {a:Act} {w:World} (s:St c f L a w):St c f L2 a w:=by
 have ho:bz c L2=bz c L:=by
  funext x;unfold bz;rw [oN hp]
 exact ⟨s.kp,s.size,s.jj,fun q hq=>by rw [ho];exact s.res q (hp.mem_iff.1 hq),fun x hx=>s.dS x ((oN hp x).1 hx),(hp.pairwise_iff (fun {x y} mq z hz rB=>mq z rB hz)).2 s.ap,fun u d hu=>by rw [ho];exact s.fr u d hu⟩
theorem Ld.perm (hp:L2.Perm L) {S:List Nat} {ι:Type} {f':ι→Fm} {L':ι→List ak} (h:Ld P c o f L2 S f' L'):Ld P c o f L S f' L':=⟨fun a w s K Q hK =>
 h.go a w (s.perm hp) K Q fun x v w' kp sx hf=>hK x v w' kp sx fun y hy=>by
  rcases hf y hy with h | h
  ·exact .inl ((oN hp y).1 h)
  ·exact .inr h⟩
theorem xe {r:ak} {i:Nat} {L':List ak} (h:L[i]?=some r) (e:L.eraseIdx i=L'):(r :: L').Perm L:=e ▸ rA L i h
variable {T X:TypeId} {ps:String} {af:Array Edge} {gd:Option (Nat × Bool)} {t:Nat} {e sz bytes i:Nat} {z:Value} {x y:Operand} {v:Value} {l1 l2:List (List A)} {L':List ak} {d2:D}
theorem lJ.cX {j e':Nat} {u:Value} {m:List (List A)} [bx:gu L' u e' sz m j]:lJ L' sz (.c (.v u)) m:=.own j bx.h
theorem Ld.bO [E:fD P X e sz bytes z] [bx:gu L v e sz l1 i] [er:jo L i L'] (ht:t < c.N) (h1:aY f x=some (.c (.v v))) (h2:aY f y=some d2) (hs:lJ L' sz d2 l2) (hb:(l1.length + l2.length) * bytes≤140737488355328) :
  Ld P c ⟨some t,.call ⟨.builtin .append,#[x,y],#[X,X]⟩,T,ps,af,gd⟩ f L (de v) (fun v':Value=>(t,.c (.v v')) :: f) (fun v'=>.row v' e sz (l1 ++ l2) :: L') :=
 Ld.perm (xe bx.h er.h) (Ld.zJ ht h1 (.own rfl) h2 hs hb)
theorem Ld.dU [E:fD P X e sz bytes z] [bx:gu L v e sz l1 i] [er:jo L i L'] (ht:t < c.N) (h1:aY f x=some (.c (.v v))) (h2:aY f y=some d2) (hs:lJ L' sz d2 l2) (hb:(l1.length + l2.length) * bytes≤140737488355328) :
  Ld P c ⟨some t,.call ⟨.builtin .append,#[x,y],#[X,X]⟩,T,ps,af,gd⟩ f L (de v) (fun _:Unit=>(t,.c (.r sz (l1 ++ l2))) :: f) (fun _=>L') :=
 Ld.perm (xe bx.h er.h) (Ld.Ey ht h1 (.own rfl) h2 hs hb)
end
section
variable {P:Program} {c:Cx} {k:List Item} {f:Fm} {L:List ak}
theorem J.aF {f':Fm} (h:J P c k f' L) (ho:pI f f'):J P c k f L:=J.only f' ho h
theorem J.bq {L':List ak} (e:L'=L) (h:J P c k f L'):J P c k f L:=e ▸ h
theorem J.gy (t:Nat) {v:Value} {e sz i:Nat} {l:List (List A)} {L':List ak} [bx:gu L v e sz l i] [er:jo L i L'] (h1:look f t=some (.c (.v v))) (h:J P c k ((t,.c (.r sz l)) :: f) L'):J P c k f L:=⟨fun a w s=>by
 have hp:(ak.row v e sz l :: L').Perm L:=by rw [← er.h];exact rA L i bx.h
 have hm:∀ x,x∈bL (ak.row v e sz l :: L')↔x∈bL L:=fun x=>by
  rw [cZ,cZ];exact ⟨fun ⟨q,hq,hx⟩=>⟨q,hp.mem_iff.1 hq,hx⟩,fun ⟨q,hq,hx⟩=>⟨q,hp.mem_iff.2 hq,hx⟩⟩
 have ho:bz c (ak.row v e sz l :: L')=bz c L:=by
  funext x;unfold bz;rw [hm]
 have s1:St c ((t,.c (.v v)) :: f) (ak.row v e sz l :: L') a w:=by
  refine ⟨s.kp,s.size,s.jj,fun q hq=>by rw [ho];exact s.res q (hp.mem_iff.1 hq),fun x hx=>s.dS x ((hm x).1 hx),(hp.pairwise_iff (fun {x y} mq z hz rB=>mq z rB hz)).2 s.ap,fun u d hu=>?_⟩;rw [ho]
  by_cases e1:t=u
  ·subst e1;rw [rD] at hu;cases hu;exact s.fr t _ h1
  ·rw [uh e1] at hu;exact s.fr u d hu
 exact h.go a w s1.freeze⟩
end
namespace K
section
variable {P:Program} {c:Cx} {k:List Item} {f:Fm} {L:List ak} {ops:Array Oper} {l:List Oper} {t:Option Tmp} {T:TypeId} {ps:String} {af:Array Edge} {gd:Option (Nat × Bool)}
theorem load {X:TypeId} {x:Operand} (h:JO P c ops (⟨t,.load X x,T,ps,af,gd⟩ :: l) k f L):JO P c ops (⟨t,.load X x,T,ps,af,gd⟩ :: l) k f L:=h
theorem store {X:TypeId} {x y:Operand} (h:JO P c ops (⟨t,.store X x y,T,ps,af,gd⟩ :: l) k f L):JO P c ops (⟨t,.store X x y,T,ps,af,gd⟩ :: l) k f L:=h
theorem move {x:Operand} (h:JO P c ops (⟨t,.move x,T,ps,af,gd⟩ :: l) k f L):JO P c ops (⟨t,.move x,T,ps,af,gd⟩ :: l) k f L:=h
theorem assign {x:Operand} (h:JO P c ops (⟨t,.assign x,T,ps,af,gd⟩ :: l) k f L):JO P c ops (⟨t,.assign x,T,ps,af,gd⟩ :: l) k f L:=h
theorem fieldAddr {X:TypeId} {x:Operand} {n:Nat} (h:JO P c ops (⟨t,.fieldAddr X x n,T,ps,af,gd⟩ :: l) k f L):JO P c ops (⟨t,.fieldAddr X x n,T,ps,af,gd⟩ :: l) k f L:=h
theorem indexAddr {X:TypeId} {x y:Operand} (h:JO P c ops (⟨t,.indexAddr X x y,T,ps,af,gd⟩ :: l) k f L):JO P c ops (⟨t,.indexAddr X x y,T,ps,af,gd⟩ :: l) k f L:=h
theorem binOp {b:BinOp} {X Y:TypeId} {x y:Operand} (h:JO P c ops (⟨t,.binOp b X x y Y,T,ps,af,gd⟩ :: l) k f L):JO P c ops (⟨t,.binOp b X x y Y,T,ps,af,gd⟩ :: l) k f L:=h
theorem unOp {b:UnOp} {X:TypeId} {x:Operand} (h:JO P c ops (⟨t,.unOp b X x,T,ps,af,gd⟩ :: l) k f L):JO P c ops (⟨t,.unOp b X x,T,ps,af,gd⟩ :: l) k f L:=h
theorem call {x:Operand} {iM:Array Operand} {tys:Array TypeId} (h:JO P c ops (⟨t,.call ⟨.value x,iM,tys⟩,T,ps,af,gd⟩ :: l) k f L):JO P c ops (⟨t,.call ⟨.value x,iM,tys⟩,T,ps,af,gd⟩ :: l) k f L:=h
theorem bi {b:Builtin} {iM:Array Operand} {tys:Array TypeId} (h:JO P c ops (⟨t,.call ⟨.builtin b,iM,tys⟩,T,ps,af,gd⟩ :: l) k f L):JO P c ops (⟨t,.call ⟨.builtin b,iM,tys⟩,T,ps,af,gd⟩ :: l) k f L:=h
theorem extract {x:Operand} {n:Nat} (h:JO P c ops (⟨t,.extract x n,T,ps,af,gd⟩ :: l) k f L):JO P c ops (⟨t,.extract x n,T,ps,af,gd⟩ :: l) k f L:=h
theorem build {X:TypeId} {iM:Array (Nat × Operand)} (h:JO P c ops (⟨t,.build X iM,T,ps,af,gd⟩ :: l) k f L):JO P c ops (⟨t,.build X iM,T,ps,af,gd⟩ :: l) k f L:=h
theorem lit {X:TypeId} {n:Nat} {iM:Array (Nat × Operand)} (h:JO P c ops (⟨t,.buildSlice X n iM,T,ps,af,gd⟩ :: l) k f L):JO P c ops (⟨t,.buildSlice X n iM,T,ps,af,gd⟩ :: l) k f L:=h
theorem slice {X:TypeId} {x:Operand} {lo hi mx:Option Operand} (h:JO P c ops (⟨t,.slice X x lo hi mx,T,ps,af,gd⟩ :: l) k f L):JO P c ops (⟨t,.slice X x lo hi mx,T,ps,af,gd⟩ :: l) k f L:=h
theorem pick {x y z:Operand} (h:JO P c ops (⟨t,.pick x y z,T,ps,af,gd⟩ :: l) k f L):JO P c ops (⟨t,.pick x y z,T,ps,af,gd⟩ :: l) k f L:=h
theorem nilCheck {x:Operand} (h:JO P c ops (⟨t,.nilCheck x,T,ps,af,gd⟩ :: l) k f L):JO P c ops (⟨t,.nilCheck x,T,ps,af,gd⟩ :: l) k f L:=h
theorem convert {X Y:TypeId} {x:Operand} (h:JO P c ops (⟨t,.convert X Y x,T,ps,af,gd⟩ :: l) k f L):JO P c ops (⟨t,.convert X Y x,T,ps,af,gd⟩ :: l) k f L:=h
theorem field {X:TypeId} {x:Operand} {n:Nat} (h:JO P c ops (⟨t,.field X x n,T,ps,af,gd⟩ :: l) k f L):JO P c ops (⟨t,.field X x n,T,ps,af,gd⟩ :: l) k f L:=h
end
end K
end Fl
end Go.Proofs.YtgjpdogjekmemaaGreat
