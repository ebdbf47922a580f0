/-
  What the laws need, part A1.
  Conditions: none.
-/
import Derived.Test.YtdjhhbpedllnhaaGreatRows
import Derived.BigQuiet
import Derived.ChangeOld
import Derived.Deep.CutBlock
import Derived.Deep.DeepCutAuto
import Derived.Deep.DeepFit
import Derived.Deep.DeepMust
import Derived.Deep.Fields
import Derived.Deep.LoopGhost
import Derived.Deep.MidRow
import Derived.Deep.QuietTactic
import Derived.Deep.RegionHeld3
import Derived.Deep.RegionLaw
import Derived.Deep.Slices
import Derived.Laws.AppendOwnNone
import Derived.Laws.CopyOwn
import Derived.Lib.Hide
import Derived.Maps.OwnSet
import Derived.Maps.RangeWalk
import Derived.OpenShut
import Derived.ProofKit
import Derived.WalkKit
set_option linter.unusedVariables false
set_option linter.unusedSimpArgs false
set_option linter.unnecessarySimpa false
set_option maxHeartbeats 2000000
namespace Go.Proofs.YtdjhhbpedllnhaaGreat
open Go.RowKit
structure aq (S:List Nat) (w w':World):Prop where
 os:w'.os=w.os
 tape:w'.tape=w.tape
 output:w'.output=w.output
 size:w.heap.size≤w'.heap.size
 block:∀ k,k < w.heap.size→k∉S→w'.heap[k]?=w.heap[k]?
theorem aq.refl (S:List Nat) (w:World):aq S w w:=⟨rfl,rfl,rfl,Nat.le_refl _,fun _ _ _=>rfl⟩
theorem aq.trans {S T:List Nat} {a b c:World} (h:aq S a b) (k:aq T b c) (hT:∀ x∈T,x∈S∨a.heap.size≤x):aq S a c :=
 ⟨k.os.trans h.os,k.tape.trans h.tape,k.output.trans h.output,Nat.le_trans h.size k.size,fun i hi hn =>
  (k.block i (Nat.lt_of_lt_of_le hi h.size) (fun hm=>by rcases hT i hm with h1 | h1;exact hn h1;omega)).trans (h.block i hi hn)⟩
theorem aq.then {S:List Nat} {a b c:World} (h:aq S a b) (k:aq [] b c):aq S a c:=h.trans k (by simp)
theorem aq.mono {S T:List Nat} {a b:World} (h:aq S a b) (hS:∀ x∈S,x∈T∨a.heap.size≤x):aq T a b :=
 ⟨h.os,h.tape,h.output,h.size,fun i hi hn=>h.block i hi (fun hm=>by rcases hS i hm with h1 | h1;exact hn h1;omega)⟩
theorem aq.drew {S:List Nat} {a w:World} (h:aq S a w):aq S a w.drew:=⟨h.os,h.tape,h.output,h.size,h.block⟩
theorem aq.drewN {S:List Nat} {a w:World} (h:aq S a w) (n:Nat):aq S a (w.drewN n):=⟨h.os,h.tape,h.output,h.size,h.block⟩
theorem aq.alloc {S:List Nat} {a w:World} (h:aq S a w) (o:Obj):aq S a (w.alloc o) :=
 h.trans (T:=[]) ⟨rfl,rfl,rfl,by simp,fun k hk _=>Below.heap_alloc w o k hk⟩ (by simp)
theorem aq.setCell {S:List Nat} {a w:World} (h:aq S a w) {p:Addr} (hp:p.block∈S∨a.heap.size≤p.block) (u:Value):aq S a (w.setCell p u) :=
 h.trans (T:=[p.block]) ⟨rfl,rfl,rfl,by simp [World.setCell],fun k hk hn=>Below.heap_setCell _ _ _ _ (by simpa using hn)⟩ (by simpa using hp)
theorem aq.setRow {S:List Nat} {a w:World} (h:aq S a w) {g:Nat} (hp:g∈S∨a.heap.size≤g) (cs:Array Value):aq S a (w.setRow g cs) :=
 h.trans (T:=[g]) ⟨rfl,rfl,rfl,by simp,fun k hk hn=>setRow_other w g k _ (by simpa using hn)⟩ (by simpa using hp)
theorem aq.grown {S:List Nat} {a w w':World} {row:Option Nat} (h:aq S a w) (hg:w.grownBy w' row) (hr:∀ k,row=some k→k∈S∨a.heap.size≤k):aq S a w' :=
 h.trans (T:=row.toList) ⟨hg.os,hg.tape,hg.output,hg.size,fun k hk hn=>hg.block k hk (by intro e;apply hn;simp [← e])⟩ (by intro x hx;exact hr x (by simpa using hx))
theorem aq.below {w w':World} (h:aq [] w w'):Below w.heap.size w w':=⟨h.os,h.tape,h.output,h.size,fun k hk=>h.block k hk (by simp)⟩
theorem aq.cell {S:List Nat} {w w':World} (h:aq S w w') {p:Addr} {v:Value} (hc:w.cell? p=some v) (hn:p.block∉S):w'.cell? p=some v:=by
 rw [World.cell?_of_block (w:=w) (h.block p.block (block_lt_of_cell hc) hn)];exact hc
def cr (w:World) (g:Nat) (cs:List Value) (e:TypeId):Prop:=w.heap[g]?=some (.cells cs.toArray e (0,0))
theorem cr.lt {w:World} {g:Nat} {cs:List Value} {e:TypeId} (h:cr w g cs e):g < w.heap.size:=lt_of_block h
theorem cr.cell {w:World} {g:Nat} {cs:List Value} {e:TypeId} (h:cr w g cs e) (j:Nat):w.cell? ⟨g,j,none⟩=cs[j]?:=by
 rw [cell_of_row w g j _ e (0,0) h];simp
theorem cr.free {w:World} {g:Nat} {cs:List Value} {e:TypeId} (h:cr w g cs e) (j:Nat):w.frozen? ⟨g,j,none⟩=false:=frozen_of_row w g j _ e h
theorem cr.aY {S:List Nat} {w w':World} {g:Nat} {cs:List Value} {e:TypeId} (h:cr w g cs e) (k:aq S w w') (hn:g∉S):cr w' g cs e:=(k.block g h.lt hn).trans h
theorem cr.set {w:World} {g:Nat} {cs:List Value} {e:TypeId} (h:cr w g cs e) (j:Nat) (v:Value):cr (w.setCell ⟨g,j,none⟩ v) g (cs.set j v) e:=by
 unfold cr;rw [heap_setCell_same w g j _ e v h];simp
theorem cr.other {w:World} {g:Nat} {cs:List Value} {e:TypeId} (h:cr w g cs e) {a:Addr} (hn:g≠a.block) (v:Value):cr (w.setCell a v) g cs e :=
 (heap_setCell_other w a g v hn).trans h
theorem cr.new (w:World) (cs:List Value) (e:TypeId):cr (w.alloc (.cells cs.toArray e)) w.heap.size cs e:=heap_alloc_new w _
theorem cr.alloc {w:World} {g:Nat} {cs:List Value} {e:TypeId} (h:cr w g cs e) (o:Obj):cr (w.alloc o) g cs e:=(Below.heap_alloc w o g h.lt).trans h
theorem cr.drew {w:World} {g:Nat} {cs:List Value} {e:TypeId} (h:cr w g cs e):cr w.drew g cs e:=h
def View (w:World) (v:Value) (sz n:Nat) (xs:List Value) (S:List Nat):Prop :=
 xs.length=n * sz∧∃ ao cap,v=.slice ao n cap∧n≤cap∧cap≤maxLen ∧
  ((n=0∧S=[])∨∃ g off,ao=some ⟨g,off,none⟩∧S=[g]∧g < w.heap.size∧∀ j,j < xs.length→w.cell? ⟨g,off + j,none⟩=xs[j]?)
theorem View.len {w:World} {v:Value} {sz n:Nat} {xs:List Value} {S:List Nat} (h:View w v sz n xs S):xs.length=n * sz:=h.1
theorem View.le {w:World} {v:Value} {sz n:Nat} {xs:List Value} {S:List Nat} (h:View w v sz n xs S):n≤maxLen:=by
 obtain ⟨_,ao,cap,_,h1,h2,_⟩:=h;omega
theorem View.shape {w:World} {v:Value} {sz n:Nat} {xs:List Value} {S:List Nat} (h:View w v sz n xs S):∃ ao cap,v=.slice ao n cap:=by
 obtain ⟨_,ao,cap,h,_⟩:=h;exact ⟨ao,cap,h⟩
theorem View.lt {w:World} {v:Value} {sz n:Nat} {xs:List Value} {S:List Nat} (h:View w v sz n xs S):∀ k∈S,k < w.heap.size:=by
 obtain ⟨_,ao,cap,_,_,_,⟨_,rfl⟩ | ⟨g,off,_,rfl,hg,_⟩⟩:=h
 ·simp
 ·simpa using hg
theorem View.nil (w:World) (sz:Nat):View w (.slice none 0 0) sz 0 [] []:=⟨by simp,none,0,rfl,Nat.le_refl _,by simp [maxLen],.inl ⟨rfl,rfl⟩⟩
theorem View.aY {S T:List Nat} {w w':World} {v:Value} {sz n:Nat} {xs:List Value} (h:View w v sz n xs S) (k:aq T w w') (hn:∀ x∈S,x∉T):View w' v sz n xs S:=by
 obtain ⟨h0,ao,cap,h1,h2,h3,h4⟩:=h;refine ⟨h0,ao,cap,h1,h2,h3,?_⟩;rcases h4 with h4 | ⟨g,off,rfl,rfl,hg,hc⟩
 ·exact .inl h4
 ·refine .inr ⟨g,off,rfl,rfl,Nat.lt_of_lt_of_le hg k.size,fun j hj=>?_⟩;rw [← hc j hj];exact World.cell?_of_block (w:=w) (k.block g hg (hn g (by simp)))
theorem View.then {S:List Nat} {w w':World} {v:Value} {sz n:Nat} {xs:List Value} (h:View w v sz n xs S) (k:aq [] w w'):View w' v sz n xs S:=h.aY k (by simp)
theorem View.cell {S:List Nat} {w:World} {ao:Option Addr} {m cap:Nat} {sz n:Nat} {xs:List Value} (h:View w (.slice ao m cap) sz n xs S) (hp:0 < n) :
  ∃ g off,ao=some ⟨g,off,none⟩∧S=[g]∧g < w.heap.size∧∀ j,j < xs.length→w.cell? ⟨g,off + j,none⟩=xs[j]?:=by
 obtain ⟨h0,Ie,AU,h1,h2,h3,h4⟩:=h;obtain ⟨rfl,rfl,rfl⟩:=by simpa using h1
 rcases h4 with ⟨rfl,_⟩ | h4
 ·omega
 ·exact h4
theorem AV {k:IntKind} {a b:Int} (h:a=b):Ending.returned (.int k a)=.returned (.int k b):=by rw [h]
theorem eW {a b:Bool} (h:a=b):Ending.returned (.bool a)=.returned (.bool b):=by rw [h]
open Go.RowKit
def Row (w:World) (v:Value) (e:TypeId) (sz n:Nat) (xs:List Value) (S:List Nat):Prop :=
 xs.length=n * sz∧∃ ao cap,v=.slice ao n cap∧n≤cap∧cap≤maxLen ∧
  ((ao=none∧n=0∧cap=0∧S=[])∨∃ g off cur,ao=some ⟨g,off,none⟩∧S=[g]∧cr w g cur e∧off + cap * sz≤cur.length∧∀ j,j < xs.length→cur[off + j]?=xs[j]?)
section
variable {w w':World} {v:Value} {e:TypeId} {sz n:Nat} {xs:List Value} {S T:List Nat}
theorem Row.view (h:Row w v e sz n xs S):View w v sz n xs S:=by
 obtain ⟨h0,ao,cap,h1,h2,h3,h4⟩:=h;refine ⟨h0,ao,cap,h1,h2,h3,?_⟩;rcases h4 with h4 | ⟨g,off,cur,rfl,rfl,hb,hl,hc⟩
 ·exact .inl ⟨h4.2.1,h4.2.2.2⟩
 ·exact .inr ⟨g,off,rfl,rfl,hb.lt,fun j hj=>by rw [hb.cell];exact hc j hj⟩
theorem Row.len (h:Row w v e sz n xs S):xs.length=n * sz:=h.1
theorem Row.le (h:Row w v e sz n xs S):n≤maxLen:=h.view.le
theorem Row.lt (h:Row w v e sz n xs S):∀ k∈S,k < w.heap.size:=h.view.lt
theorem Row.shape (h:Row w v e sz n xs S):∃ ao cap,v=.slice ao n cap:=h.view.shape
theorem Row.aY (h:Row w v e sz n xs S) (k:aq T w w') (hn:∀ x∈S,x∉T):Row w' v e sz n xs S:=by
 obtain ⟨h0,ao,cap,h1,h2,h3,h4⟩:=h;refine ⟨h0,ao,cap,h1,h2,h3,?_⟩;rcases h4 with h4 | ⟨g,off,cur,rfl,rfl,hb,hr⟩
 ·exact .inl h4
 ·exact .inr ⟨g,off,cur,rfl,rfl,hb.aY k (hn g (by simp)),hr⟩
theorem Row.then (h:Row w v e sz n xs S) (k:aq [] w w'):Row w' v e sz n xs S:=h.aY k (by simp)
theorem Row.alloc (h:Row w v e sz n xs S) (o:Obj):Row (w.alloc o) v e sz n xs S:=h.then ((aq.refl [] w).alloc o)
theorem Row.nil (w:World) (e:TypeId) (sz:Nat):Row w (.slice none 0 0) e sz 0 [] []:=⟨by simp,none,0,rfl,Nat.le_refl _,by simp [maxLen],.inl ⟨rfl,rfl,rfl,rfl⟩⟩
theorem Row.lit (w:World) (cs:List Value) (e:TypeId) (sz n:Nat) (hl:cs.length=n * sz) (hm:n≤maxLen):Row (w.alloc (.cells cs.toArray e)) (.slice (some ⟨w.heap.size,0,none⟩) n n) e sz n cs [w.heap.size] :=
 ⟨hl,_,n,rfl,Nat.le_refl _,hm,.inr ⟨w.heap.size,0,cs,rfl,rfl,cr.new w cs e,by omega,by simp⟩⟩
theorem Row.AW {base:Nat} (h:w.ownsRow base e sz v n xs):Row w v e sz n xs v.ownBlock.toList∧∀ k∈v.ownBlock.toList,base≤k:=by
 obtain ⟨hl,h⟩:=h;rcases h with ⟨rfl,rfl⟩ | ⟨g,cap,cur,rfl,hb,hg,oP,iH,jm,Pm⟩
 ·exact ⟨⟨hl,none,0,rfl,Nat.le_refl _,by simp [maxLen],.inl ⟨rfl,rfl,rfl,rfl⟩⟩,by simp [Value.ownBlock]⟩
 ·refine ⟨⟨hl,_,cap,rfl,oP,iH,.inr ⟨g,0,cur.toList,rfl,rfl,by simpa [cr] using hg,by simp [jm],fun j hj=>?_⟩⟩,by simpa [Value.ownBlock] using hb⟩;rw [Nat.zero_add,← Pm,List.getElem?_take,if_pos (by omega)]
theorem Row.stored {g off m cap:Nat} (h:Row w (.slice (some ⟨g,off,none⟩) m cap) e sz n xs S) (j:Nat) (hj:j < xs.length) (u:Value) :
  Row (w.setCell ⟨g,off + j,none⟩ u) (.slice (some ⟨g,off,none⟩) m cap) e sz n (xs.set j u) S∧aq S w (w.setCell ⟨g,off + j,none⟩ u):=by
 obtain ⟨h0,ao,AU,h1,h2,h3,h4⟩:=h;obtain ⟨rfl,rfl,rfl⟩:=by simpa using h1
 rcases h4 with ⟨h4,_⟩ | ⟨g',xV,cur,h4,rfl,hb,hl,hc⟩
 ·cases h4
 ·obtain ⟨rfl,rfl⟩:=by simpa using h4
  refine ⟨⟨by simpa using h0,_,cap,rfl,h2,h3,.inr ⟨g,off,cur.set (off + j) u,rfl,rfl,hb.set _ u,by simpa using hl,fun i hi=>?_⟩⟩,(aq.refl _ w).setCell (by simp) u⟩;have p9:i < xs.length:=by simpa using hi
  have bY:off + j < cur.length:=by
   have:=hc j hj;rw [List.getElem?_eq_getElem hj] at this;exact (List.getElem?_eq_some_iff.1 this).1
  by_cases e:i=j
  ·subst e;simp [bY,hj]
  ·rw [List.getElem?_set_ne (by omega),List.getElem?_set_ne (by omega)];exact hc i p9
theorem Row.cells {ao:Option Addr} {m cap:Nat} (h:Row w (.slice ao m cap) e sz n xs S) (hp:0 < n) :
  ∃ g off,ao=some ⟨g,off,none⟩∧S=[g]∧g < w.heap.size∧(∀ j,j < xs.length→w.cell? ⟨g,off + j,none⟩=xs[j]?)∧∀ j,w.frozen? ⟨g,off + j,none⟩=false:=by
 obtain ⟨h0,Ie,AU,h1,h2,h3,h4⟩:=h;obtain ⟨rfl,rfl,rfl⟩:=by simpa using h1
 rcases h4 with ⟨_,rfl,_⟩ | ⟨g,off,cur,rfl,rfl,hb,hl,hc⟩
 ·omega
 ·exact ⟨g,off,rfl,rfl,hb.lt,fun j hj=>by rw [hb.cell];exact hc j hj,fun j=>hb.free _⟩
end
theorem Ig {k:IntKind} {n:Int}:∀ y∈[Value.int k n],y.oneCell'=true:=by intro y hy;simp at hy;subst hy;rfl
theorem Dz {k:IntKind} (l:List Int):∀ y∈l.map (Value.int k),y.oneCell'=true:=by intro y hy;simp at hy;obtain ⟨_,_,rfl⟩:=hy;rfl
theorem Ih:1≤maxLen:=by simp [maxLen]
def kz (P:Program) (t e:TypeId) (sz bytes:Nat) (z:Value):Prop :=
 P.underlying t=some (.slice e)∧(P.info? e).map (fun i=>(i.zero,i.size,i.bytes))=some (some z,sz,bytes)∧z.cells.size=sz∧0 < sz∧0 < bytes
section
variable {P:Program} {t e:TypeId} {sz bytes:Nat} {z:Value}
theorem Pp (w:World) (t ty e:TypeId) (i:TypeInfo) (ht:P.underlying t=some (.slice e)) (hi:P.info? e=some i)
  (g off uA DA:Nat) (cur:Array Value) (hg:w.heap[g]?=some (.cells cur e (0,0)))
  (a:Addr) (m c:Nat) (news:List Value) (hl:news.length=m * i.size) (xW:∀ j u,news[j]?=some u→w.cell? (a.add j)=some u) (h1:∀ u∈news,u.oneCell'=true)
  (xX:uA + m≤DA) (AX:off + uA * i.size + news.length≤cur.size) :
  ∃ AY,(Builtin.append_ #[t,t] ty #[.slice (some ⟨g,off,none⟩) uA DA,.slice (some a) m c]).run P w =
   .ok (.slice (some ⟨g,off,none⟩) (uA + m) DA) (w.setRow g AY)∧AY=(cur.toList.take (off + uA * i.size) ++ news ++ cur.toList.drop (off + uA * i.size + news.length)).toArray:=by
 have hf:=run_firstCells_some (P:=P) w i.size m a m c news hl xW;have eY:=run_storeCells_at P g (off + uA * i.size) e news 0 cur w hg (by simpa using AX) h1;simp only [Nat.add_zero] at eY;refine ⟨_,?_,rfl⟩;simp [Builtin.append_,run_underlying ht,sizeOf,typeInfo,hi,Builtin.lenOf,xX,hf,Addr.add_lit,eY]
theorem DB (E:kz P t e sz bytes z) (ty:TypeId) {w:World} {v u:Value} {n m:Nat} {xs ys:List Value} {S T:List Nat} (h:Row w v e sz n xs S) (hu:View w u sz m ys T)
  (h1:∀ y∈ys,y.oneCell'=true) (hb:(n + m) * bytes≤140737488355328) :
  ∃ ao cap w' S',(Builtin.append_ #[t,t] ty #[v,u]).run P w=.ok (.slice ao (n + m) cap) w'∧Row w' (.slice ao (n + m) cap) e sz (n + m) (xs ++ ys) S'∧aq S w w'∧(∀ k∈S',k∈S∨w.heap.size≤k) ∧
   (m=0→.slice ao (n + m) cap=v∧w'=w):=by
 obtain ⟨ht,jJ,hz,qc,oQ⟩:=E;obtain ⟨i,hi,dY,fo,iD⟩:=info_parts jJ;clear jJ;subst fo;subst iD;have hlen:(xs ++ ys).length=(n + m) * i.size:=by rw [List.length_append,h.1,hu.1,Nat.add_mul]
 have AZ:n + m≤140737488355328:=Nat.le_trans (Nat.le_mul_of_pos_right _ oQ) hb;have Ii:n + m≤maxLen:=by simp only [maxLen];omega
 by_cases hm:m=0
 ·subst hm;have hy:ys=[]:=List.eq_nil_of_length_eq_zero (by have:=hu.1;simpa using this);subst hy;obtain ⟨ao,cap,rfl⟩:=h.shape;obtain ⟨bo,oR,rfl⟩:=hu.shape;refine ⟨ao,cap,w,S,?_,by simpa using h,aq.refl _ _,fun k hk=>.inl hk,fun _=>⟨by simp,rfl⟩⟩;obtain ⟨_,Ie,AU,h1,oP,iH,_⟩:=h;obtain ⟨rfl,rfl⟩:=by simpa using h1
  cases bo with
  | none=>simp [Builtin.append_,run_underlying ht,sizeOf,typeInfo,hi,Builtin.lenOf,Builtin.firstCells,oP];cases ao <;> simp [storeCells]
  | some b =>
   have hf:=run_firstCells_some (P:=P) w i.size 0 b 0 oR [] (by simp) (by simp);simp [Builtin.append_,run_underlying ht,sizeOf,typeInfo,hi,Builtin.lenOf,oP,hf];cases ao <;> simp [storeCells]
 ·obtain ⟨lU,bo,oR,rfl,Ij,Ik,xY⟩:=hu;rcases xY with ⟨h0,_⟩ | ⟨ug,xZ,rfl,rfl,Il,x7⟩
  ·omega
  have xW:∀ j y,ys[j]?=some y→w.cell? ((⟨ug,xZ,none⟩:Addr).add j)=some y:=by
   intro j y hy;rw [Addr.add_lit,x7 j (List.getElem?_eq_some_iff.1 hy).1];exact hy
  have Im:∀ (old:Nat) (x8:List Value),old < n + m→x8.length=n * i.size→x8=xs →
    Row (w.drew.alloc (.cells (x8.toArray ++ ys.toArray ++ Builtin.zeroCells z.cells (grownCap w (n + m) old e - (n + m))) e)) (.slice (some ⟨w.heap.size,0,none⟩) (n + m) (grownCap w (n + m) old e)) e i.size (n + m) (xs ++ ys) [w.heap.size]:=by
   intro old x8 ho nY hx;subst hx;have uD:=grownCap_ge w (n + m) old e;have iH:grownCap w (n + m) old e≤maxLen:=grownCap_le_maxLen w (n + m) old e Ii;refine ⟨hlen,_,_,rfl,uD,iH,.inr ⟨w.heap.size,0,(x8.toArray ++ ys.toArray ++ Builtin.zeroCells z.cells (grownCap w (n + m) old e - (n + m))).toList,rfl,rfl,?_,?_,?_⟩⟩
   ·unfold cr;rw [Array.toArray_toList];exact heap_alloc_new w.drew _
   ·simp only [Array.length_toList,Array.size_append,List.size_toArray,size_zeroCells,hz,nY,lU,← Nat.add_mul,Nat.zero_add];exact Nat.mul_le_mul_right _ (by omega)
   ·intro j hj;rw [Nat.zero_add];simp only [Array.toList_append,List.append_assoc];rw [← List.append_assoc,List.getElem?_append_left (by simpa using hj)]
  have Io:∀ o:Obj,aq S w (w.drew.alloc o):=fun o=>(aq.refl S w).drew.alloc o
  obtain ⟨hl,ao,cap,rfl,oP,iH,h4⟩:=h;rcases h4 with ⟨rfl,rfl,rfl,rfl⟩ | ⟨g,off,cur,rfl,rfl,hg,AX,hc⟩
  ·have Pq:xs=[]:=List.eq_nil_of_length_eq_zero (by simpa using hl);subst Pq;have hr:=run_append_nil (P:=P) w t ty e i z ht hi dY _ m oR ys lU xW (by omega) (by omega) (by have:=hb;simp only [Nat.zero_add] at this;omega);have hI:=Im 0 [] (by omega) (by simp) rfl;simp only [Nat.zero_add,List.nil_append,Array.empty_append] at hI ⊢;exact ⟨_,_,_,_,hr,by simpa using hI,by simpa using Io _,by simp,fun h=>absurd h hm⟩
  ·by_cases xX:n + m≤cap
   ·have Pr:off + n * i.size + ys.length≤cur.length:=by
     have:(n + m) * i.size≤cap * i.size:=Nat.mul_le_mul_right _ xX;rw [Nat.add_mul] at this;omega
    obtain ⟨AY,hr,Ip⟩:=Pp (P:=P) w t ty e i ht hi g off n cap cur.toArray hg _ m oR ys lU xW h1 xX (by simpa using Pr);refine ⟨_,_,_,_,hr,⟨hlen,_,_,rfl,xX,iH,.inr ⟨g,off,AY.toList,rfl,rfl,?_,?_,?_⟩⟩,(aq.refl _ w).setRow (by simp) _,by simp,fun h=>absurd h hm⟩
    ·unfold cr;rw [Array.toArray_toList];exact setRow_heap w g cur.toArray _ e _ hg
    ·rw [Ip];simp;omega
    ·intro j hj;rw [Ip];simp only
     by_cases x9:j < xs.length
     ·rw [List.append_assoc,List.getElem?_append_left (by simp;omega),List.getElem?_append_left x9,List.getElem?_take,if_pos (by omega)];exact hc j x9
     ·have eP:j < xs.length + ys.length:=by simpa using hj
      have hcu:xs.length≤(n + m) * i.size:=by rw [Nat.add_mul,hl];omega
      have rm:(cur.take (off + n * i.size)).length=off + n * i.size:=by rw [List.length_take];omega
      have e1:(xs ++ ys)[j]?=ys[j - xs.length]?:=List.getElem?_append_right (by omega);rw [e1,List.append_assoc,List.getElem?_append_right (by rw [rm];omega),List.getElem?_append_left (by rw [rm];omega),rm,hl]
      congr 1;omega
   ·have holds:∀ j y,xs[j]?=some y→w.cell? ((⟨g,off,none⟩:Addr).add j)=some y:=by
     intro j y hy;rw [Addr.add_lit,hg.cell,hc j (List.getElem?_eq_some_iff.1 hy).1];exact hy
    have hr:=run_append_grow (P:=P) w t ty e i z ht hi dY ⟨g,off,none⟩ n cap xs hl holds _ m oR ys lU xW (by omega) (by omega) (growslice_fits (by omega) hb);exact ⟨_,_,_,_,hr,Im cap xs (by omega) hl rfl,Io _,by simp,fun h=>absurd h hm⟩
theorem Iq (E:kz P t e sz bytes z) {w:World} {ops:Array Oper} {rest:List Oper} {o:Oper} {a:Act} {Q:Exit→Act→World→Prop} {s x:Operand}
  {v u:Value} {n m:Nat} {xs ys:List Value} {S T:List Nat} (h:Row w v e sz n xs S) (hu:View w u sz m ys T)
  (h1:∀ y∈ys,y.oneCell'=true) (hb:(n + m) * bytes≤140737488355328)
  (hK:∀ ao cap w' S',Row w' (.slice ao (n + m) cap) e sz (n + m) (xs ++ ys) S'→aq S w w'→(∀ k∈S',k∈S∨w.heap.size≤k)→wpList P ops Q rest (a.put o.dst (.slice ao (n + m) cap)) w')
  (hg:o.guard=none:=by rfl) (gJ:o.op=Op.call { callee:=Callee.builtin Builtin.append,args:=#[s,x],argTypes:=#[t,t] }:=by rfl) (hs:a.eval s=v:=by rfl) (hx:a.eval x=u:=by rfl) :
  wpList P ops Q (o :: rest) a w:=by
 obtain ⟨ao,cap,w',S',fW,r1,r2,r3,_⟩:=DB E o.type h hu h1 hb;refine wpList_plain hg fun K Pt=>?_
 unfold Oper.wp;simp [execOp,gJ,resolve,invoke,builtin,hs,hx,fW,Result.andThen];exact Pt _ _ (hK ao cap w' S' r1 r2 r3)
theorem Pu (E:kz P t e sz bytes z) {w:World} {ops:Array Oper} {rest:List Oper} {o:Oper} {a:Act} {Q:Exit→Act→World→Prop} {s x:Operand}
  {v:Value} {n m bx:Nat} {xs ys:List Value} {S:List Nat} (h:Row w v e sz n xs S) (hy:ys.length=m * sz) (hm:m≤maxLen)
  (h1:∀ y∈ys,y.oneCell'=true) (hb:(n + m) * bytes≤140737488355328)
  (hK:∀ ao cap w' S',Row w' (.slice ao (n + m) cap) e sz (n + m) (xs ++ ys) S'→aq S w w'→(∀ k∈S',k∈S∨w.heap.size≤k)→wpList P ops Q rest (a.put o.dst (.slice ao (n + m) cap)) w')
  (hg:o.guard=none:=by rfl) (gJ:o.op=Op.call { callee:=Callee.builtin Builtin.append,args:=#[s,x],argTypes:=#[t,t] }:=by rfl) (hs:a.eval s=v:=by rfl) (hx:a.eval x=.slice (some ⟨bx,0,none⟩) m m:=by rfl) (kA:bx=w.heap.size:=by first | rfl | simp) :
  wpList P ops Q (o :: rest) a (w.alloc (.cells ys.toArray e)):=by
 subst kA;refine Iq E (h.alloc _) (Row.lit w ys e sz m hy hm).view h1 hb ?_ hg gJ hs hx;intro ao cap w' S' r1 r2 r3;refine hK ao cap w' S' r1 (((aq.refl S w).alloc _).trans r2 (fun k hk=>.inl hk)) (fun k hk=>?_);rcases r3 k hk with h | h
 ·exact .inl h
 ·right;simp at h;omega
theorem Ir (E:kz P t e sz bytes z) {w:World} {ops:Array Oper} {o:Oper} {a:Act} {K:Act→World→Prop} {Q:Exit→Act→World→Prop} {F:Prop} {s x:Operand}
  {v u:Value} {n m:Nat} {xs ys:List Value} {S T:List Nat} (h:Row w v e sz n xs S) (hu:View w u sz m ys T)
  (h1:∀ y∈ys,y.oneCell'=true) (hb:(n + m) * bytes≤140737488355328)
  (hK:∀ ao cap w' S',Row w' (.slice ao (n + m) cap) e sz (n + m) (xs ++ ys) S'→aq S w w'→(∀ k∈S',k∈S∨w.heap.size≤k)→K (a.put o.dst (.slice ao (n + m) cap)) w')
  (hg:o.guard=none:=by rfl) (gJ:o.op=Op.call { callee:=Callee.builtin Builtin.append,args:=#[s,x],argTypes:=#[t,t] }:=by rfl) (hs:a.eval s=v:=by rfl) (hx:a.eval x=u:=by rfl) :
  if Region.wanted o (yielded ops a.tmps)=true then Oper.wp P o a w K Q else F:=by
 have hw:Region.wanted o (yielded ops a.tmps)=true:=by simp [Region.wanted,hg]
 rw [if_pos hw];obtain ⟨ao,cap,w',S',fW,r1,r2,r3,_⟩:=DB E o.type h hu h1 hb;unfold Oper.wp;simp [execOp,gJ,resolve,invoke,builtin,hs,hx,fW,Result.andThen];exact hK ao cap w' S' r1 r2 r3
theorem Pv (E:kz P t e sz bytes z) {w:World} {ops:Array Oper} {o:Oper} {a:Act} {K:Act→World→Prop} {Q:Exit→Act→World→Prop} {F:Prop} {s x:Operand}
  {v:Value} {n m bx:Nat} {xs ys:List Value} {S:List Nat} (h:Row w v e sz n xs S) (hy:ys.length=m * sz) (hm:m≤maxLen)
  (h1:∀ y∈ys,y.oneCell'=true) (hb:(n + m) * bytes≤140737488355328)
  (hK:∀ ao cap w' S',Row w' (.slice ao (n + m) cap) e sz (n + m) (xs ++ ys) S'→aq S w w'→(∀ k∈S',k∈S∨w.heap.size≤k)→K (a.put o.dst (.slice ao (n + m) cap)) w')
  (hg:o.guard=none:=by rfl) (gJ:o.op=Op.call { callee:=Callee.builtin Builtin.append,args:=#[s,x],argTypes:=#[t,t] }:=by rfl) (hs:a.eval s=v:=by rfl) (hx:a.eval x=.slice (some ⟨bx,0,none⟩) m m:=by rfl) (kA:bx=w.heap.size:=by first | rfl | simp) :
  if Region.wanted o (yielded ops a.tmps)=true then Oper.wp P o a (w.alloc (.cells ys.toArray e)) K Q else F:=by
 subst kA;refine Ir E (h.alloc _) (Row.lit w ys e sz m hy hm).view h1 hb ?_ hg gJ hs hx;intro ao cap w' S' r1 r2 r3;refine hK ao cap w' S' r1 (((aq.refl S w).alloc _).trans r2 (fun k hk=>.inl hk)) (fun k hk=>?_);rcases r3 k hk with h | h
 ·exact .inl h
 ·right;simp at h;omega
theorem DC (E:kz P t e sz bytes z) {w:World} {ops:Array Oper} {rest:List Oper} {o:Oper} {a:Act} {Q:Exit→Act→World→Prop} {l c:Operand}
  {kl kc:IntKind} {L C:Int} (n:Nat) (hb:n * bytes≤281474976710656)
  (hK:∀ w',Row w' (.slice (some ⟨w.heap.size,0,none⟩) n n) e sz n (madeCells z.cells (n * sz)).toList [w.heap.size]→aq [] w w'→wpList P ops Q rest (a.put o.dst (.slice (some ⟨w.heap.size,0,none⟩) n n)) w')
  (hg:o.guard=none:=by rfl) (gJ:o.op=Op.makeSlice t l c:=by rfl) (hl:a.eval l=.int kl L:=by rfl) (hc:a.eval c=.int kc C:=by rfl) (hL:L=(n:Int)) (hC:C=(n:Int)) :
  wpList P ops Q (o :: rest) a w:=by
 obtain ⟨ht,jJ,hz,qc,oQ⟩:=E;obtain ⟨i,hi,dY,fo,iD⟩:=info_parts jJ;clear jJ;have AZ:n≤281474976710656:=Nat.le_trans (Nat.le_mul_of_pos_right _ oQ) hb;refine wpList_make_full w hg l c t gJ 0 e i z sz ht hi dY fo kl kc L C n hl hc hL hC (by rw [iD,Nat.mul_comm];exact hb) (by simp only [maxLen];omega) (Nat.zero_le _) ?_;intro w' h1 h2;exact hK w' (Row.AW h1).1 ((aq.refl [] w).grown h2 (by simp))
theorem It (E:kz P t e sz bytes z) {w:World} {ops:Array Oper} {rest:List Oper} {o:Oper} {a:Act} {Q:Exit→Act→World→Prop} {l c:Operand}
  {kl kc:IntKind} {C:Int} (n:Nat) (hb:n * bytes≤281474976710656)
  (hK:∀ w',Row w' (.slice (some ⟨w.heap.size,0,none⟩) 0 n) e sz 0 [] [w.heap.size]→aq [] w w'→wpList P ops Q rest (a.put o.dst (.slice (some ⟨w.heap.size,0,none⟩) 0 n)) w')
  (hg:o.guard=none:=by rfl) (gJ:o.op=Op.makeSlice t l c:=by rfl) (hl:a.eval l=.int kl 0:=by rfl) (hc:a.eval c=.int kc C:=by rfl) (hC:C=(n:Int)) :
  wpList P ops Q (o :: rest) a w:=by
 obtain ⟨ht,jJ,hz,qc,oQ⟩:=E;obtain ⟨i,hi,dY,fo,iD⟩:=info_parts jJ;clear jJ;have AZ:n≤281474976710656:=Nat.le_trans (Nat.le_mul_of_pos_right _ oQ) hb;refine wpList_make_own w hg l c t gJ 0 e i z sz ht hi dY fo kl kc C n hl hc hC (by rw [iD,Nat.mul_comm];exact hb) (by simp only [maxLen];omega) (Nat.zero_le _) ?_;intro w' h1 h2;exact hK w' (Row.AW h1).1 ((aq.refl [] w).grown h2 (by simp))
theorem Pw (E:kz P t e 1 bytes z) {w:World} {ops:Array Oper} {rest:List Oper} {o:Oper} {a:Act} {Q:Exit→Act→World→Prop} {d s:Operand}
  {v u:Value} {n m:Nat} {xs ys:List Value} {S T:List Nat} (h:Row w v e 1 n xs S) (hu:View w u 1 m ys T) (h1:∀ y∈ys,y.oneCell'=true)
  (hK:∀ w',Row w' v e 1 n (ys.take (min m n) ++ xs.drop (min m n)) S→aq S w w'→wpList P ops Q rest (a.put o.dst (goInt ((min m n:Nat):Int))) w')
  (hg:o.guard=none:=by rfl) (gJ:o.op=.call { callee:=.builtin .copy,args:=#[d,s],argTypes:=#[t,t] }:=by rfl) (hd:a.eval d=v:=by rfl) (hs:a.eval s=u:=by rfl) :
  wpList P ops Q (o :: rest) a w:=by
 obtain ⟨ht,jJ,hz,qc,oQ⟩:=E;obtain ⟨i,hi,dY,fo,iD⟩:=info_parts jJ;have jZ:(P.info? e).map (·.size)=some 1:=by rw [hi];simp [fo]
 obtain ⟨lU,bo,oR,rfl,Ij,Ik,xY⟩:=hu;obtain ⟨hl,ao,cap,rfl,oP,iH,h4⟩:=h
 by_cases h0:min m n=0
 ·refine wpList_copy_nothing hg d s t t gJ e ht jZ ao bo n cap m oR hd hs (by simpa [Nat.min_def] using h0) ?_;have:=hK w ⟨by rw [h0];simpa using hl,_,_,rfl,oP,iH,by rw [h0];simpa using h4⟩ (aq.refl _ _)
  rwa [h0] at this
 ·rcases h4 with ⟨_,rfl,_⟩ | ⟨g,off,cur,rfl,rfl,hb,AX,hc⟩
  ·simp at h0
  ·rcases xY with ⟨rfl,_⟩ | ⟨ug,xZ,rfl,rfl,Il,x7⟩
   ·simp at h0
   ·have gQ:(ys.take (min m n)).length=min m n:=by rw [List.length_take,lU];omega
    refine wpList_copy_own hg d s t t gJ e ht jZ g off n cap ⟨ug,xZ,none⟩ m oR hd hs cur.toArray e hb (ys.take (min m n)) (by rw [gQ]) ?_ (by rw [gQ,List.size_toArray];omega) (fun y hy=>h1 y (List.mem_of_mem_take hy)) ?_
    ·intro j y hy;rw [List.getElem?_take] at hy
     split at hy
     ·rw [Addr.add_lit,x7 j (List.getElem?_eq_some_iff.1 hy).1];exact hy
     ·cases hy
    ·rw [gQ];refine hK _ ⟨?_,_,_,rfl,oP,iH,.inr ⟨g,off,_,rfl,rfl,setRow_heap w g cur.toArray _ e _ hb,?_,?_⟩⟩ ((aq.refl _ w).setRow (by simp) _)
     ·rw [List.length_append,gQ,List.length_drop,hl];omega
     ·simp only [List.length_append,List.length_take,List.length_drop,gQ];omega
     ·intro j hj;have DD:j < n:=by rw [List.length_append,gQ,List.length_drop] at hj;omega
      have rm:(cur.take off).length=off:=by rw [List.length_take];omega
      rw [List.getElem?_append_right (by rw [rm];omega),rm,show off + j - off=j by omega]
      by_cases nt:j < min m n
      ·rw [List.getElem?_append_left (by rw [gQ];exact nt),List.getElem?_append_left (by rw [gQ];exact nt)]
      ·rw [List.getElem?_append_right (by rw [gQ];omega),List.getElem?_append_right (by rw [gQ];omega),gQ,List.getElem?_drop,List.getElem?_drop];rw [show off + min m n + (j - min m n)=off + j by omega,show min m n + (j - min m n)=j by omega];exact hc j (by omega)
end
open Go.RowKit Go.ChangeShapes Go.WideShapes Go.Deep
def we (P:Program) (t:TypeId):Option (Option IntKind):=match P.underlying t with
 | some (.int k)=>some (some k)
 | some .bool=>some none
 | _=>none
section
variable {H:Type} {enc:TypeId × Value→H} {P:Program} {w:World} {base:Nat} {spare:Nat→Bool} {held:Bool}
end
open Go.RowKit
def IV (w:World) (v:Value) (l:List Int) (S:List Nat):Prop:=View w v 1 l.length (l.map (Value.int .i64)) S
def IR (w:World) (v:Value) (e:TypeId) (l:List Int) (S:List Nat):Prop:=Row w v e 1 l.length (l.map (Value.int .i64)) S
section
variable {w w':World} {v:Value} {l:List Int} {S T:List Nat} {e:TypeId}
theorem IR.iv (h:IR w v e l S):IV w v l S:=Row.view h
theorem IV.aY (h:IV w v l S) (k:aq T w w') (hn:∀ x∈S,x∉T):IV w' v l S:=View.aY h k hn
theorem IV.then (h:IV w v l S) (k:aq [] w w'):IV w' v l S:=View.then h k
theorem IR.aY (h:IR w v e l S) (k:aq T w w') (hn:∀ x∈S,x∉T):IR w' v e l S:=Row.aY h k hn
theorem IR.then (h:IR w v e l S) (k:aq [] w w'):IR w' v e l S:=Row.then h k
theorem IV.shape (h:IV w v l S):∃ ao cap,v=.slice ao l.length cap:=View.shape h
theorem IR.shape (h:IR w v e l S):∃ ao cap,v=.slice ao l.length cap:=Row.shape h
theorem IV.le (h:IV w v l S):l.length≤maxLen:=View.le h
theorem IV.lt (h:IV w v l S):∀ k∈S,k < w.heap.size:=View.lt h
theorem IR.lt (h:IR w v e l S):∀ k∈S,k < w.heap.size:=Row.lt h
theorem IV.nil (w:World):IV w (.slice none 0 0) [] []:=View.nil w 1
theorem IR.nil (w:World) (e:TypeId):IR w (.slice none 0 0) e [] []:=Row.nil w e 1
theorem IV.cells {ao:Option Addr} {m cap:Nat} (h:IV w (.slice ao m cap) l S) (hp:0 < l.length) :
  ∃ g off,ao=some ⟨g,off,none⟩∧S=[g]∧g < w.heap.size∧∀ k,k < l.length→w.cell? ⟨g,off + k,none⟩=some (.int .i64 (l.getD k 0)):=by
 obtain ⟨g,off,h1,h2,h3,h4⟩:=View.cell h hp;refine ⟨g,off,h1,h2,h3,fun k hk=>?_⟩;rw [h4 k (by simpa using hk)];simp [List.getD,hk]
theorem IR.cells {ao:Option Addr} {m cap:Nat} (h:IR w (.slice ao m cap) e l S) (hp:0 < l.length) :
  ∃ g off,ao=some ⟨g,off,none⟩∧S=[g]∧g < w.heap.size∧(∀ k,k < l.length→w.cell? ⟨g,off + k,none⟩=some (.int .i64 (l.getD k 0)))∧∀ k,w.frozen? ⟨g,off + k,none⟩=false:=by
 obtain ⟨g,off,h1,h2,h3,h4,h5⟩:=Row.cells h hp;refine ⟨g,off,h1,h2,h3,fun k hk=>?_,h5⟩;rw [h4 k (by simpa using hk)];simp [List.getD,hk]
end
section
variable {P:Program} {t e:TypeId} {bytes:Nat} {z:Value}
theorem DE (E:kz P t e 1 bytes z) {w:World} {ops:Array Oper} {rest:List Oper} {o:Oper} {a:Act} {Q:Exit→Act→World→Prop} {s x:Operand}
  {v u:Value} {l r:List Int} {S T:List Nat} (h:IR w v e l S) (hu:IV w u r T) (hb:(l.length + r.length) * bytes≤140737488355328)
  (hK:∀ ao cap w' S',IR w' (.slice ao (l.length + r.length) cap) e (l ++ r) S'→aq S w w'→(∀ k∈S',k∈S∨w.heap.size≤k)→wpList P ops Q rest (a.put o.dst (.slice ao (l.length + r.length) cap)) w')
  (hg:o.guard=none:=by rfl) (gJ:o.op=Op.call { callee:=Callee.builtin Builtin.append,args:=#[s,x],argTypes:=#[t,t] }:=by rfl) (hs:a.eval s=v:=by rfl) (hx:a.eval x=u:=by rfl) :
  wpList P ops Q (o :: rest) a w :=
 Iq E h hu (Dz r) hb (fun ao cap w' S' r1 r2 r3=>hK ao cap w' S' (by unfold IR;simpa using r1) r2 r3) hg gJ hs hx
theorem Iu (E:kz P t e 1 bytes z) {w:World} {ops:Array Oper} {rest:List Oper} {o:Oper} {a:Act} {Q:Exit→Act→World→Prop} {s x:Operand}
  {v:Value} {l:List Int} {n:Int} {bx:Nat} {S:List Nat} (h:IR w v e l S) (hb:(l.length + 1) * bytes≤140737488355328)
  (hK:∀ ao cap w' S',IR w' (.slice ao (l.length + 1) cap) e (l ++ [n]) S'→aq S w w'→(∀ k∈S',k∈S∨w.heap.size≤k)→wpList P ops Q rest (a.put o.dst (.slice ao (l.length + 1) cap)) w')
  (hg:o.guard=none:=by rfl) (gJ:o.op=Op.call { callee:=Callee.builtin Builtin.append,args:=#[s,x],argTypes:=#[t,t] }:=by rfl) (hs:a.eval s=v:=by rfl) (hx:a.eval x=.slice (some ⟨bx,0,none⟩) 1 1:=by rfl) (kA:bx=w.heap.size:=by first | rfl | simp) :
  wpList P ops Q (o :: rest) a (w.alloc (.cells #[.int .i64 n] e)) :=
 Pu E (m:=1) (ys:=[.int .i64 n]) h rfl Ih Ig hb (fun ao cap w' S' r1 r2 r3=>hK ao cap w' S' (by unfold IR;simpa using r1) r2 r3) hg gJ hs hx kA
theorem Px (E:kz P t e 1 bytes z) {w:World} {ops:Array Oper} {o:Oper} {a:Act} {K:Act→World→Prop} {Q:Exit→Act→World→Prop} {F:Prop} {s x:Operand}
  {v u:Value} {l r:List Int} {S T:List Nat} (h:IR w v e l S) (hu:IV w u r T) (hb:(l.length + r.length) * bytes≤140737488355328)
  (hK:∀ ao cap w' S',IR w' (.slice ao (l.length + r.length) cap) e (l ++ r) S'→aq S w w'→(∀ k∈S',k∈S∨w.heap.size≤k)→K (a.put o.dst (.slice ao (l.length + r.length) cap)) w')
  (hg:o.guard=none:=by rfl) (gJ:o.op=Op.call { callee:=Callee.builtin Builtin.append,args:=#[s,x],argTypes:=#[t,t] }:=by rfl) (hs:a.eval s=v:=by rfl) (hx:a.eval x=u:=by rfl) :
  if Region.wanted o (yielded ops a.tmps)=true then Oper.wp P o a w K Q else F :=
 Ir E h hu (Dz r) hb (fun ao cap w' S' r1 r2 r3=>hK ao cap w' S' (by unfold IR;simpa using r1) r2 r3) hg gJ hs hx
theorem DF (E:kz P t e 1 bytes z) {w:World} {ops:Array Oper} {o:Oper} {a:Act} {K:Act→World→Prop} {Q:Exit→Act→World→Prop} {F:Prop} {s x:Operand}
  {v:Value} {l:List Int} {n:Int} {bx:Nat} {S:List Nat} (h:IR w v e l S) (hb:(l.length + 1) * bytes≤140737488355328)
  (hK:∀ ao cap w' S',IR w' (.slice ao (l.length + 1) cap) e (l ++ [n]) S'→aq S w w'→(∀ k∈S',k∈S∨w.heap.size≤k)→K (a.put o.dst (.slice ao (l.length + 1) cap)) w')
  (hg:o.guard=none:=by rfl) (gJ:o.op=Op.call { callee:=Callee.builtin Builtin.append,args:=#[s,x],argTypes:=#[t,t] }:=by rfl) (hs:a.eval s=v:=by rfl) (hx:a.eval x=.slice (some ⟨bx,0,none⟩) 1 1:=by rfl) (kA:bx=w.heap.size:=by first | rfl | simp) :
  if Region.wanted o (yielded ops a.tmps)=true then Oper.wp P o a (w.alloc (.cells #[.int .i64 n] e)) K Q else F :=
 Pv E (m:=1) (ys:=[.int .i64 n]) h rfl Ih Ig hb (fun ao cap w' S' r1 r2 r3=>hK ao cap w' S' (by unfold IR;simpa using r1) r2 r3) hg gJ hs hx kA
end
open Go.RowKit
section
variable {α:Type} {f:α→List Value} {sz:Nat}
theorem wh (hf:∀ x,(f x).length=sz):∀ l:List α,(l.flatMap f).length=l.length * sz
 | []=>by simp
 | y :: r=>by rw [List.flatMap_cons,List.length_append,hf,wh hf r,List.length_cons,Nat.add_mul];omega
theorem DH (hf:∀ x,(f x).length=sz) {x:α} {j:Nat} (hj:j < sz):∀ (l:List α) (k:Nat),l[k]?=some x→(l.flatMap f)[k * sz + j]?=(f x)[j]?
 | [],k,h=>by simp at h
 | y :: r,0,h=>by
  simp at h;subst h;rw [List.flatMap_cons,List.getElem?_append_left (by rw [hf];omega)];simp
 | y :: r,k + 1,h=>by
  have e:(k + 1) * sz=k * sz + sz:=by rw [Nat.add_mul];omega
  rw [List.flatMap_cons,List.getElem?_append_right (by rw [hf];omega),hf,show (k + 1) * sz + j - sz=k * sz + j by omega];exact DH hf hj r k (by simpa using h)
theorem Iv (hf:∀ x,(f x).length=sz) {x x':α} {j:Nat} {u:Value} (hj:j < sz) (hx:f x'=(f x).set j u):∀ (l:List α) (k:Nat),l[k]?=some x→(l.set k x').flatMap f=(l.flatMap f).set (k * sz + j) u
 | [],k,h=>by simp at h
 | y :: r,0,h=>by
  simp at h;subst h;rw [List.set_cons_zero,List.flatMap_cons,List.flatMap_cons,hx,List.set_append_left _ _ (by rw [hf];omega)];simp
 | y :: r,k + 1,h=>by
  have e:(k + 1) * sz=k * sz + sz:=by rw [Nat.add_mul];omega
  rw [List.set_cons_succ,List.flatMap_cons,List.flatMap_cons,List.set_append_right _ _ (by rw [hf];omega),hf,show (k + 1) * sz + j - sz=k * sz + j by omega];rw [Iv hf hj hx r k (by simpa using h)]
end
section
variable {α:Type} {f:α→List Value} {sz:Nat}
theorem Iw (hf:∀ x,(f x).length=sz) {x0:α} {z:Array Value} (hz:z.toList=f x0) (hs:0 < sz) (n:Nat):(madeCells z (n * sz)).toList=(List.replicate n x0).flatMap f:=by
 apply List.ext_getElem?;intro i;have ya:z.size=sz:=by rw [← Array.length_toList,hz,hf]
 by_cases hi:i < n * sz
 ·have hj:i % sz < sz:=Nat.mod_lt _ hs;have hk:i / sz < n:=Nat.div_lt_of_lt_mul (by rwa [Nat.mul_comm]);have h:=DH hf hj (List.replicate n x0) (i / sz) (x:=x0) (by simp [hk]);rw [Nat.div_add_mod'] at h;rw [h,← hz];simp [madeCells,hi,ya,hj]
 ·rw [List.getElem?_eq_none (by rw [Array.length_toList,size_madeCells];omega),List.getElem?_eq_none (by rw [wh hf];simp;omega)]
end
def ER {α:Type} (f:α→List Value) (sz:Nat) (w:World) (v:Value) (e:TypeId) (l:List α) (S:List Nat):Prop:=Row w v e sz l.length (l.flatMap f) S
section
variable {α:Type} {f:α→List Value} {sz:Nat} {w w':World} {v:Value} {l:List α} {S T:List Nat} {e:TypeId}
theorem ER.aY (h:ER f sz w v e l S) (k:aq T w w') (hn:∀ x∈S,x∉T):ER f sz w' v e l S:=Row.aY h k hn
theorem ER.then (h:ER f sz w v e l S) (k:aq [] w w'):ER f sz w' v e l S:=Row.then h k
theorem ER.shape (h:ER f sz w v e l S):∃ ao cap,v=.slice ao l.length cap:=Row.shape h
theorem ER.le (h:ER f sz w v e l S):l.length≤maxLen:=Row.le h
theorem ER.lt (h:ER f sz w v e l S):∀ k∈S,k < w.heap.size:=Row.lt h
theorem ER.made (hf:∀ x,(f x).length=sz) {x0:α} {z:Array Value} {n:Nat} (hz:z.toList=f x0) (hs:0 < sz) (h:Row w v e sz n (madeCells z (n * sz)).toList S):ER f sz w v e (List.replicate n x0) S:=by
 unfold ER;rw [Iw hf hz hs] at h;rw [List.length_replicate];exact h
theorem ER.cells {ao:Option Addr} {m cap:Nat} (hf:∀ x,(f x).length=sz) (h:ER f sz w (.slice ao m cap) e l S) (hp:0 < l.length) :
  ∃ g off,ao=some ⟨g,off,none⟩∧S=[g]∧g < w.heap.size∧(∀ k x j,l[k]?=some x→j < sz→w.cell? ⟨g,off + (k * sz + j),none⟩=(f x)[j]?)∧∀ k,w.frozen? ⟨g,off + k,none⟩=false:=by
 obtain ⟨g,off,h1,h2,h3,h4,h5⟩:=Row.cells h hp;refine ⟨g,off,h1,h2,h3,fun k x j hk hj=>?_,h5⟩;have fK:=(List.getElem?_eq_some_iff.1 hk).1;have h6:(k + 1) * sz≤l.length * sz:=Nat.mul_le_mul_right _ fK;rw [Nat.add_mul] at h6;rw [h4 _ (by rw [wh hf];omega),DH hf hj l k hk]
theorem ER.stored {g off m cap:Nat} (hf:∀ x,(f x).length=sz) (h:ER f sz w (.slice (some ⟨g,off,none⟩) m cap) e l S) {k j:Nat} {x x':α} {u:Value} (hk:l[k]?=some x) (hj:j < sz) (hx:f x'=(f x).set j u) :
  ER f sz (w.setCell ⟨g,off + (k * sz + j),none⟩ u) (.slice (some ⟨g,off,none⟩) m cap) e (l.set k x') S∧aq S w (w.setCell ⟨g,off + (k * sz + j),none⟩ u):=by
 have fK:=(List.getElem?_eq_some_iff.1 hk).1;have h6:(k + 1) * sz≤l.length * sz:=Nat.mul_le_mul_right _ fK;rw [Nat.add_mul] at h6;have:=Row.stored h (k * sz + j) (by rw [wh hf];omega) u;refine ⟨?_,this.2⟩;unfold ER;rw [Iv hf hj hx l k hk,List.length_set];exact this.1
end
open Go.RowKit
structure Kept {α:Type} (E:World→List Value→α→List Nat→Prop):Prop where
 aY:∀ {w w':World} {cs:List Value} {a:α} {U T:List Nat},E w cs a U→aq T w w'→(∀ x∈U,x∉T)→E w' cs a U
 lt:∀ {w:World} {cs:List Value} {a:α} {U:List Nat},E w cs a U→∀ x∈U,x < w.heap.size
def chunk (xs:List Value) (sz k:Nat):List Value:=(xs.drop (k * sz)).take sz
theorem Ix {xs:List Value} {sz k j:Nat} (hj:j < sz):(chunk xs sz k)[j]?=xs[k * sz + j]?:=by
 unfold chunk;rw [List.getElem?_take,if_pos hj,List.getElem?_drop]
theorem Py {xs:List Value} {sz n k:Nat} (h:xs.length=n * sz) (hk:k < n):(chunk xs sz k).length=sz:=by
 have:(k + 1) * sz≤n * sz:=Nat.mul_le_mul_right _ hk;rw [Nat.add_mul] at this;unfold chunk;rw [List.length_take,List.length_drop];omega
def ru {α:Type} (E:World→List Value→α→List Nat→Prop) (sz:Nat) (w:World) (xs:List Value) (l:List α) (S:List Nat):Prop :=
 ∀ (k:Nat) a,l[k]?=some a→∃ U,E w (chunk xs sz k) a U∧∀ x∈U,x∈S
def GV {α:Type} (E:World→List Value→α→List Nat→Prop) (sz:Nat) (w:World) (v:Value) (l:List α) (S:List Nat):Prop :=
 ∃ xs T,View w v sz l.length xs T∧ru E sz w xs l S∧(∀ x∈T,x∈S)∧(∀ x∈S,x < w.heap.size)∧∀ y∈xs,y.oneCell'=true
section
variable {α:Type} {E:World→List Value→α→List Nat→Prop} {sz:Nat} {w w':World} {v:Value} {l:List α} {S T S2:List Nat} {e:TypeId}
theorem ru.aY (KE:Kept E) {xs:List Value} (h:ru E sz w xs l S) (k:aq T w w') (hn:∀ x∈S,x∉T):ru E sz w' xs l S:=fun i a hi=>by
 obtain ⟨U,h1,h2⟩:=h i a hi;exact ⟨U,KE.aY h1 k (fun x hx=>hn x (h2 x hx)),h2⟩
theorem ru.mono {xs:List Value} (h:ru E sz w xs l S) (hS:∀ x∈S,x∈S2):ru E sz w xs l S2:=fun i a hi=>by
 obtain ⟨U,h1,h2⟩:=h i a hi;exact ⟨U,h1,fun x hx=>hS x (h2 x hx)⟩
theorem GV.aY (KE:Kept E) (h:GV E sz w v l S) (k:aq T w w') (hn:∀ x∈S,x∉T):GV E sz w' v l S:=by
 obtain ⟨xs,U,h1,h2,h3,h4,h5⟩:=h;exact ⟨xs,U,h1.aY k (fun x hx=>hn x (h3 x hx)),h2.aY KE k hn,h3,fun x hx=>Nat.lt_of_lt_of_le (h4 x hx) k.size,h5⟩
theorem GV.then (KE:Kept E) (h:GV E sz w v l S) (k:aq [] w w'):GV E sz w' v l S:=h.aY KE k (by simp)
theorem GV.mono (h:GV E sz w v l S) (hS:∀ x∈S,x∈S2) (hl:∀ x∈S2,x < w.heap.size):GV E sz w v l S2:=by
 obtain ⟨xs,U,h1,h2,h3,h4,h5⟩:=h;exact ⟨xs,U,h1,h2.mono hS,fun x hx=>hS x (h3 x hx),hl,h5⟩
theorem GV.lt (h:GV E sz w v l S):∀ x∈S,x < w.heap.size:=by
 obtain ⟨xs,U,h1,h2,h3,h4,h5⟩:=h;exact h4
theorem GV.shape (h:GV E sz w v l S):∃ ao cap,v=.slice ao l.length cap:=by
 obtain ⟨xs,U,h1,_⟩:=h;exact h1.shape
theorem GV.le (h:GV E sz w v l S):l.length≤maxLen:=by
 obtain ⟨xs,U,h1,_⟩:=h;exact h1.le
theorem GV.get {ao:Option Addr} {m cap:Nat} (h:GV E sz w (.slice ao m cap) l S) {k:Nat} {a:α} (hk:l[k]?=some a) :
  ∃ g off cs U,ao=some ⟨g,off,none⟩∧g∈S∧g < w.heap.size∧cs.length=sz∧(∀ j,j < sz→w.cell? ⟨g,off + (k * sz + j),none⟩=cs[j]?)∧E w cs a U∧∀ x∈U,x∈S:=by
 obtain ⟨xs,T,h1,h2,h3,h4,h5⟩:=h;have fK:=(List.getElem?_eq_some_iff.1 hk).1;obtain ⟨g,off,rfl,rfl,hg,hc⟩:=h1.cell (by omega);obtain ⟨U,he,hU⟩:=h2 k a hk;have hlen:=h1.len;have h6:(k + 1) * sz≤l.length * sz:=Nat.mul_le_mul_right _ fK;rw [Nat.add_mul] at h6;exact ⟨g,off,chunk xs sz k,U,rfl,h3 g (by simp),hg,Py hlen fK,fun j hj=>by rw [hc _ (by omega),Ix hj],he,hU⟩
theorem GV.nil (E:World→List Value→α→List Nat→Prop) (sz:Nat) (w:World):GV E sz w (.slice none 0 0) [] [] :=
 ⟨[],[],View.nil w sz,fun k a h=>by simp at h,by simp,by simp,by simp⟩
end
section
variable {α:Type} {F:World→List Value→α→List Nat→Prop} {P:Program} {t e:TypeId} {sz bytes:Nat} {z:Value}
end
def DI (w:World) (cs:List Value) (l:List Int) (U:List Nat):Prop:=∃ v,cs=[v]∧IV w v l U
theorem Pz:Kept DI :=
 ⟨fun h k hn=>by obtain ⟨v,h1,h2⟩:=h;exact ⟨v,h1,h2.aY k hn⟩,fun h=>by obtain ⟨v,h1,h2⟩:=h;exact h2.lt⟩
open Go.RowKit Go.ChangeShapes Go.WideShapes Go.Deep
section
variable {H:Type} {enc:TypeId × Value→H} {P:Program}
end
theorem PA {α:Type}:∀ {l:List α},l.length=1→∃ x0,l=[x0]
 | [x0],_=>⟨_,rfl⟩
theorem PB {α:Type}:∀ {l:List α},l.length=2→∃ x0 x1,l=[x0,x1]
 | [x0,x1],_=>⟨_,_,rfl⟩
theorem PC {α:Type}:∀ {l:List α},l.length=3→∃ x0 x1 x2,l=[x0,x1,x2]
 | [x0,x1,x2],_=>⟨_,_,_,rfl⟩
theorem PD {α:Type}:∀ {l:List α},l.length=4→∃ x0 x1 x2 x3,l=[x0,x1,x2,x3]
 | [x0,x1,x2,x3],_=>⟨_,_,_,_,rfl⟩
theorem PE {α:Type}:∀ {l:List α},l.length=6→∃ x0 x1 x2 x3 x4 x5,l=[x0,x1,x2,x3,x4,x5]
 | [x0,x1,x2,x3,x4,x5],_=>⟨_,_,_,_,_,_,rfl⟩
open Go.RowKit Go.ChangeShapes Go.WideShapes Go.Deep
def mC (k:IntKind) (w:World) (cs:List Value) (n:Int) (U:List Nat):Prop:=cs=[.int k n]∧(Lit.int k n).wf=true∧U=[]
def DJ (w:World) (cs:List Value) (b:Bool) (U:List Nat):Prop:=cs=[.bool b]∧U=[]
def qd {α:Type} (E:World→List Value→α→List Nat→Prop) (sz:Nat) (w:World) (cs:List Value) (l:List α) (U:List Nat):Prop:=∃ v,cs=[v]∧GV E sz w v l U
theorem Iy (k:IntKind):Kept (mC k):=⟨fun h _ _=>h,fun h x hx=>by obtain ⟨_,_,rfl⟩:=h;simp at hx⟩
theorem PF:Kept DJ:=⟨fun h _ _=>h,fun h x hx=>by obtain ⟨_,rfl⟩:=h;simp at hx⟩
theorem Iz {α:Type} {E:World→List Value→α→List Nat→Prop} {sz:Nat} (K:Kept E):Kept (qd E sz) :=
 ⟨fun h k hn=>by obtain ⟨v,h1,h2⟩:=h;exact ⟨v,h1,h2.aY K k hn⟩,fun h=>by obtain ⟨v,h1,h2⟩:=h;exact h2.lt⟩
structure gi (P:Program) (t:TypeId) {α:Type} (E:World→List Value→α→List Nat→Prop) (sz:Nat):Prop where
 pos:0 < sz
 kept:Kept E
 cells:P.cellsOf t=sz
 op:∀ {H:Type} {enc:TypeId × Value→H} {W:World} {fuel:Nat} {cs:List Value} {x:DataW H × List MemPlace},DataW.trod enc P W 0 (fun _=>true) true fuel t cs=some x→cs.length=sz∧(∀ y∈cs,y.oneCell'=true)∧∃ a U,E W cs a U
section
variable {P:Program} {t e:TypeId}
theorem A0 {k:IntKind} (ht:P.underlying t=some (.int k)) (hc:P.cellsOf t=1):gi P t (mC k) 1 :=
 ⟨Nat.one_pos,Iy k,hc,fun h=>by
  obtain ⟨n,rfl,_,hw⟩:=DataW.trod_int ht h;exact ⟨rfl,by simp [Value.oneCell'],n,[],rfl,hw,rfl⟩⟩
theorem PG (ht:P.underlying t=some .bool) (hc:P.cellsOf t=1):gi P t DJ 1 :=
 ⟨Nat.one_pos,PF,hc,fun h=>by
  obtain ⟨b,rfl,_⟩:=DataW.trod_bool ht h;exact ⟨rfl,by simp [Value.oneCell'],b,[],rfl,rfl⟩⟩
theorem yb {α:Type} {E:World→List Value→α→List Nat→Prop} {sz:Nat} (ht:P.underlying t=some (.slice e)) (hc:P.cellsOf t=1) (he:gi P e E sz):gi P t (qd E sz) 1:=by
 refine ⟨Nat.one_pos,Iz he.kept,hc,?_⟩;intro H enc W fuel cs x h;rcases open_slice ht h with ⟨rfl,_⟩ | ⟨a,len,cap,m,n,D,Pl,rfl,hb,hl,hm,PI,_,hx⟩
 ·exact ⟨rfl,by simp [Value.oneCell'],[],[],_,rfl,GV.nil _ _ _⟩
 refine ⟨rfl,by simp [Value.oneCell'],?_⟩
 by_cases hz:len=0
 ·subst hz;exact ⟨[],[],_,rfl,[],[],⟨by simp,_,_,rfl,hl,hm,.inl ⟨rfl,rfl⟩⟩,fun k a h=>by simp at h,by simp,by simp,by simp⟩
 have hmc:len≤m:=by rw [PI];simp;omega
 have rz:∀ k,k < len→∃ j4,j4.length=sz∧(∀ y∈j4,y.oneCell'=true)∧(∀ f,f < sz→W.cell? (a.add (k * sz + f))=j4[f]?)∧∃ b U,E W j4 b U:=by
  intro k hk;obtain ⟨j4,h1,h2⟩:=hx k (by omega);rw [he.cells] at h1;obtain ⟨e1,e2,e3⟩:=he.op h2;refine ⟨j4,e1,e2,fun f hf=>?_,e3⟩;obtain ⟨_,_,mD⟩:=World.cells?_some h1;have:=mD f (by omega)
  rwa [Go.Deep.add_add] at this
 obtain ⟨g,off,spot⟩:=a;have qc:=he.pos;obtain ⟨Ba,l0,_,c0,b0,U0,_⟩:=rz 0 (by omega);have rA:=c0 0 qc;rw [List.getElem?_eq_getElem (by omega)] at rA;have PJ:spot=none:=by simpa [Addr.add] using World.cell?_spot rA
 subst PJ;have DK:g < W.heap.size:=by rw [add_plain] at rA;exact block_lt_of_cell rA
 haveI:Inhabited (List Value × α × List Nat):=⟨([],b0,[])⟩
 obtain ⟨F,hF⟩:=choose_lt (α:=List Value × α × List Nat) (p:=fun k y=>y.1.length=sz∧(∀ z∈y.1,z.oneCell'=true)∧(∀ f,f < sz→W.cell? ⟨g,off + (k * sz + f),none⟩=y.1[f]?)∧E W y.1 y.2.1 y.2.2) (fun k hk=>by
  obtain ⟨j4,h1,h2,h3,b,U,h4⟩:=rz k hk;exact ⟨(j4,b,U),h1,h2,fun f hf=>by have:=h3 f hf;rwa [add_plain] at this,h4⟩)
 have PK:∀ (j:Nat) (l:List Nat),(∀ k∈l,k < len)→(l.flatMap fun k=>(F k).1).length=l.length * sz:=by
  intro j l hl
  induction l with
  | nil=>simp
  | cons k l ih =>
   rw [List.flatMap_cons,List.length_append,(hF k (hl k (by simp))).1,ih (fun q hq=>hl q (by simp [hq])),List.length_cons,Nat.add_mul];omega
 have yc:∀ (f:Nat),f < sz→∀ (l:List Nat),(∀ k∈l,k < len)→∀ (i k:Nat),l[i]?=some k→(l.flatMap fun k=>(F k).1)[i * sz + f]?=(F k).1[f]?:=by
  intro f hf l
  induction l with
  | nil=>intro _ i k h;simp at h
  | cons q l ih =>
   intro hl i k h;have hq:=(hF q (hl q (by simp))).1
   match i with
   | 0 =>
    simp at h;subst h;rw [List.flatMap_cons,List.getElem?_append_left (by omega)];simp
   | i + 1 =>
    have e:(i + 1) * sz=i * sz + sz:=by rw [Nat.add_mul];omega
    rw [List.flatMap_cons,List.getElem?_append_right (by omega),hq,show (i + 1) * sz + f - sz=i * sz + f by omega];exact ih (fun k hk=>hl k (by simp [hk])) i k (by simpa using h)
 have DL:∀ k∈List.range len,k < len:=fun k hk=>List.mem_range.1 hk
 have kB:((List.range len).flatMap fun k=>(F k).1).length=len * sz:=by rw [PK 0 _ DL];simp
 have hdiv:∀ j,j < len * sz→j / sz < len∧j % sz < sz∧j / sz * sz + j % sz=j:=fun j hj =>
  ⟨Nat.div_lt_of_lt_mul (by rw [Nat.mul_comm];exact hj),Nat.mod_lt _ qc,Nat.div_add_mod' _ _⟩
 refine ⟨(List.range len).map fun k=>(F k).2.1,g :: (List.range len).flatMap fun k=>(F k).2.2,_,rfl,(List.range len).flatMap fun k=>(F k).1,[g],?_,?_,by simp,?_,?_⟩
 ·refine ⟨by rw [kB];simp,_,_,by simp,by simpa using hl,hm,.inr ⟨g,off,rfl,rfl,DK,fun j hj=>?_⟩⟩;rw [kB] at hj;obtain ⟨d1,d2,d3⟩:=hdiv j hj;have h1:=(hF _ d1).2.2.1 _ d2;rw [d3] at h1;have h2:=yc _ d2 _ DL (j / sz) (j / sz) (by simp [d1]);rw [d3] at h2;rw [h1,h2]
 ·intro k b hk;obtain ⟨bu,rfl⟩:=List.getElem?_eq_some_iff.1 hk;have bZ:k < len:=by simpa using bu
  refine ⟨(F k).2.2,?_,fun y hy=>List.mem_cons_of_mem _ (List.mem_flatMap.2 ⟨k,List.mem_range.2 bZ,hy⟩)⟩;have rB:chunk ((List.range len).flatMap fun k=>(F k).1) sz k=(F k).1:=by
   apply List.ext_getElem?;intro f
   by_cases hf:f < sz
   ·rw [Ix hf];exact yc f hf _ DL k k (by simp [bZ])
   ·rw [List.getElem?_eq_none (by unfold chunk;rw [List.length_take];omega),List.getElem?_eq_none (by rw [(hF k bZ).1];omega)]
  rw [rB];simpa using (hF k bZ).2.2.2
 ·intro y hy;rcases List.mem_cons.1 hy with rfl | hy
  ·exact DK
  ·obtain ⟨k,hk,hy⟩:=List.mem_flatMap.1 hy;exact he.kept.lt (hF k (List.mem_range.1 hk)).2.2.2 y hy
 ·intro y hy;obtain ⟨k,hk,hy⟩:=List.mem_flatMap.1 hy;exact (hF k (List.mem_range.1 hk)).2.1 y hy
theorem gi.field {α:Type} {E:World→List Value→α→List Nat→Prop} {sz:Nat} {H:Type} {enc:TypeId × Value→H} {W:World} {n:Nat} {cs:List Value} {y:Option (DataW H × List MemPlace)} {f:Field} {off:Nat}
  (he:gi P e E sz) (hf:f.type=e) (ho:f.offset=off) (hy:y.isSome=true) (h:DataW.trod enc P W 0 (fun _=>true) true n f.type ((cs.drop f.offset).take (P.cellsOf f.type))=y) :
  (∀ z∈(cs.drop off).take sz,z.oneCell'=true)∧((cs.drop off).take sz).length=sz∧∃ a U,E W ((cs.drop off).take sz) a U:=by
 obtain ⟨y',rfl⟩:=Option.isSome_iff_exists.1 hy;subst hf ho;rw [he.cells] at h;obtain ⟨h1,h2,h3⟩:=he.op h;exact ⟨h2,h1,h3⟩
theorem gi.PL {α:Type} {E:World→List Value→α→List Nat→Prop} {H:Type} {enc:TypeId × Value→H} {W:World} {v:Value} {d:DataW H} {p:List MemPlace}
  (he:gi P t E 1) (hv:v.cells=#[v]) (h:DataW.Trod enc P W 0 (fun _=>true) true t v d p):∃ a U,E W [v] a U:=by
 obtain ⟨fuel,DM⟩:=h;have:=(he.op (show DataW.trod enc P W 0 (fun _=>true) true fuel t [v]=some (d,p) by simpa [hv] using DM)).2.2;exact this
theorem gi.row {α:Type} {E:World→List Value→α→List Nat→Prop} {sz:Nat} {H:Type} {enc:TypeId × Value→H} {W:World} {r:Reach} {b0:Nat} {v:Value} {d:DataW H} {p:List MemPlace}
  (he:gi P t (qd E sz) 1) (ht:P.underlying t=some (.slice e)) (hv:Value.okWide P W r b0 t v) (h:DataW.Trod enc P W 0 (fun _=>true) true t v d p):∃ l S,GV E sz W v l S:=by
 obtain ⟨ao,len,cap,rfl⟩:=okWide_slice ht hv;obtain ⟨l,S,v',h1,h2⟩:=he.PL rfl h;obtain rfl:_=v':=by simpa using h1
 exact ⟨l,S,h2⟩
theorem gi.agg {α:Type} {E:World→List Value→α→List Nat→Prop} {sz:Nat} {fs:Array Field} {H:Type} {enc:TypeId × Value→H} {W:World} {r:Reach} {b0:Nat} {v:Value} {d:DataW H} {p:List MemPlace}
  (he:gi P t E sz) (ht:P.underlying t=some (.struct fs)) (hv:Value.okWide P W r b0 t v) (h:DataW.Trod enc P W 0 (fun _=>true) true t v d p) :
  ∃ cs a U,v=.agg cs∧cs.size=sz∧E W cs.toList a U∧∀ y∈cs.toList,y.oneCell'=true:=by
 obtain ⟨cs,rfl,jZ⟩:=okWide_struct ht hv;obtain ⟨fuel,DM⟩:=h;obtain ⟨h1,h2,a,U,h3⟩:=he.op (show DataW.trod enc P W 0 (fun _=>true) true fuel t cs.toList=some (d,p) by simpa [Value.cells] using DM);exact ⟨cs,a,U,rfl,by simpa using h1,h3,h2⟩
end
open Go.RowKit
def KR (k:IntKind) (w:World) (v:Value) (e:TypeId) (l:List Int) (S:List Nat):Prop:=Row w v e 1 l.length (l.map (Value.int k)) S
section
variable {k:IntKind} {w w':World} {v:Value} {l:List Int} {S T:List Nat} {e:TypeId}
end
section
variable {P:Program} {t e:TypeId} {bytes:Nat} {z:Value} {k:IntKind}
end
open Go.RowKit Go.Maps
section
variable {P:Program} {k:TypeId} {w w':World} {b n:Nat} {f:Int→Option Value}
end
open Go.RowKit Go.Maps
section
variable {P:Program} {k:TypeId} {w w':World} {b r n dZ:Nat} {f:Int→Option Value} {left:Int→Bool}
end
theorem cr.range {w:World} {g:Nat} {cs:List Value} {t:TypeId} (h:cr w g cs t):w.rangeAt g 0 cs:=fun j v hj=>by
 rw [Nat.zero_add,h.cell];exact hj
section
variable {α:Type} {E:World→List Value→α→List Nat→Prop} {sz:Nat} {w w':World} {l:List α} {S:List Nat}
end
def setFrom (xs:List Value) (j:Nat):List Value→List Value
 | []=>xs
 | c :: cs=>setFrom (xs.set j c) (j + 1) cs
theorem PM:∀ (cs:List Value) (xs:List Value) (j i:Nat),(i < j∨j + cs.length≤i)→(setFrom xs j cs)[i]?=xs[i]?
 | [],xs,j,i,_=>rfl
 | c :: cs,xs,j,i,h=>by
  simp only [List.length_cons] at h;rw [setFrom,PM cs _ _ _ (by omega),List.getElem?_set_ne (by omega)]
section
variable {e:TypeId} {sz:Nat}
theorem Row.eD {g off m cap n:Nat} {T:List Nat}:∀ (cs:List Value) (w:World) (xs:List Value) (j:Nat),Row w (.slice (some ⟨g,off,none⟩) m cap) e sz n xs T→j + cs.length≤xs.length →
  Row (w.setCells g (off + j) cs) (.slice (some ⟨g,off,none⟩) m cap) e sz n (setFrom xs j cs) T∧aq T w (w.setCells g (off + j) cs)
 | [],w,xs,j,h,_=>⟨h,aq.refl _ _⟩
 | c :: cs,w,xs,j,h,hl=>by
  simp only [List.length_cons] at hl;obtain ⟨r1,r2⟩:=h.stored j (by omega) c;obtain ⟨r3,r4⟩:=Row.eD cs _ _ (j + 1) r1 (by simp;omega);exact ⟨r3,r2.trans r4 (fun x hx=>.inl hx)⟩
end
section
variable {α:Type} {E:World→List Value→α→List Nat→Prop} {sz:Nat} {w w':World} {l:List α} {S T:List Nat} {e:TypeId}
end
section
variable {α:Type} {F:World→List Value→α→List Nat→Prop} {P:Program} {t e:TypeId} {sz bytes:Nat} {z:Value}
end
theorem cr.newAt (w:World) (cs:List Value) (e:TypeId) (b:Nat) (hb:b=w.heap.size):cr (w.alloc (.cells cs.toArray e)) b cs e:=by subst hb;exact cr.new w cs e
section
variable {α:Type} {F:World→List Value→α→List Nat→Prop} {P:Program} {t e:TypeId} {sz bytes:Nat} {z:Value}
def PN (e:TypeId) (w0 w:World) (b:Nat):Prop:=aq [] w0 w∧cr w b [] e∧w0.heap.size≤b
end
section
variable {α:Type} {F:World→List Value→α→List Nat→Prop} {P:Program} {t e:TypeId} {sz bytes:Nat} {z:Value}
theorem gR (w0:World) (e:TypeId):PN e w0 (w0.alloc (.cells #[] e)) w0.heap.size:=⟨(aq.refl [] w0).alloc _,cr.newAt w0 [] _ _ rfl,Nat.le_refl _⟩
end
section
variable {α:Type} {E:World→List Value→α→List Nat→Prop} {w:World} {l:List α} {S:List Nat}
end
section
variable {P:Program} {ops:Array Oper} {Q:Exit→Act→World→Prop} {md:Region.Mode} {S:World→Prop} {m:Nat}
def waitsFor (md:Region.Mode) (ops:Array Oper) (m i:Nat):Bool:=match ops[m]? with
 | some o=>o.after.any (fun e=>e.on == i && Region.binds md e)
 | none=>false
theorem DN {i:Nat} {oj:Oper} {aM:Array Bool} (hr:i∈Region.ready md ops aM) (kZ:∀ e∈oj.after,Region.binds md e=true→aM.getD e.on false=true):∀ e∈oj.after,Region.binds md e=true→e.on≠i:=fun e he hb heq=>by
 have h1:=kZ e he hb;have h0:=(mem_ready.1 hr).1;rw [heq] at h1
 by_cases hl:i < aM.size
 ·simp [hl] at h0 h1;rw [h0] at h1;cases h1
 ·simp [Array.getElem?_eq_none (Nat.le_of_not_lt hl)] at h1
end
open Go.RowKit
def NR (w:World) (v:Value) (es e:TypeId) (ll:List (List Int)) (T:List Nat) (Us:List (List Nat)):Prop :=
 ∃ vs:List Value,Row w v es 1 ll.length vs T∧Us.length=ll.length ∧
  (∀ (k:Nat) x U l,vs[k]?=some x→Us[k]?=some U→ll[k]?=some l→IR w x e l U) ∧
  (∀ U∈Us,∀ x∈U,x∉T)∧(∀ (i j:Nat) A B,i≠j→Us[i]?=some A→Us[j]?=some B→∀ x∈A,x∉B)
theorem IR.prefix {w:World} {g off cap:Nat} {e:TypeId} {l:List Int} {S:List Nat} (h:IR w (.slice (some ⟨g,off,none⟩) l.length cap) e l S) (k:Nat) (hk:k≤l.length) :
  IR w (.slice (some ⟨g,off,none⟩) k cap) e (l.take k) S:=by
 obtain ⟨h0,ao,AU,h1,h2,h3,h4⟩:=h;obtain ⟨rfl,rfl⟩:=by simpa using h1
 rcases h4 with ⟨h4,_⟩ | ⟨g',xV,cur,h4,rfl,hb,hl,hc⟩
 ·cases h4
 ·obtain ⟨rfl,rfl⟩:=by simpa using h4
  have e:(l.take k).length=k:=by simp;omega
  refine ⟨by simp,_,cap,by rw [e],by rw [e];omega,h3,.inr ⟨g,off,cur,rfl,rfl,hb,hl,fun j hj=>?_⟩⟩;have mE:j < k:=by simp at hj;omega
  rw [hc j (by simp;omega)];simp [mE,List.getElem?_take]
section
variable {w w':World} {v:Value} {es e:TypeId} {ll:List (List Int)} {T S:List Nat} {Us:List (List Nat)}
theorem NR.shape (h:NR w v es e ll T Us):∃ ao cap,v=.slice ao ll.length cap:=by
 obtain ⟨vs,h,_⟩:=h;exact h.shape
theorem NR.le (h:NR w v es e ll T Us):ll.length≤maxLen:=by
 obtain ⟨vs,h,_⟩:=h;exact h.le
theorem NR.aY (h:NR w v es e ll T Us) (k:aq S w w') (h1:∀ x∈T,x∉S) (h2:∀ U∈Us,∀ x∈U,x∉S):NR w' v es e ll T Us:=by
 obtain ⟨vs,hr,hl,hi,hd,hp⟩:=h;exact ⟨vs,hr.aY k h1,hl,fun j x U l a b c=>(hi j x U l a b c).aY k (h2 U (List.mem_of_getElem? b)),hd,hp⟩
theorem NR.lt (h:NR w v es e ll T Us):(∀ x∈T,x < w.heap.size)∧∀ U∈Us,∀ x∈U,x < w.heap.size:=by
 obtain ⟨vs,hr,hl,hi,hd,hp⟩:=h;refine ⟨hr.lt,fun U hU x hx=>?_⟩;obtain ⟨k,hk⟩:=List.mem_iff_getElem?.1 hU;have fK:k < ll.length:=by rw [← hl];exact (List.getElem?_eq_some_iff.1 hk).1
 have nZ:k < vs.length:=by rw [hr.len];omega
 exact (hi k _ U _ (List.getElem?_eq_getElem nZ) hk (List.getElem?_eq_getElem fK)).lt x hx
end
end Go.Proofs.YtdjhhbpedllnhaaGreat
