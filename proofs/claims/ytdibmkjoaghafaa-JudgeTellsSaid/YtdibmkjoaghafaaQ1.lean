/-
  What the laws need, part Q1.
  Conditions: none.
-/
import Derived.Test.YtdibmkjoaghafaaRows
import Derived.BigQuiet
import Derived.ChangeOld
import Derived.Deep.CutBlock
import Derived.Deep.DeepCutAuto
import Derived.Deep.DeepFit
import Derived.Deep.DeepMust
import Derived.Deep.Fields
import Derived.Deep.LoopGhost
import Derived.Deep.MidRow
import Derived.Deep.QuietTactic
import Derived.Deep.RegionHeld3
import Derived.Deep.RegionLaw
import Derived.Deep.Slices
import Derived.Laws.AppendOwnNone
import Derived.Laws.CopyOwn
import Derived.Lib.Hide
import Derived.Maps.OwnSet
import Derived.Maps.RangeWalk
import Derived.OpenShut
import Derived.ProofKit
import Derived.WalkKit
set_option linter.unusedVariables false
set_option linter.unusedSimpArgs false
set_option linter.unnecessarySimpa false
set_option maxHeartbeats 2000000
namespace Go.Proofs.Ytdibmkjoaghafaa
open Go.RowKit
structure Keeps (S:List Nat) (w w':World):Prop where
 os:w'.os=w.os
 tape:w'.tape=w.tape
 output:w'.output=w.output
 size:w.heap.size≤w'.heap.size
 block:∀ k,k < w.heap.size→k∉S→w'.heap[k]?=w.heap[k]?
theorem Keeps.refl (S:List Nat) (w:World):Keeps S w w:=⟨rfl,rfl,rfl,Nat.le_refl _,fun _ _ _=>rfl⟩
theorem Keeps.trans {S T:List Nat} {a b c:World} (h:Keeps S a b) (k:Keeps T b c) (hT:∀ x∈T,x∈S∨a.heap.size≤x):Keeps S a c :=
 ⟨k.os.trans h.os,k.tape.trans h.tape,k.output.trans h.output,Nat.le_trans h.size k.size,fun i hi hn =>
  (k.block i (Nat.lt_of_lt_of_le hi h.size) (fun hm=>by rcases hT i hm with h1 | h1;exact hn h1;omega)).trans (h.block i hi hn)⟩
theorem Keeps.then {S:List Nat} {a b c:World} (h:Keeps S a b) (k:Keeps [] b c):Keeps S a c:=h.trans k (by simp)
theorem Keeps.mono {S T:List Nat} {a b:World} (h:Keeps S a b) (hS:∀ x∈S,x∈T∨a.heap.size≤x):Keeps T a b :=
 ⟨h.os,h.tape,h.output,h.size,fun i hi hn=>h.block i hi (fun hm=>by rcases hS i hm with h1 | h1;exact hn h1;omega)⟩
theorem Keeps.drew {S:List Nat} {a w:World} (h:Keeps S a w):Keeps S a w.drew:=⟨h.os,h.tape,h.output,h.size,h.block⟩
theorem Keeps.drewN {S:List Nat} {a w:World} (h:Keeps S a w) (n:Nat):Keeps S a (w.drewN n):=⟨h.os,h.tape,h.output,h.size,h.block⟩
theorem Keeps.alloc {S:List Nat} {a w:World} (h:Keeps S a w) (o:Obj):Keeps S a (w.alloc o) :=
 h.trans (T:=[]) ⟨rfl,rfl,rfl,by simp,fun k hk _=>Below.heap_alloc w o k hk⟩ (by simp)
theorem Keeps.setCell {S:List Nat} {a w:World} (h:Keeps S a w) {p:Addr} (hp:p.block∈S∨a.heap.size≤p.block) (u:Value):Keeps S a (w.setCell p u) :=
 h.trans (T:=[p.block]) ⟨rfl,rfl,rfl,by simp [World.setCell],fun k hk hn=>Below.heap_setCell _ _ _ _ (by simpa using hn)⟩ (by simpa using hp)
theorem Keeps.setRow {S:List Nat} {a w:World} (h:Keeps S a w) {g:Nat} (hp:g∈S∨a.heap.size≤g) (cs:Array Value):Keeps S a (w.setRow g cs) :=
 h.trans (T:=[g]) ⟨rfl,rfl,rfl,by simp,fun k hk hn=>setRow_other w g k _ (by simpa using hn)⟩ (by simpa using hp)
theorem Keeps.grown {S:List Nat} {a w w':World} {row:Option Nat} (h:Keeps S a w) (hg:w.grownBy w' row) (hr:∀ k,row=some k→k∈S∨a.heap.size≤k):Keeps S a w' :=
 h.trans (T:=row.toList) ⟨hg.os,hg.tape,hg.output,hg.size,fun k hk hn=>hg.block k hk (by intro e;apply hn;simp [← e])⟩ (by intro x hx;exact hr x (by simpa using hx))
theorem Keeps.below {w w':World} (h:Keeps [] w w'):Below w.heap.size w w':=⟨h.os,h.tape,h.output,h.size,fun k hk=>h.block k hk (by simp)⟩
theorem Keeps.cell {S:List Nat} {w w':World} (h:Keeps S w w') {p:Addr} {v:Value} (hc:w.cell? p=some v) (hn:p.block∉S):w'.cell? p=some v:=by
 rw [World.cell?_of_block (w:=w) (h.block p.block (block_lt_of_cell hc) hn)];exact hc
def Blk (w:World) (g:Nat) (cs:List Value) (e:TypeId):Prop:=w.heap[g]?=some (.cells cs.toArray e (0,0))
theorem Blk.lt {w:World} {g:Nat} {cs:List Value} {e:TypeId} (h:Blk w g cs e):g < w.heap.size:=lt_of_block h
theorem Blk.cell {w:World} {g:Nat} {cs:List Value} {e:TypeId} (h:Blk w g cs e) (j:Nat):w.cell? ⟨g,j,none⟩=cs[j]?:=by
 rw [cell_of_row w g j _ e (0,0) h];simp
theorem Blk.free {w:World} {g:Nat} {cs:List Value} {e:TypeId} (h:Blk w g cs e) (j:Nat):w.frozen? ⟨g,j,none⟩=false:=frozen_of_row w g j _ e h
theorem Blk.keep {S:List Nat} {w w':World} {g:Nat} {cs:List Value} {e:TypeId} (h:Blk w g cs e) (k:Keeps S w w') (hn:g∉S):Blk w' g cs e:=(k.block g h.lt hn).trans h
theorem Blk.set {w:World} {g:Nat} {cs:List Value} {e:TypeId} (h:Blk w g cs e) (j:Nat) (v:Value):Blk (w.setCell ⟨g,j,none⟩ v) g (cs.set j v) e:=by
 unfold Blk;rw [heap_setCell_same w g j _ e v h];simp
theorem Blk.other {w:World} {g:Nat} {cs:List Value} {e:TypeId} (h:Blk w g cs e) {a:Addr} (hn:g≠a.block) (v:Value):Blk (w.setCell a v) g cs e :=
 (heap_setCell_other w a g v hn).trans h
theorem Blk.new (w:World) (cs:List Value) (e:TypeId):Blk (w.alloc (.cells cs.toArray e)) w.heap.size cs e:=heap_alloc_new w _
theorem Blk.alloc {w:World} {g:Nat} {cs:List Value} {e:TypeId} (h:Blk w g cs e) (o:Obj):Blk (w.alloc o) g cs e:=(Below.heap_alloc w o g h.lt).trans h
theorem Blk.drew {w:World} {g:Nat} {cs:List Value} {e:TypeId} (h:Blk w g cs e):Blk w.drew g cs e:=h
def View (w:World) (v:Value) (sz n:Nat) (xs:List Value) (S:List Nat):Prop :=
 xs.length=n * sz∧∃ ao cap,v=.slice ao n cap∧n≤cap∧cap≤maxLen ∧
  ((n=0∧S=[])∨∃ g off,ao=some ⟨g,off,none⟩∧S=[g]∧g < w.heap.size∧∀ j,j < xs.length→w.cell? ⟨g,off + j,none⟩=xs[j]?)
theorem View.len {w:World} {v:Value} {sz n:Nat} {xs:List Value} {S:List Nat} (h:View w v sz n xs S):xs.length=n * sz:=h.1
theorem View.le {w:World} {v:Value} {sz n:Nat} {xs:List Value} {S:List Nat} (h:View w v sz n xs S):n≤maxLen:=by
 obtain ⟨_,ao,cap,_,h1,h2,_⟩:=h;omega
theorem View.shape {w:World} {v:Value} {sz n:Nat} {xs:List Value} {S:List Nat} (h:View w v sz n xs S):∃ ao cap,v=.slice ao n cap:=by
 obtain ⟨_,ao,cap,h,_⟩:=h;exact ⟨ao,cap,h⟩
theorem View.lt {w:World} {v:Value} {sz n:Nat} {xs:List Value} {S:List Nat} (h:View w v sz n xs S):∀ k∈S,k < w.heap.size:=by
 obtain ⟨_,ao,cap,_,_,_,⟨_,rfl⟩ | ⟨g,off,_,rfl,hg,_⟩⟩:=h
 ·simp
 ·simpa using hg
theorem View.nil (w:World) (sz:Nat):View w (.slice none 0 0) sz 0 [] []:=⟨by simp,none,0,rfl,Nat.le_refl _,by simp [maxLen],.inl ⟨rfl,rfl⟩⟩
theorem View.keep {S T:List Nat} {w w':World} {v:Value} {sz n:Nat} {xs:List Value} (h:View w v sz n xs S) (k:Keeps T w w') (hn:∀ x∈S,x∉T):View w' v sz n xs S:=by
 obtain ⟨h0,ao,cap,h1,h2,h3,h4⟩:=h;refine ⟨h0,ao,cap,h1,h2,h3,?_⟩;rcases h4 with h4 | ⟨g,off,rfl,rfl,hg,hc⟩
 ·exact .inl h4
 ·refine .inr ⟨g,off,rfl,rfl,Nat.lt_of_lt_of_le hg k.size,fun j hj=>?_⟩;rw [← hc j hj];exact World.cell?_of_block (w:=w) (k.block g hg (hn g (by simp)))
theorem View.cell {S:List Nat} {w:World} {ao:Option Addr} {m cap:Nat} {sz n:Nat} {xs:List Value} (h:View w (.slice ao m cap) sz n xs S) (hp:0 < n) :
  ∃ g off,ao=some ⟨g,off,none⟩∧S=[g]∧g < w.heap.size∧∀ j,j < xs.length→w.cell? ⟨g,off + j,none⟩=xs[j]?:=by
 obtain ⟨h0,ao',cap',h1,h2,h3,h4⟩:=h;obtain ⟨rfl,rfl,rfl⟩:=by simpa using h1
 rcases h4 with ⟨rfl,_⟩ | h4
 ·omega
 ·exact h4
theorem View.of_blk {w:World} {g off n cap sz:Nat} {cs xs:List Value} {e:TypeId} (h:Blk w g cs e) (hl:xs.length=n * sz) (hn:n≤cap) (hc:cap≤maxLen) (hx:∀ j,j < xs.length→cs[off + j]?=xs[j]?) :
  View w (.slice (some ⟨g,off,none⟩) n cap) sz n xs [g] :=
 ⟨hl,_,_,rfl,hn,hc,.inr ⟨g,off,rfl,rfl,h.lt,fun j hj=>by rw [h.cell];exact hx j hj⟩⟩
theorem ret_bool {a b:Bool} (h:a=b):Ending.returned (.bool a)=.returned (.bool b):=by rw [h]
open Go.RowKit
def Row (w:World) (v:Value) (e:TypeId) (sz n:Nat) (xs:List Value) (S:List Nat):Prop :=
 xs.length=n * sz∧∃ ao cap,v=.slice ao n cap∧n≤cap∧cap≤maxLen ∧
  ((ao=none∧n=0∧cap=0∧S=[])∨∃ g off cur,ao=some ⟨g,off,none⟩∧S=[g]∧Blk w g cur e∧off + cap * sz≤cur.length∧∀ j,j < xs.length→cur[off + j]?=xs[j]?)
section
variable {w w':World} {v:Value} {e:TypeId} {sz n:Nat} {xs:List Value} {S T:List Nat}
theorem Row.view (h:Row w v e sz n xs S):View w v sz n xs S:=by
 obtain ⟨h0,ao,cap,h1,h2,h3,h4⟩:=h;refine ⟨h0,ao,cap,h1,h2,h3,?_⟩;rcases h4 with h4 | ⟨g,off,cur,rfl,rfl,hb,hl,hc⟩
 ·exact .inl ⟨h4.2.1,h4.2.2.2⟩
 ·exact .inr ⟨g,off,rfl,rfl,hb.lt,fun j hj=>by rw [hb.cell];exact hc j hj⟩
theorem Row.len (h:Row w v e sz n xs S):xs.length=n * sz:=h.1
theorem Row.le (h:Row w v e sz n xs S):n≤maxLen:=h.view.le
theorem Row.lt (h:Row w v e sz n xs S):∀ k∈S,k < w.heap.size:=h.view.lt
theorem Row.shape (h:Row w v e sz n xs S):∃ ao cap,v=.slice ao n cap:=h.view.shape
theorem Row.keep (h:Row w v e sz n xs S) (k:Keeps T w w') (hn:∀ x∈S,x∉T):Row w' v e sz n xs S:=by
 obtain ⟨h0,ao,cap,h1,h2,h3,h4⟩:=h;refine ⟨h0,ao,cap,h1,h2,h3,?_⟩;rcases h4 with h4 | ⟨g,off,cur,rfl,rfl,hb,hr⟩
 ·exact .inl h4
 ·exact .inr ⟨g,off,cur,rfl,rfl,hb.keep k (hn g (by simp)),hr⟩
theorem Row.then (h:Row w v e sz n xs S) (k:Keeps [] w w'):Row w' v e sz n xs S:=h.keep k (by simp)
theorem Row.alloc (h:Row w v e sz n xs S) (o:Obj):Row (w.alloc o) v e sz n xs S:=h.then ((Keeps.refl [] w).alloc o)
theorem Row.nil (w:World) (e:TypeId) (sz:Nat):Row w (.slice none 0 0) e sz 0 [] []:=⟨by simp,none,0,rfl,Nat.le_refl _,by simp [maxLen],.inl ⟨rfl,rfl,rfl,rfl⟩⟩
theorem Row.lit (w:World) (cs:List Value) (e:TypeId) (sz n:Nat) (hl:cs.length=n * sz) (hm:n≤maxLen):Row (w.alloc (.cells cs.toArray e)) (.slice (some ⟨w.heap.size,0,none⟩) n n) e sz n cs [w.heap.size] :=
 ⟨hl,_,n,rfl,Nat.le_refl _,hm,.inr ⟨w.heap.size,0,cs,rfl,rfl,Blk.new w cs e,by omega,by simp⟩⟩
theorem Row.of_own {base:Nat} (h:w.ownsRow base e sz v n xs):Row w v e sz n xs v.ownBlock.toList∧∀ k∈v.ownBlock.toList,base≤k:=by
 obtain ⟨hl,h⟩:=h;rcases h with ⟨rfl,rfl⟩ | ⟨g,cap,cur,rfl,hb,hg,hnc,hcm,hcs,htake⟩
 ·exact ⟨⟨hl,none,0,rfl,Nat.le_refl _,by simp [maxLen],.inl ⟨rfl,rfl,rfl,rfl⟩⟩,by simp [Value.ownBlock]⟩
 ·refine ⟨⟨hl,_,cap,rfl,hnc,hcm,.inr ⟨g,0,cur.toList,rfl,rfl,by simpa [Blk] using hg,by simp [hcs],fun j hj=>?_⟩⟩,by simpa [Value.ownBlock] using hb⟩;rw [Nat.zero_add,← htake,List.getElem?_take,if_pos (by omega)]
theorem Row.stored {g off m cap:Nat} (h:Row w (.slice (some ⟨g,off,none⟩) m cap) e sz n xs S) (j:Nat) (hj:j < xs.length) (u:Value) :
  Row (w.setCell ⟨g,off + j,none⟩ u) (.slice (some ⟨g,off,none⟩) m cap) e sz n (xs.set j u) S∧Keeps S w (w.setCell ⟨g,off + j,none⟩ u):=by
 obtain ⟨h0,ao,cap',h1,h2,h3,h4⟩:=h;obtain ⟨rfl,rfl,rfl⟩:=by simpa using h1
 rcases h4 with ⟨h4,_⟩ | ⟨g',off',cur,h4,rfl,hb,hl,hc⟩
 ·cases h4
 ·obtain ⟨rfl,rfl⟩:=by simpa using h4
  refine ⟨⟨by simpa using h0,_,cap,rfl,h2,h3,.inr ⟨g,off,cur.set (off + j) u,rfl,rfl,hb.set _ u,by simpa using hl,fun i hi=>?_⟩⟩,(Keeps.refl _ w).setCell (by simp) u⟩;have hi':i < xs.length:=by simpa using hi
  have hcl:off + j < cur.length:=by
   have:=hc j hj;rw [List.getElem?_eq_getElem hj] at this;exact (List.getElem?_eq_some_iff.1 this).1
  by_cases e:i=j
  ·subst e;simp [hcl,hj]
  ·rw [List.getElem?_set_ne (by omega),List.getElem?_set_ne (by omega)];exact hc i hi'
theorem Row.cells {ao:Option Addr} {m cap:Nat} (h:Row w (.slice ao m cap) e sz n xs S) (hp:0 < n) :
  ∃ g off,ao=some ⟨g,off,none⟩∧S=[g]∧g < w.heap.size∧(∀ j,j < xs.length→w.cell? ⟨g,off + j,none⟩=xs[j]?)∧∀ j,w.frozen? ⟨g,off + j,none⟩=false:=by
 obtain ⟨h0,ao',cap',h1,h2,h3,h4⟩:=h;obtain ⟨rfl,rfl,rfl⟩:=by simpa using h1
 rcases h4 with ⟨_,rfl,_⟩ | ⟨g,off,cur,rfl,rfl,hb,hl,hc⟩
 ·omega
 ·exact ⟨g,off,rfl,rfl,hb.lt,fun j hj=>by rw [hb.cell];exact hc j hj,fun j=>hb.free _⟩
end
theorem oc_int {k:IntKind} {n:Int}:∀ y∈[Value.int k n],y.oneCell'=true:=by intro y hy;simp at hy;subst hy;rfl
theorem one_le_max:1≤maxLen:=by simp [maxLen]
def Elem (P:Program) (t e:TypeId) (sz bytes:Nat) (z:Value):Prop :=
 P.underlying t=some (.slice e)∧(P.info? e).map (fun i=>(i.zero,i.size,i.bytes))=some (some z,sz,bytes)∧z.cells.size=sz∧0 < sz∧0 < bytes
section
variable {P:Program} {t e:TypeId} {sz bytes:Nat} {z:Value}
theorem run_room_at (w:World) (t ty e:TypeId) (i:TypeInfo) (ht:P.underlying t=some (.slice e)) (hi:P.info? e=some i)
  (g off sLen sCap:Nat) (cur:Array Value) (hg:w.heap[g]?=some (.cells cur e (0,0)))
  (a:Addr) (m c:Nat) (news:List Value) (hl:news.length=m * i.size) (hnews:∀ j u,news[j]?=some u→w.cell? (a.add j)=some u) (h1:∀ u∈news,u.oneCell'=true)
  (hroom:sLen + m≤sCap) (hfit:off + sLen * i.size + news.length≤cur.size) :
  ∃ cur',(Builtin.append_ #[t,t] ty #[.slice (some ⟨g,off,none⟩) sLen sCap,.slice (some a) m c]).run P w =
   .ok (.slice (some ⟨g,off,none⟩) (sLen + m) sCap) (w.setRow g cur')∧cur'=(cur.toList.take (off + sLen * i.size) ++ news ++ cur.toList.drop (off + sLen * i.size + news.length)).toArray:=by
 have hf:=run_firstCells_some (P:=P) w i.size m a m c news hl hnews;have hst:=run_storeCells_at P g (off + sLen * i.size) e news 0 cur w hg (by simpa using hfit) h1;simp only [Nat.add_zero] at hst;refine ⟨_,?_,rfl⟩;simp [Builtin.append_,run_underlying ht,sizeOf,typeInfo,hi,Builtin.lenOf,hroom,hf,Addr.add_lit,hst]
theorem run_app (E:Elem P t e sz bytes z) (ty:TypeId) {w:World} {v u:Value} {n m:Nat} {xs ys:List Value} {S T:List Nat} (h:Row w v e sz n xs S) (hu:View w u sz m ys T)
  (h1:∀ y∈ys,y.oneCell'=true) (hb:(n + m) * bytes≤140737488355328) :
  ∃ ao cap w' S',(Builtin.append_ #[t,t] ty #[v,u]).run P w=.ok (.slice ao (n + m) cap) w'∧Row w' (.slice ao (n + m) cap) e sz (n + m) (xs ++ ys) S'∧Keeps S w w'∧(∀ k∈S',k∈S∨w.heap.size≤k) ∧
   (m=0→.slice ao (n + m) cap=v∧w'=w):=by
 obtain ⟨ht,hinf,hz,hpos,hby⟩:=E;obtain ⟨i,hi,hi1,hi2,hi3⟩:=info_parts hinf;clear hinf;subst hi2;subst hi3;have hlen:(xs ++ ys).length=(n + m) * i.size:=by rw [List.length_append,h.1,hu.1,Nat.add_mul]
 have hsmall:n + m≤140737488355328:=Nat.le_trans (Nat.le_mul_of_pos_right _ hby) hb;have h63:n + m≤maxLen:=by simp only [maxLen];omega
 by_cases hm:m=0
 ·subst hm;have hy:ys=[]:=List.eq_nil_of_length_eq_zero (by have:=hu.1;simpa using this);subst hy;obtain ⟨ao,cap,rfl⟩:=h.shape;obtain ⟨bo,bap,rfl⟩:=hu.shape;refine ⟨ao,cap,w,S,?_,by simpa using h,Keeps.refl _ _,fun k hk=>.inl hk,fun _=>⟨by simp,rfl⟩⟩;obtain ⟨_,ao',cap',h1,hnc,hcm,_⟩:=h;obtain ⟨rfl,rfl⟩:=by simpa using h1
  cases bo with
  | none=>simp [Builtin.append_,run_underlying ht,sizeOf,typeInfo,hi,Builtin.lenOf,Builtin.firstCells,hnc];cases ao <;> simp [storeCells]
  | some b =>
   have hf:=run_firstCells_some (P:=P) w i.size 0 b 0 bap [] (by simp) (by simp);simp [Builtin.append_,run_underlying ht,sizeOf,typeInfo,hi,Builtin.lenOf,hnc,hf];cases ao <;> simp [storeCells]
 ·obtain ⟨hul,bo,bap,rfl,hub,hum,hu4⟩:=hu;rcases hu4 with ⟨h0,_⟩ | ⟨ug,uoff,rfl,rfl,hug,huc⟩
  ·omega
  have hnews:∀ j y,ys[j]?=some y→w.cell? ((⟨ug,uoff,none⟩:Addr).add j)=some y:=by
   intro j y hy;rw [Addr.add_lit,huc j (List.getElem?_eq_some_iff.1 hy).1];exact hy
  have hinner:∀ (old:Nat) (olds:List Value),old < n + m→olds.length=n * i.size→olds=xs →
    Row (w.drew.alloc (.cells (olds.toArray ++ ys.toArray ++ Builtin.zeroCells z.cells (grownCap w (n + m) old e - (n + m))) e)) (.slice (some ⟨w.heap.size,0,none⟩) (n + m) (grownCap w (n + m) old e)) e i.size (n + m) (xs ++ ys) [w.heap.size]:=by
   intro old olds ho hol hx;subst hx;have hge:=grownCap_ge w (n + m) old e;have hcm:grownCap w (n + m) old e≤maxLen:=grownCap_le_maxLen w (n + m) old e h63;refine ⟨hlen,_,_,rfl,hge,hcm,.inr ⟨w.heap.size,0,(olds.toArray ++ ys.toArray ++ Builtin.zeroCells z.cells (grownCap w (n + m) old e - (n + m))).toList,rfl,rfl,?_,?_,?_⟩⟩
   ·unfold Blk;rw [Array.toArray_toList];exact heap_alloc_new w.drew _
   ·simp only [Array.length_toList,Array.size_append,List.size_toArray,size_zeroCells,hz,hol,hul,← Nat.add_mul,Nat.zero_add];exact Nat.mul_le_mul_right _ (by omega)
   ·intro j hj;rw [Nat.zero_add];simp only [Array.toList_append,List.append_assoc];rw [← List.append_assoc,List.getElem?_append_left (by simpa using hj)]
  have hkeep:∀ o:Obj,Keeps S w (w.drew.alloc o):=fun o=>(Keeps.refl S w).drew.alloc o
  obtain ⟨hl,ao,cap,rfl,hnc,hcm,h4⟩:=h;rcases h4 with ⟨rfl,rfl,rfl,rfl⟩ | ⟨g,off,cur,rfl,rfl,hg,hfit,hc⟩
  ·have hxs:xs=[]:=List.eq_nil_of_length_eq_zero (by simpa using hl);subst hxs;have hr:=run_append_nil (P:=P) w t ty e i z ht hi hi1 _ m bap ys hul hnews (by omega) (by omega) (by have:=hb;simp only [Nat.zero_add] at this;omega);have hI:=hinner 0 [] (by omega) (by simp) rfl;simp only [Nat.zero_add,List.nil_append,Array.empty_append] at hI ⊢;exact ⟨_,_,_,_,hr,by simpa using hI,by simpa using hkeep _,by simp,fun h=>absurd h hm⟩
  ·by_cases hroom:n + m≤cap
   ·have hfit':off + n * i.size + ys.length≤cur.length:=by
     have:(n + m) * i.size≤cap * i.size:=Nat.mul_le_mul_right _ hroom;rw [Nat.add_mul] at this;omega
    obtain ⟨cur',hr,hcur⟩:=run_room_at (P:=P) w t ty e i ht hi g off n cap cur.toArray hg _ m bap ys hul hnews h1 hroom (by simpa using hfit');refine ⟨_,_,_,_,hr,⟨hlen,_,_,rfl,hroom,hcm,.inr ⟨g,off,cur'.toList,rfl,rfl,?_,?_,?_⟩⟩,(Keeps.refl _ w).setRow (by simp) _,by simp,fun h=>absurd h hm⟩
    ·unfold Blk;rw [Array.toArray_toList];exact setRow_heap w g cur.toArray _ e _ hg
    ·rw [hcur];simp;omega
    ·intro j hj;rw [hcur];simp only
     by_cases hj1:j < xs.length
     ·rw [List.append_assoc,List.getElem?_append_left (by simp;omega),List.getElem?_append_left hj1,List.getElem?_take,if_pos (by omega)];exact hc j hj1
     ·have hj2:j < xs.length + ys.length:=by simpa using hj
      have hcu:xs.length≤(n + m) * i.size:=by rw [Nat.add_mul,hl];omega
      have htl:(cur.take (off + n * i.size)).length=off + n * i.size:=by rw [List.length_take];omega
      have e1:(xs ++ ys)[j]?=ys[j - xs.length]?:=List.getElem?_append_right (by omega);rw [e1,List.append_assoc,List.getElem?_append_right (by rw [htl];omega),List.getElem?_append_left (by rw [htl];omega),htl,hl]
      congr 1;omega
   ·have holds:∀ j y,xs[j]?=some y→w.cell? ((⟨g,off,none⟩:Addr).add j)=some y:=by
     intro j y hy;rw [Addr.add_lit,hg.cell,hc j (List.getElem?_eq_some_iff.1 hy).1];exact hy
    have hr:=run_append_grow (P:=P) w t ty e i z ht hi hi1 ⟨g,off,none⟩ n cap xs hl holds _ m bap ys hul hnews (by omega) (by omega) (growslice_fits (by omega) hb);exact ⟨_,_,_,_,hr,hinner cap xs (by omega) hl rfl,hkeep _,by simp,fun h=>absurd h hm⟩
theorem wp_app (E:Elem P t e sz bytes z) {w:World} {ops:Array Oper} {rest:List Oper} {o:Oper} {a:Act} {Q:Exit→Act→World→Prop} {s x:Operand}
  {v u:Value} {n m:Nat} {xs ys:List Value} {S T:List Nat} (h:Row w v e sz n xs S) (hu:View w u sz m ys T)
  (h1:∀ y∈ys,y.oneCell'=true) (hb:(n + m) * bytes≤140737488355328)
  (hK:∀ ao cap w' S',Row w' (.slice ao (n + m) cap) e sz (n + m) (xs ++ ys) S'→Keeps S w w'→(∀ k∈S',k∈S∨w.heap.size≤k)→wpList P ops Q rest (a.put o.dst (.slice ao (n + m) cap)) w')
  (hg:o.guard=none:=by rfl) (hop:o.op=Op.call { callee:=Callee.builtin Builtin.append,args:=#[s,x],argTypes:=#[t,t] }:=by rfl) (hs:a.eval s=v:=by rfl) (hx:a.eval x=u:=by rfl) :
  wpList P ops Q (o :: rest) a w:=by
 obtain ⟨ao,cap,w',S',hrun,r1,r2,r3,_⟩:=run_app E o.type h hu h1 hb;refine wpList_plain hg fun K hK'=>?_
 unfold Oper.wp;simp [execOp,hop,resolve,invoke,builtin,hs,hx,hrun,Result.andThen];exact hK' _ _ (hK ao cap w' S' r1 r2 r3)
theorem wp_app1 (E:Elem P t e sz bytes z) {w:World} {ops:Array Oper} {rest:List Oper} {o:Oper} {a:Act} {Q:Exit→Act→World→Prop} {s x:Operand}
  {v:Value} {n m bx:Nat} {xs ys:List Value} {S:List Nat} (h:Row w v e sz n xs S) (hy:ys.length=m * sz) (hm:m≤maxLen)
  (h1:∀ y∈ys,y.oneCell'=true) (hb:(n + m) * bytes≤140737488355328)
  (hK:∀ ao cap w' S',Row w' (.slice ao (n + m) cap) e sz (n + m) (xs ++ ys) S'→Keeps S w w'→(∀ k∈S',k∈S∨w.heap.size≤k)→wpList P ops Q rest (a.put o.dst (.slice ao (n + m) cap)) w')
  (hg:o.guard=none:=by rfl) (hop:o.op=Op.call { callee:=Callee.builtin Builtin.append,args:=#[s,x],argTypes:=#[t,t] }:=by rfl) (hs:a.eval s=v:=by rfl) (hx:a.eval x=.slice (some ⟨bx,0,none⟩) m m:=by rfl) (hbx:bx=w.heap.size:=by first | rfl | simp) :
  wpList P ops Q (o :: rest) a (w.alloc (.cells ys.toArray e)):=by
 subst hbx;refine wp_app E (h.alloc _) (Row.lit w ys e sz m hy hm).view h1 hb ?_ hg hop hs hx;intro ao cap w' S' r1 r2 r3;refine hK ao cap w' S' r1 (((Keeps.refl S w).alloc _).trans r2 (fun k hk=>.inl hk)) (fun k hk=>?_);rcases r3 k hk with h | h
 ·exact .inl h
 ·right;simp at h;omega
theorem step_app (E:Elem P t e sz bytes z) {w:World} {ops:Array Oper} {o:Oper} {a:Act} {K:Act→World→Prop} {Q:Exit→Act→World→Prop} {F:Prop} {s x:Operand}
  {v u:Value} {n m:Nat} {xs ys:List Value} {S T:List Nat} (h:Row w v e sz n xs S) (hu:View w u sz m ys T)
  (h1:∀ y∈ys,y.oneCell'=true) (hb:(n + m) * bytes≤140737488355328)
  (hK:∀ ao cap w' S',Row w' (.slice ao (n + m) cap) e sz (n + m) (xs ++ ys) S'→Keeps S w w'→(∀ k∈S',k∈S∨w.heap.size≤k)→K (a.put o.dst (.slice ao (n + m) cap)) w')
  (hg:o.guard=none:=by rfl) (hop:o.op=Op.call { callee:=Callee.builtin Builtin.append,args:=#[s,x],argTypes:=#[t,t] }:=by rfl) (hs:a.eval s=v:=by rfl) (hx:a.eval x=u:=by rfl) :
  if Region.wanted o (yielded ops a.tmps)=true then Oper.wp P o a w K Q else F:=by
 have hw:Region.wanted o (yielded ops a.tmps)=true:=by simp [Region.wanted,hg]
 rw [if_pos hw];obtain ⟨ao,cap,w',S',hrun,r1,r2,r3,_⟩:=run_app E o.type h hu h1 hb;unfold Oper.wp;simp [execOp,hop,resolve,invoke,builtin,hs,hx,hrun,Result.andThen];exact hK ao cap w' S' r1 r2 r3
theorem step_app1 (E:Elem P t e sz bytes z) {w:World} {ops:Array Oper} {o:Oper} {a:Act} {K:Act→World→Prop} {Q:Exit→Act→World→Prop} {F:Prop} {s x:Operand}
  {v:Value} {n m bx:Nat} {xs ys:List Value} {S:List Nat} (h:Row w v e sz n xs S) (hy:ys.length=m * sz) (hm:m≤maxLen)
  (h1:∀ y∈ys,y.oneCell'=true) (hb:(n + m) * bytes≤140737488355328)
  (hK:∀ ao cap w' S',Row w' (.slice ao (n + m) cap) e sz (n + m) (xs ++ ys) S'→Keeps S w w'→(∀ k∈S',k∈S∨w.heap.size≤k)→K (a.put o.dst (.slice ao (n + m) cap)) w')
  (hg:o.guard=none:=by rfl) (hop:o.op=Op.call { callee:=Callee.builtin Builtin.append,args:=#[s,x],argTypes:=#[t,t] }:=by rfl) (hs:a.eval s=v:=by rfl) (hx:a.eval x=.slice (some ⟨bx,0,none⟩) m m:=by rfl) (hbx:bx=w.heap.size:=by first | rfl | simp) :
  if Region.wanted o (yielded ops a.tmps)=true then Oper.wp P o a (w.alloc (.cells ys.toArray e)) K Q else F:=by
 subst hbx;refine step_app E (h.alloc _) (Row.lit w ys e sz m hy hm).view h1 hb ?_ hg hop hs hx;intro ao cap w' S' r1 r2 r3;refine hK ao cap w' S' r1 (((Keeps.refl S w).alloc _).trans r2 (fun k hk=>.inl hk)) (fun k hk=>?_);rcases r3 k hk with h | h
 ·exact .inl h
 ·right;simp at h;omega
end
open Go.RowKit Go.ChangeShapes Go.WideShapes Go.Deep
section
variable {H:Type} {enc:TypeId × Value→H} {P:Program} {w:World} {base:Nat} {spare:Nat→Bool} {held:Bool}
end
theorem quiet_own {P:Program} {f:FuncId} {args:Array Value} {w:World} {n:Nat} {v:Value}
  (h:Calls P f args (w.drewN n) fun e w'=>e=.returned v∧w.drewN n=w'):Calls P f args (w.drewN n) fun e w''=>e=.returned v∧∃ m,w''=w.drewN m :=
 h.mono fun _ _ ⟨he,hm⟩=>⟨he,n,hm.symm⟩
open Go.RowKit
def IR (w:World) (v:Value) (e:TypeId) (l:List Int) (S:List Nat):Prop:=Row w v e 1 l.length (l.map (Value.int .i64)) S
section
variable {w w':World} {v:Value} {l:List Int} {S T:List Nat} {e:TypeId}
end
section
variable {P:Program} {t e:TypeId} {bytes:Nat} {z:Value}
end
open Go.RowKit
section
variable {α:Type} {f:α→List Value} {sz:Nat}
theorem flat_len (hf:∀ x,(f x).length=sz):∀ l:List α,(l.flatMap f).length=l.length * sz
 | []=>by simp
 | y :: r=>by rw [List.flatMap_cons,List.length_append,hf,flat_len hf r,List.length_cons,Nat.add_mul];omega
theorem flat_get (hf:∀ x,(f x).length=sz) {x:α} {j:Nat} (hj:j < sz):∀ (l:List α) (k:Nat),l[k]?=some x→(l.flatMap f)[k * sz + j]?=(f x)[j]?
 | [],k,h=>by simp at h
 | y :: r,0,h=>by
  simp at h;subst h;rw [List.flatMap_cons,List.getElem?_append_left (by rw [hf];omega)];simp
 | y :: r,k + 1,h=>by
  have e:(k + 1) * sz=k * sz + sz:=by rw [Nat.add_mul];omega
  rw [List.flatMap_cons,List.getElem?_append_right (by rw [hf];omega),hf,show (k + 1) * sz + j - sz=k * sz + j by omega];exact flat_get hf hj r k (by simpa using h)
end
section
variable {α:Type} {f:α→List Value} {sz:Nat}
theorem flat_made (hf:∀ x,(f x).length=sz) {x0:α} {z:Array Value} (hz:z.toList=f x0) (hs:0 < sz) (n:Nat):(madeCells z (n * sz)).toList=(List.replicate n x0).flatMap f:=by
 apply List.ext_getElem?;intro i;have hzs:z.size=sz:=by rw [← Array.length_toList,hz,hf]
 by_cases hi:i < n * sz
 ·have hj:i % sz < sz:=Nat.mod_lt _ hs;have hk:i / sz < n:=Nat.div_lt_of_lt_mul (by rwa [Nat.mul_comm]);have h:=flat_get hf hj (List.replicate n x0) (i / sz) (x:=x0) (by simp [hk]);rw [Nat.div_add_mod'] at h;rw [h,← hz];simp [madeCells,hi,hzs,hj]
 ·rw [List.getElem?_eq_none (by rw [Array.length_toList,size_madeCells];omega),List.getElem?_eq_none (by rw [flat_len hf];simp;omega)]
end
section
variable {α:Type} {f:α→List Value} {sz:Nat} {w w':World} {v:Value} {l:List α} {S T:List Nat} {e:TypeId}
end
open Go.RowKit
structure Kept {α:Type} (E:World→List Value→α→List Nat→Prop):Prop where
 keep:∀ {w w':World} {cs:List Value} {a:α} {U T:List Nat},E w cs a U→Keeps T w w'→(∀ x∈U,x∉T)→E w' cs a U
 lt:∀ {w:World} {cs:List Value} {a:α} {U:List Nat},E w cs a U→∀ x∈U,x < w.heap.size
def chunk (xs:List Value) (sz k:Nat):List Value:=(xs.drop (k * sz)).take sz
theorem chunk_get {xs:List Value} {sz k j:Nat} (hj:j < sz):(chunk xs sz k)[j]?=xs[k * sz + j]?:=by
 unfold chunk;rw [List.getElem?_take,if_pos hj,List.getElem?_drop]
theorem chunk_len {xs:List Value} {sz n k:Nat} (h:xs.length=n * sz) (hk:k < n):(chunk xs sz k).length=sz:=by
 have:(k + 1) * sz≤n * sz:=Nat.mul_le_mul_right _ hk;rw [Nat.add_mul] at this;unfold chunk;rw [List.length_take,List.length_drop];omega
theorem chunk_left {xs ys:List Value} {sz n k:Nat} (h:xs.length=n * sz) (hk:k < n):chunk (xs ++ ys) sz k=chunk xs sz k:=by
 apply List.ext_getElem?;intro j;have:(k + 1) * sz≤n * sz:=Nat.mul_le_mul_right _ hk;rw [Nat.add_mul] at this
 by_cases hj:j < sz
 ·rw [chunk_get hj,chunk_get hj,List.getElem?_append_left (by omega)]
 ·rw [List.getElem?_eq_none (by unfold chunk;rw [List.length_take];omega),List.getElem?_eq_none (by unfold chunk;rw [List.length_take];omega)]
theorem chunk_right {xs ys:List Value} {sz n k:Nat} (h:xs.length=n * sz):chunk (xs ++ ys) sz (n + k)=chunk ys sz k:=by
 apply List.ext_getElem?;intro j
 by_cases hj:j < sz
 ·rw [chunk_get hj,chunk_get hj,Nat.add_mul,List.getElem?_append_right (by omega),h]
  congr 1;omega
 ·rw [List.getElem?_eq_none (by unfold chunk;rw [List.length_take];omega),List.getElem?_eq_none (by unfold chunk;rw [List.length_take];omega)]
theorem chunk_one {ys:List Value} {sz:Nat} (h:ys.length=sz):chunk ys sz 0=ys:=by
 unfold chunk;rw [Nat.zero_mul,List.drop_zero,List.take_of_length_le (by omega)]
def Parts {α:Type} (E:World→List Value→α→List Nat→Prop) (sz:Nat) (w:World) (xs:List Value) (l:List α) (S:List Nat):Prop :=
 ∀ (k:Nat) a,l[k]?=some a→∃ U,E w (chunk xs sz k) a U∧∀ x∈U,x∈S
def GV {α:Type} (E:World→List Value→α→List Nat→Prop) (sz:Nat) (w:World) (v:Value) (l:List α) (S:List Nat):Prop :=
 ∃ xs T,View w v sz l.length xs T∧Parts E sz w xs l S∧(∀ x∈T,x∈S)∧(∀ x∈S,x < w.heap.size)∧∀ y∈xs,y.oneCell'=true
def GR {α:Type} (E:World→List Value→α→List Nat→Prop) (sz:Nat) (w:World) (v:Value) (e:TypeId) (l:List α) (T S:List Nat):Prop :=
 ∃ xs,Row w v e sz l.length xs T∧Parts E sz w xs l S∧(∀ x∈S,x < w.heap.size)∧(∀ x∈T,x∉S)∧∀ y∈xs,y.oneCell'=true
section
variable {α:Type} {E:World→List Value→α→List Nat→Prop} {sz:Nat} {w w':World} {v:Value} {l:List α} {S T S2:List Nat} {e:TypeId}
theorem Parts.keep (KE:Kept E) {xs:List Value} (h:Parts E sz w xs l S) (k:Keeps T w w') (hn:∀ x∈S,x∉T):Parts E sz w' xs l S:=fun i a hi=>by
 obtain ⟨U,h1,h2⟩:=h i a hi;exact ⟨U,KE.keep h1 k (fun x hx=>hn x (h2 x hx)),h2⟩
theorem Parts.mono {xs:List Value} (h:Parts E sz w xs l S) (hS:∀ x∈S,x∈S2):Parts E sz w xs l S2:=fun i a hi=>by
 obtain ⟨U,h1,h2⟩:=h i a hi;exact ⟨U,h1,fun x hx=>hS x (h2 x hx)⟩
theorem GV.keep (KE:Kept E) (h:GV E sz w v l S) (k:Keeps T w w') (hn:∀ x∈S,x∉T):GV E sz w' v l S:=by
 obtain ⟨xs,U,h1,h2,h3,h4,h5⟩:=h;exact ⟨xs,U,h1.keep k (fun x hx=>hn x (h3 x hx)),h2.keep KE k hn,h3,fun x hx=>Nat.lt_of_lt_of_le (h4 x hx) k.size,h5⟩
theorem GV.then (KE:Kept E) (h:GV E sz w v l S) (k:Keeps [] w w'):GV E sz w' v l S:=h.keep KE k (by simp)
theorem GV.mono (h:GV E sz w v l S) (hS:∀ x∈S,x∈S2) (hl:∀ x∈S2,x < w.heap.size):GV E sz w v l S2:=by
 obtain ⟨xs,U,h1,h2,h3,h4,h5⟩:=h;exact ⟨xs,U,h1,h2.mono hS,fun x hx=>hS x (h3 x hx),hl,h5⟩
theorem GV.lt (h:GV E sz w v l S):∀ x∈S,x < w.heap.size:=by
 obtain ⟨xs,U,h1,h2,h3,h4,h5⟩:=h;exact h4
theorem GV.shape (h:GV E sz w v l S):∃ ao cap,v=.slice ao l.length cap:=by
 obtain ⟨xs,U,h1,_⟩:=h;exact h1.shape
theorem GV.le (h:GV E sz w v l S):l.length≤maxLen:=by
 obtain ⟨xs,U,h1,_⟩:=h;exact h1.le
theorem GV.get {ao:Option Addr} {m cap:Nat} (h:GV E sz w (.slice ao m cap) l S) {k:Nat} {a:α} (hk:l[k]?=some a) :
  ∃ g off cs U,ao=some ⟨g,off,none⟩∧g∈S∧g < w.heap.size∧cs.length=sz∧(∀ j,j < sz→w.cell? ⟨g,off + (k * sz + j),none⟩=cs[j]?)∧E w cs a U∧∀ x∈U,x∈S:=by
 obtain ⟨xs,T,h1,h2,h3,h4,h5⟩:=h;have hkl:=(List.getElem?_eq_some_iff.1 hk).1;obtain ⟨g,off,rfl,rfl,hg,hc⟩:=h1.cell (by omega);obtain ⟨U,he,hU⟩:=h2 k a hk;have hlen:=h1.len;have h6:(k + 1) * sz≤l.length * sz:=Nat.mul_le_mul_right _ hkl;rw [Nat.add_mul] at h6;exact ⟨g,off,chunk xs sz k,U,rfl,h3 g (by simp),hg,chunk_len hlen hkl,fun j hj=>by rw [hc _ (by omega),chunk_get hj],he,hU⟩
theorem GV.addr {ao:Option Addr} {m cap:Nat} (h:GV E sz w (.slice ao m cap) l S) (h0:0 < l.length):∃ g off,ao=some ⟨g,off,none⟩∧g∈S∧g < w.heap.size:=by
 obtain ⟨g,off,cs,U,h1,h2,h3,_⟩:=h.get (List.getElem?_eq_getElem h0);exact ⟨g,off,h1,h2,h3⟩
theorem GV.nil (E:World→List Value→α→List Nat→Prop) (sz:Nat) (w:World):GV E sz w (.slice none 0 0) [] [] :=
 ⟨[],[],View.nil w sz,fun k a h=>by simp at h,by simp,by simp,by simp⟩
theorem GR.nil (E:World→List Value→α→List Nat→Prop) (sz:Nat) (w:World) (e:TypeId):GR E sz w (.slice none 0 0) e [] [] [] :=
 ⟨[],Row.nil w e sz,fun k a h=>by simp at h,by simp,by simp,by simp⟩
theorem GR.lit (E:World→List Value→α→List Nat→Prop) (sz:Nat) (w:World) (e:TypeId) (b:Nat) (hb:b=w.heap.size):GR E sz (w.alloc (.cells #[] e)) (.slice (some ⟨b,0,none⟩) 0 0) e [] [b] []:=by
 subst hb;exact ⟨[],Row.lit w [] e sz 0 (by simp) (by simp [maxLen]),fun k a h=>by simp at h,by simp,by simp,by simp⟩
theorem GR.gv (h:GR E sz w v e l T S):GV E sz w v l (T ++ S):=by
 obtain ⟨xs,h1,h2,h3,h4,h5⟩:=h;exact ⟨xs,T,h1.view,h2.mono (fun x hx=>by simp [hx]),fun x hx=>by simp [hx],fun x hx=>by
  rcases List.mem_append.1 hx with h | h
  ·exact h1.lt x h
  ·exact h3 x h,h5⟩
theorem GR.keep (KE:Kept E) (h:GR E sz w v e l T S) (k:Keeps S2 w w') (h1:∀ x∈T,x∉S2) (h2:∀ x∈S,x∉S2):GR E sz w' v e l T S:=by
 obtain ⟨xs,h3,h4,h5,h6,h7⟩:=h;exact ⟨xs,h3.keep k h1,h4.keep KE k h2,fun x hx=>Nat.lt_of_lt_of_le (h5 x hx) k.size,h6,h7⟩
theorem GR.then (KE:Kept E) (h:GR E sz w v e l T S) (k:Keeps [] w w'):GR E sz w' v e l T S:=h.keep KE k (by simp) (by simp)
theorem GR.shape (h:GR E sz w v e l T S):∃ ao cap,v=.slice ao l.length cap:=by
 obtain ⟨xs,h1,_⟩:=h;exact h1.shape
theorem GR.lt (h:GR E sz w v e l T S):(∀ x∈T,x < w.heap.size)∧∀ x∈S,x < w.heap.size:=by
 obtain ⟨xs,h1,_,h3,_⟩:=h;exact ⟨h1.lt,h3⟩
theorem GR.addr {ao:Option Addr} {m cap:Nat} (h:GR E sz w (.slice ao m cap) e l T S) (h0:0 < l.length):∃ g off,ao=some ⟨g,off,none⟩∧T=[g]∧g < w.heap.size:=by
 obtain ⟨xs,h1,_⟩:=h;obtain ⟨g,off,h2,h3,h4,_⟩:=h1.cells h0;exact ⟨g,off,h2,h3,h4⟩
end
section
variable {α:Type} {F:World→List Value→α→List Nat→Prop} {P:Program} {t e:TypeId} {sz bytes:Nat} {z:Value}
theorem parts_app (KE:Kept F) {w w':World} {xs ys:List Value} {l r:List α} {S S2 T:List Nat} (hl:xs.length=l.length * sz) (h:Parts F sz w xs l S) (h2:Parts F sz w ys r S2) (k:Keeps T w w') (hS:∀ x∈S,x∉T) (hS2:∀ x∈S2,x∉T) :
  Parts F sz w' (xs ++ ys) (l ++ r) (S ++ S2):=by
 intro i a hi
 by_cases hlt:i < l.length
 ·rw [List.getElem?_append_left hlt] at hi;obtain ⟨U,h1,h3⟩:=h i a hi;rw [chunk_left hl hlt];exact ⟨U,KE.keep h1 k (fun x hx=>hS x (h3 x hx)),fun x hx=>by simp [h3 x hx]⟩
 ·rw [List.getElem?_append_right (by omega)] at hi;obtain ⟨U,h1,h3⟩:=h2 (i - l.length) a hi;have e:i=l.length + (i - l.length):=by omega
  rw [e,chunk_right hl];exact ⟨U,KE.keep h1 k (fun x hx=>hS2 x (h3 x hx)),fun x hx=>by simp [h3 x hx]⟩
theorem wp_gapps (EL:Elem P t e sz bytes z) (KE:Kept F) {w:World} {ops:Array Oper} {rest:List Oper} {o:Oper} {a:Act} {Q:Exit→Act→World→Prop} {s x:Operand}
  {v u:Value} {l r:List α} {T S S2:List Nat} (h:GR F sz w v e l T S) (hu:GV F sz w u r S2) (hd:∀ y∈S2,y∉T) (hb:(l.length + r.length) * bytes≤140737488355328)
  (hK:∀ ao cap w' T',GR F sz w' (.slice ao (l.length + r.length) cap) e (l ++ r) T' (S ++ S2)→Keeps T w w'→(∀ k∈T',k∈T∨w.heap.size≤k)→wpList P ops Q rest (a.put o.dst (.slice ao (l.length + r.length) cap)) w')
  (hg:o.guard=none:=by rfl) (hop:o.op=Op.call { callee:=Callee.builtin Builtin.append,args:=#[s,x],argTypes:=#[t,t] }:=by rfl) (hs:a.eval s=v:=by rfl) (hx:a.eval x=u:=by rfl) :
  wpList P ops Q (o :: rest) a w:=by
 obtain ⟨xs,h1,h2,h3,h4,h5⟩:=h;obtain ⟨ys,V,u1,u2,u3,u4,u5⟩:=hu;refine wp_app EL h1 u1 u5 hb (fun ao cap w' T' r1 r2 r3=>hK ao cap w' T' ⟨xs ++ ys,by rw [List.length_append];exact r1,parts_app KE h1.len h2 u2 r2 (fun y hy hT=>h4 y hT hy) hd,?_,?_,?_⟩ r2 r3) hg hop hs hx
 ·intro y hy;have:=r2.size;rcases List.mem_append.1 hy with h | h
  ·have:=h3 y h;omega
  ·have:=u4 y h;omega
 ·intro y hy h;rcases r3 y hy with hT | hn
  ·rcases List.mem_append.1 h with h | h
   ·exact h4 y hT h
   ·exact hd y h hT
  ·rcases List.mem_append.1 h with h | h
   ·have:=h3 y h;omega
   ·have:=u4 y h;omega
 ·intro y hy;rcases List.mem_append.1 hy with h | h
  ·exact h5 y h
  ·exact u5 y h
theorem wp_gapp1 (EL:Elem P t e sz bytes z) (KE:Kept F) {w:World} {ops:Array Oper} {rest:List Oper} {o:Oper} {a:Act} {Q:Exit→Act→World→Prop} {s x:Operand}
  {v:Value} {l:List α} {b:α} {ys:List Value} {bx:Nat} {T S U:List Nat} (h:GR F sz w v e l T S) (he:F w ys b U) (hy:ys.length=sz) (hd:∀ y∈U,y∉T) (h1:∀ y∈ys,y.oneCell'=true) (hb:(l.length + 1) * bytes≤140737488355328)
  (hK:∀ ao cap w' T',GR F sz w' (.slice ao (l.length + 1) cap) e (l ++ [b]) T' (S ++ U)→Keeps T w w'→(∀ k∈T',k∈T∨w.heap.size≤k)→wpList P ops Q rest (a.put o.dst (.slice ao (l.length + 1) cap)) w')
  (hg:o.guard=none:=by rfl) (hop:o.op=Op.call { callee:=Callee.builtin Builtin.append,args:=#[s,x],argTypes:=#[t,t] }:=by rfl) (hs:a.eval s=v:=by rfl) (hx:a.eval x=.slice (some ⟨bx,0,none⟩) 1 1:=by rfl) (hbx:bx=w.heap.size:=by first | rfl | simp) :
  wpList P ops Q (o :: rest) a (w.alloc (.cells ys.toArray e)):=by
 obtain ⟨xs,g1,g2,g3,g4,g5⟩:=h;have hp:Parts F sz w ys [b] U:=fun i c hi=>by
  match i,hi with
  | 0,hi=>simp at hi;subst hi;exact ⟨U,by rw [chunk_one hy];exact he,fun x hx=>hx⟩
  | i + 1,hi=>simp at hi
 refine wp_app1 EL (m:=1) g1 (by rw [hy,Nat.one_mul]) one_le_max h1 hb (fun ao cap w' T' r1 r2 r3=>hK ao cap w' T' ⟨xs ++ ys,by rw [List.length_append];exact r1,parts_app KE g1.len g2 hp r2 (fun y hy hT=>g4 y hT hy) hd,?_,?_,?_⟩ r2 r3) hg hop hs hx hbx
 ·intro y hy;have:=r2.size;rcases List.mem_append.1 hy with h | h
  ·have:=g3 y h;omega
  ·have:=KE.lt he y h;omega
 ·intro y hy h;rcases r3 y hy with hT | hn
  ·rcases List.mem_append.1 h with h | h
   ·exact g4 y hT h
   ·exact hd y h hT
  ·rcases List.mem_append.1 h with h | h
   ·have:=g3 y h;omega
   ·have:=KE.lt he y h;omega
 ·intro y hy;rcases List.mem_append.1 hy with h | h
  ·exact g5 y h
  ·exact h1 y h
end
open Go.RowKit Go.ChangeShapes Go.WideShapes Go.Deep
section
variable {H:Type} {enc:TypeId × Value→H} {P:Program}
end
theorem list1 {α:Type}:∀ {l:List α},l.length=1→∃ x0,l=[x0]
 | [x0],_=>⟨_,rfl⟩
theorem list3 {α:Type}:∀ {l:List α},l.length=3→∃ x0 x1 x2,l=[x0,x1,x2]
 | [x0,x1,x2],_=>⟨_,_,_,rfl⟩
theorem list6 {α:Type}:∀ {l:List α},l.length=6→∃ x0 x1 x2 x3 x4 x5,l=[x0,x1,x2,x3,x4,x5]
 | [x0,x1,x2,x3,x4,x5],_=>⟨_,_,_,_,_,_,rfl⟩
open Go.RowKit Go.ChangeShapes Go.WideShapes Go.Deep
def numE (k:IntKind) (w:World) (cs:List Value) (n:Int) (U:List Nat):Prop:=cs=[.int k n]∧(Lit.int k n).wf=true∧U=[]
def bitE (w:World) (cs:List Value) (b:Bool) (U:List Nat):Prop:=cs=[.bool b]∧U=[]
def rowE {α:Type} (E:World→List Value→α→List Nat→Prop) (sz:Nat) (w:World) (cs:List Value) (l:List α) (U:List Nat):Prop:=∃ v,cs=[v]∧GV E sz w v l U
theorem numE_kept (k:IntKind):Kept (numE k):=⟨fun h _ _=>h,fun h x hx=>by obtain ⟨_,_,rfl⟩:=h;simp at hx⟩
theorem bitE_kept:Kept bitE:=⟨fun h _ _=>h,fun h x hx=>by obtain ⟨_,rfl⟩:=h;simp at hx⟩
theorem rowE_kept {α:Type} {E:World→List Value→α→List Nat→Prop} {sz:Nat} (K:Kept E):Kept (rowE E sz) :=
 ⟨fun h k hn=>by obtain ⟨v,h1,h2⟩:=h;exact ⟨v,h1,h2.keep K k hn⟩,fun h=>by obtain ⟨v,h1,h2⟩:=h;exact h2.lt⟩
structure Opens (P:Program) (t:TypeId) {α:Type} (E:World→List Value→α→List Nat→Prop) (sz:Nat):Prop where
 pos:0 < sz
 kept:Kept E
 cells:P.cellsOf t=sz
 op:∀ {H:Type} {enc:TypeId × Value→H} {W:World} {fuel:Nat} {cs:List Value} {x:DataW H × List MemPlace},DataW.trod enc P W 0 (fun _=>true) true fuel t cs=some x→cs.length=sz∧(∀ y∈cs,y.oneCell'=true)∧∃ a U,E W cs a U
section
variable {P:Program} {t e:TypeId}
theorem opens_num {k:IntKind} (ht:P.underlying t=some (.int k)) (hc:P.cellsOf t=1):Opens P t (numE k) 1 :=
 ⟨Nat.one_pos,numE_kept k,hc,fun h=>by
  obtain ⟨n,rfl,_,hw⟩:=DataW.trod_int ht h;exact ⟨rfl,by simp [Value.oneCell'],n,[],rfl,hw,rfl⟩⟩
theorem opens_bit (ht:P.underlying t=some .bool) (hc:P.cellsOf t=1):Opens P t bitE 1 :=
 ⟨Nat.one_pos,bitE_kept,hc,fun h=>by
  obtain ⟨b,rfl,_⟩:=DataW.trod_bool ht h;exact ⟨rfl,by simp [Value.oneCell'],b,[],rfl,rfl⟩⟩
theorem opens_row {α:Type} {E:World→List Value→α→List Nat→Prop} {sz:Nat} (ht:P.underlying t=some (.slice e)) (hc:P.cellsOf t=1) (he:Opens P e E sz):Opens P t (rowE E sz) 1:=by
 refine ⟨Nat.one_pos,rowE_kept he.kept,hc,?_⟩;intro H enc W fuel cs x h;rcases open_slice ht h with ⟨rfl,_⟩ | ⟨a,len,cap,m,n,D,Pl,rfl,hb,hl,hm,hmm,_,hx⟩
 ·exact ⟨rfl,by simp [Value.oneCell'],[],[],_,rfl,GV.nil _ _ _⟩
 refine ⟨rfl,by simp [Value.oneCell'],?_⟩
 by_cases hz:len=0
 ·subst hz;exact ⟨[],[],_,rfl,[],[],⟨by simp,_,_,rfl,hl,hm,.inl ⟨rfl,rfl⟩⟩,fun k a h=>by simp at h,by simp,by simp,by simp⟩
 have hmc:len≤m:=by rw [hmm];simp;omega
 have hcell:∀ k,k < len→∃ cs',cs'.length=sz∧(∀ y∈cs',y.oneCell'=true)∧(∀ f,f < sz→W.cell? (a.add (k * sz + f))=cs'[f]?)∧∃ b U,E W cs' b U:=by
  intro k hk;obtain ⟨cs',h1,h2⟩:=hx k (by omega);rw [he.cells] at h1;obtain ⟨e1,e2,e3⟩:=he.op h2;refine ⟨cs',e1,e2,fun f hf=>?_,e3⟩;obtain ⟨_,_,hcc⟩:=World.cells?_some h1;have:=hcc f (by omega)
  rwa [Go.Deep.add_add] at this
 obtain ⟨g,off,spot⟩:=a;have hpos:=he.pos;obtain ⟨cs0,l0,_,c0,b0,U0,_⟩:=hcell 0 (by omega);have hu0:=c0 0 hpos;rw [List.getElem?_eq_getElem (by omega)] at hu0;have hspot:spot=none:=by simpa [Addr.add] using World.cell?_spot hu0
 subst hspot;have hgl:g < W.heap.size:=by rw [add_plain] at hu0;exact block_lt_of_cell hu0
 haveI:Inhabited (List Value × α × List Nat):=⟨([],b0,[])⟩
 obtain ⟨F,hF⟩:=choose_lt (α:=List Value × α × List Nat) (p:=fun k y=>y.1.length=sz∧(∀ z∈y.1,z.oneCell'=true)∧(∀ f,f < sz→W.cell? ⟨g,off + (k * sz + f),none⟩=y.1[f]?)∧E W y.1 y.2.1 y.2.2) (fun k hk=>by
  obtain ⟨cs',h1,h2,h3,b,U,h4⟩:=hcell k hk;exact ⟨(cs',b,U),h1,h2,fun f hf=>by have:=h3 f hf;rwa [add_plain] at this,h4⟩)
 have hflat:∀ (j:Nat) (l:List Nat),(∀ k∈l,k < len)→(l.flatMap fun k=>(F k).1).length=l.length * sz:=by
  intro j l hl
  induction l with
  | nil=>simp
  | cons k l ih =>
   rw [List.flatMap_cons,List.length_append,(hF k (hl k (by simp))).1,ih (fun q hq=>hl q (by simp [hq])),List.length_cons,Nat.add_mul];omega
 have hget:∀ (f:Nat),f < sz→∀ (l:List Nat),(∀ k∈l,k < len)→∀ (i k:Nat),l[i]?=some k→(l.flatMap fun k=>(F k).1)[i * sz + f]?=(F k).1[f]?:=by
  intro f hf l
  induction l with
  | nil=>intro _ i k h;simp at h
  | cons q l ih =>
   intro hl i k h;have hq:=(hF q (hl q (by simp))).1
   match i with
   | 0 =>
    simp at h;subst h;rw [List.flatMap_cons,List.getElem?_append_left (by omega)];simp
   | i + 1 =>
    have e:(i + 1) * sz=i * sz + sz:=by rw [Nat.add_mul];omega
    rw [List.flatMap_cons,List.getElem?_append_right (by omega),hq,show (i + 1) * sz + f - sz=i * sz + f by omega];exact ih (fun k hk=>hl k (by simp [hk])) i k (by simpa using h)
 have hrl:∀ k∈List.range len,k < len:=fun k hk=>List.mem_range.1 hk
 have hxl:((List.range len).flatMap fun k=>(F k).1).length=len * sz:=by rw [hflat 0 _ hrl];simp
 have hdiv:∀ j,j < len * sz→j / sz < len∧j % sz < sz∧j / sz * sz + j % sz=j:=fun j hj =>
  ⟨Nat.div_lt_of_lt_mul (by rw [Nat.mul_comm];exact hj),Nat.mod_lt _ hpos,Nat.div_add_mod' _ _⟩
 refine ⟨(List.range len).map fun k=>(F k).2.1,g :: (List.range len).flatMap fun k=>(F k).2.2,_,rfl,(List.range len).flatMap fun k=>(F k).1,[g],?_,?_,by simp,?_,?_⟩
 ·refine ⟨by rw [hxl];simp,_,_,by simp,by simpa using hl,hm,.inr ⟨g,off,rfl,rfl,hgl,fun j hj=>?_⟩⟩;rw [hxl] at hj;obtain ⟨d1,d2,d3⟩:=hdiv j hj;have h1:=(hF _ d1).2.2.1 _ d2;rw [d3] at h1;have h2:=hget _ d2 _ hrl (j / sz) (j / sz) (by simp [d1]);rw [d3] at h2;rw [h1,h2]
 ·intro k b hk;obtain ⟨hk1,rfl⟩:=List.getElem?_eq_some_iff.1 hk;have hk2:k < len:=by simpa using hk1
  refine ⟨(F k).2.2,?_,fun y hy=>List.mem_cons_of_mem _ (List.mem_flatMap.2 ⟨k,List.mem_range.2 hk2,hy⟩)⟩;have hch:chunk ((List.range len).flatMap fun k=>(F k).1) sz k=(F k).1:=by
   apply List.ext_getElem?;intro f
   by_cases hf:f < sz
   ·rw [chunk_get hf];exact hget f hf _ hrl k k (by simp [hk2])
   ·rw [List.getElem?_eq_none (by unfold chunk;rw [List.length_take];omega),List.getElem?_eq_none (by rw [(hF k hk2).1];omega)]
  rw [hch];simpa using (hF k hk2).2.2.2
 ·intro y hy;rcases List.mem_cons.1 hy with rfl | hy
  ·exact hgl
  ·obtain ⟨k,hk,hy⟩:=List.mem_flatMap.1 hy;exact he.kept.lt (hF k (List.mem_range.1 hk)).2.2.2 y hy
 ·intro y hy;obtain ⟨k,hk,hy⟩:=List.mem_flatMap.1 hy;exact (hF k (List.mem_range.1 hk)).2.1 y hy
theorem Opens.field {α:Type} {E:World→List Value→α→List Nat→Prop} {sz:Nat} {H:Type} {enc:TypeId × Value→H} {W:World} {n:Nat} {cs:List Value} {y:Option (DataW H × List MemPlace)} {f:Field} {off:Nat}
  (he:Opens P e E sz) (hf:f.type=e) (ho:f.offset=off) (hy:y.isSome=true) (h:DataW.trod enc P W 0 (fun _=>true) true n f.type ((cs.drop f.offset).take (P.cellsOf f.type))=y) :
  (∀ z∈(cs.drop off).take sz,z.oneCell'=true)∧((cs.drop off).take sz).length=sz∧∃ a U,E W ((cs.drop off).take sz) a U:=by
 obtain ⟨y',rfl⟩:=Option.isSome_iff_exists.1 hy;subst hf ho;rw [he.cells] at h;obtain ⟨h1,h2,h3⟩:=he.op h;exact ⟨h2,h1,h3⟩
theorem Opens.arg1 {α:Type} {E:World→List Value→α→List Nat→Prop} {H:Type} {enc:TypeId × Value→H} {W:World} {v:Value} {d:DataW H} {p:List MemPlace}
  (he:Opens P t E 1) (hv:v.cells=#[v]) (h:DataW.Trod enc P W 0 (fun _=>true) true t v d p):∃ a U,E W [v] a U:=by
 obtain ⟨fuel,hfu⟩:=h;have:=(he.op (show DataW.trod enc P W 0 (fun _=>true) true fuel t [v]=some (d,p) by simpa [hv] using hfu)).2.2;exact this
theorem Opens.row {α:Type} {E:World→List Value→α→List Nat→Prop} {sz:Nat} {H:Type} {enc:TypeId × Value→H} {W:World} {r:Reach} {b0:Nat} {v:Value} {d:DataW H} {p:List MemPlace}
  (he:Opens P t (rowE E sz) 1) (ht:P.underlying t=some (.slice e)) (hv:Value.okWide P W r b0 t v) (h:DataW.Trod enc P W 0 (fun _=>true) true t v d p):∃ l S,GV E sz W v l S:=by
 obtain ⟨ao,len,cap,rfl⟩:=okWide_slice ht hv;obtain ⟨l,S,v',h1,h2⟩:=he.arg1 rfl h;obtain rfl:_=v':=by simpa using h1
 exact ⟨l,S,h2⟩
end
open Go.RowKit
def KR (k:IntKind) (w:World) (v:Value) (e:TypeId) (l:List Int) (S:List Nat):Prop:=Row w v e 1 l.length (l.map (Value.int k)) S
section
variable {k:IntKind} {w w':World} {v:Value} {l:List Int} {S T:List Nat} {e:TypeId}
theorem KR.keep (h:KR k w v e l S) (kp:Keeps T w w') (hn:∀ x∈S,x∉T):KR k w' v e l S:=Row.keep h kp hn
theorem KR.then (h:KR k w v e l S) (kp:Keeps [] w w'):KR k w' v e l S:=Row.then h kp
theorem KR.shape (h:KR k w v e l S):∃ ao cap,v=.slice ao l.length cap:=Row.shape h
theorem KR.le (h:KR k w v e l S):l.length≤maxLen:=Row.le h
theorem KR.lt (h:KR k w v e l S):∀ x∈S,x < w.heap.size:=Row.lt h
theorem KR.nil (k:IntKind) (w:World) (e:TypeId):KR k w (.slice none 0 0) e [] []:=Row.nil w e 1
end
section
variable {P:Program} {t e:TypeId} {bytes:Nat} {z:Value} {k:IntKind}
end
open Go.RowKit Go.Maps
def valElem (v:Value):Option (DataW Value × List MemPlace):=some (.held v,[])
def i64L (g:Int):Lit:=.int .i64 g
def wf64L (g:Int):Prop:=(Lit.int .i64 g).wf=true
def MapV (P:Program) (k:TypeId) (w:World) (b n:Nat) (f:Int→Option Value):Prop :=
 ∃ D,w.ownsMap P k valElem b n D∧∀ g,wf64L g→Maps.has D (i64L g)=(f g).isSome∧∀ z,D.atKey (i64L g) (.held z)=.held ((f g).getD z)
section
variable {P:Program} {k:TypeId} {w w':World} {b n:Nat} {f:Int→Option Value}
theorem ownsMap_keep {R:Value→Option (DataW Value × List MemPlace)} {D:DataW Value} {T:List Nat} (h:w.ownsMap P k R b n D) (kp:Keeps T w w') (hb:b∉T):w'.ownsMap P k R b n D:=by
 have hlt:=h.lt;obtain ⟨es,clock,h1,h2,h3,h4⟩:=h;exact ⟨es,clock,(kp.block b hlt hb).trans h1,h2,h3,h4⟩
theorem MapV.lt (h:MapV P k w b n f):b < w.heap.size:=by obtain ⟨D,h1,_⟩:=h;exact h1.lt
theorem MapV.keep {T:List Nat} (h:MapV P k w b n f) (kp:Keeps T w w') (hb:b∉T):MapV P k w' b n f:=by
 obtain ⟨D,h1,h2⟩:=h;exact ⟨D,ownsMap_keep h1 kp hb,h2⟩
theorem MapV.then (h:MapV P k w b n f) (kp:Keeps [] w w'):MapV P k w' b n f:=h.keep kp (by simp)
theorem MapV.mono {m:Nat} (h:MapV P k w b n f) (hm:n≤m):MapV P k w b m f:=by
 obtain ⟨D,h1,h2⟩:=h;exact ⟨D,h1.mono hm,h2⟩
theorem MapV.made (P:Program) (k:TypeId) (w:World):MapV P k (w.alloc (.map #[] 0)) w.heap.size 0 (fun _=>none) :=
 ⟨_,World.ownsMap_made w P k valElem,fun g _=>⟨rfl,fun z=>rfl⟩⟩
theorem keeps_turned (h:w.mapTurned w' b):Keeps [b] w w':=(Keeps.refl [b] w).grown h.grown (fun x hx=>by cases hx;exact .inl (by simp))
theorem ikey {g:Int} (hg:wf64L g):WideAt.IsKeyLit (i64L g):=by
 first
  | exact trivial
  | (simp [WideAt.IsKeyLit,i64L])
  | (unfold WideAt.IsKeyLit;exact hg)
theorem i64L_ne {a c:Int} (h:a≠c):i64L a≠i64L c:=fun e=>h (by injection e)
theorem wp_mapGet {e:TypeId} {z:Value} (hk:P.underlying k=some (.int .i64)) {t:TypeId} (ht:P.underlying t=some (.map k e)) (hz:∀ w,(zeroValue e).run P w=.ok z w)
  {ops:Array Oper} {rest:List Oper} {o:Oper} {a:Act} {Q:Exit→Act→World→Prop} {m x:Operand} {g:Int} (hw:wf64L g) (h:MapV P k w b n f)
  (hK:wpList P ops Q rest (a.put o.dst (.tuple #[(f g).getD z,.bool (f g).isSome])) w)
  (hg:o.guard=none:=by rfl) (hop:o.op=Op.lookup t m x true:=by rfl) (hm:a.eval m=.map (some b):=by rfl) (hx:a.eval x=.int .i64 g:=by rfl):wpList P ops Q (o :: rest) a w:=by
 obtain ⟨D,h1,h2⟩:=h;obtain ⟨r1,r2⟩:=h2 g hw;refine wpList_lookup_own_ok w hg m x t hop k e (int_keyed hk) ht valElem (hz w) (.held z) [] rfl b n D hm h1 _ (i64L g) hx (keyOf_int_mk hk hw) (fun v ps hv=>?_);rw [r2 z] at hv;simp only [valElem,Option.some.injEq,Prod.mk.injEq,DataW.held.injEq] at hv;rw [hv.1,r1];exact hK
theorem wp_mapSet {e:TypeId} (hk:P.underlying k=some (.int .i64)) {t:TypeId} (ht:P.underlying t=some (.map k e))
  {ops:Array Oper} {rest:List Oper} {o:Oper} {a:Act} {Q:Exit→Act→World→Prop} {m x v:Operand} {g:Int} {u:Value} (hw:wf64L g) (h:MapV P k w b n f) (hn:n < maxLen)
  (hK:∀ w',MapV P k w' b (n + 1) (fun c=>if c=g then some u else f c)→Keeps [b] w w'→wpList P ops Q rest (a.put o.dst undef) w')
  (hg:o.guard=none:=by rfl) (hop:o.op=Op.mapUpdate t m x v:=by rfl) (hm:a.eval m=.map (some b):=by rfl) (hx:a.eval x=.int .i64 g:=by rfl) (hv:a.eval v=u:=by rfl):wpList P ops Q (o :: rest) a w:=by
 obtain ⟨D,h1,h2⟩:=h;refine wpList_mapUpdate_in w hg m x v t hop k e (int_keyed hk) ht valElem b n D hm h1 hn _ _ (i64L g) hx hv (keyOf_int_mk hk hw) (.held u) [] rfl (fun w' q1 q2=>hK w' ⟨_,q1,fun c hc=>?_⟩ (keeps_turned q2));dsimp only
 by_cases e:c=g
 ·subst e;rw [if_pos rfl];exact ⟨has_put_same h1.isMap (ikey hw) _,fun z=>atKey_put_same h1.isMap (ikey hw) _ _⟩
 ·rw [if_neg e];exact ⟨(has_put_other (i64L_ne e) _).trans (h2 c hc).1,fun z=>(atKey_put_other (i64L_ne e) _ _).trans ((h2 c hc).2 z)⟩
theorem wp_mapDel {e:TypeId} (hk:P.underlying k=some (.int .i64)) {t:TypeId} (ht:P.underlying t=some (.map k e))
  {ops:Array Oper} {rest:List Oper} {o:Oper} {a:Act} {Q:Exit→Act→World→Prop} {m x:Operand} {g:Int} (hw:wf64L g) (h:MapV P k w b n f)
  (hK:∀ w',MapV P k w' b n (fun c=>if c=g then none else f c)→Keeps [b] w w'→wpList P ops Q rest (a.put o.dst (.tuple #[])) w')
  (hg:o.guard=none:=by rfl) (hop:o.op=Op.call { callee:=Callee.builtin Builtin.delete,args:=#[m,x],argTypes:=#[t,k] }:=by rfl) (hm:a.eval m=.map (some b):=by rfl) (hx:a.eval x=.int .i64 g:=by rfl):wpList P ops Q (o :: rest) a w:=by
 obtain ⟨D,h1,h2⟩:=h;refine wpList_delete_own w hg m x t k hop e (int_keyed hk) ht valElem b n D hm h1 _ (i64L g) hx (keyOf_int_mk hk hw) (fun w' q1 q2=>hK w' ⟨_,q1,fun c hc=>?_⟩ (keeps_turned q2));dsimp only
 by_cases e:c=g
 ·subst e;rw [if_pos rfl];exact ⟨has_del_same,fun z=>atKey_del_same _⟩
 ·rw [if_neg e];exact ⟨(has_del_other (i64L_ne e)).trans (h2 c hc).1,fun z=>(atKey_del_other (i64L_ne e) _).trans ((h2 c hc).2 z)⟩
end
open Go.RowKit Go.Maps
def MapR (P:Program) (k:TypeId) (w:World) (b r n:Nat) (f:Int→Option Value) (left:Int→Bool) (cnt:Nat):Prop :=
 ∃ D lf,w.ranges P k valElem b r n D lf cnt∧(∀ g,wf64L g→Maps.has D (i64L g)=(f g).isSome∧∀ z,D.atKey (i64L g) (.held z)=.held ((f g).getD z))∧∀ g,wf64L g→lf (i64L g)=left g
section
variable {P:Program} {k:TypeId} {w w':World} {b r n cnt:Nat} {f:Int→Option Value} {left:Int→Bool}
theorem MapR.keep {T:List Nat} (h:MapR P k w b r n f left cnt) (kp:Keeps T w w') (hb:b∉T) (hr:r∉T):MapR P k w' b r n f left cnt:=by
 obtain ⟨D,lf,h1,h2,h3⟩:=h;refine ⟨D,lf,?_,h2,h3⟩;have l1:=h1.owns.lt;have l2:=h1.lt;obtain ⟨es,clock,since,seen,c0,q1,q2,q3,q4,q5,rest⟩:=h1;exact ⟨es,clock,since,seen,c0,(kp.block b l1 hb).trans q1,q2,q3,q4,(kp.block r l2 hr).trans q5,rest⟩
theorem MapR.then (h:MapR P k w b r n f left cnt) (kp:Keeps [] w w'):MapR P k w' b r n f left cnt:=h.keep kp (by simp) (by simp)
theorem MapR.left_eq (h:MapR P k w b r n f left cnt):w.rangeLeft b r=cnt:=by obtain ⟨D,lf,h1,_⟩:=h;exact h1.left_eq
theorem lit_same {x g:Int}:(i64L g).sameKey (i64L x)=decide (g=x):=by simp [i64L,Lit.sameKey]
theorem wp_range {e:TypeId} (hk:P.underlying k=some (.int .i64)) {t:TypeId} (ht:P.underlying t=some (.map k e))
  {ops:Array Oper} {rest:List Oper} {o:Oper} {a:Act} {Q:Exit→Act→World→Prop} {m:Operand} (h:MapV P k w b n f)
  (hK:∀ w' cnt,MapR P k w' b w.heap.size n f (fun g=>(f g).isSome) cnt→Keeps [] w w'→w'.heap.size=w.heap.size + 1→wpList P ops Q rest (a.put o.dst (.pointer (some ⟨w.heap.size,0,none⟩))) w')
  (hg:o.guard=none:=by rfl) (hop:o.op=Op.range t m:=by rfl) (hm:a.eval m=.map (some b):=by rfl):wpList P ops Q (o :: rest) a w:=by
 obtain ⟨D,h1,h2⟩:=h;refine wpList_range_own w hg m t hop k e (int_keyed hk) ht valElem b n D hm h1 (fun w' q1 q2 q3=>hK w' _ ⟨D,_,q1,h2,fun g hw=>(h2 g hw).1⟩ ((Keeps.refl [] w).grown q2 (by simp)) q3)
theorem wp_next (hk:P.underlying k=some (.int .i64))
  {ops:Array Oper} {rest:List Oper} {o:Oper} {a:Act} {Q:Exit→Act→World→Prop} {it:Operand} (h:MapR P k w b r n f left cnt) (hf:∀ g,left g=true→(f g).isSome=true)
  (hDone:cnt=0→(∀ g,wf64L g→left g=false)→wpList P ops Q rest (a.put o.dst (.tuple #[.bool false])) w)
  (hMore:∀ (x:Int) (v:Value) (w':World) (cnt':Nat),wf64L x→left x=true→f x=some v→MapR P k w' b r n f (fun z=>left z && !decide (z=x)) cnt'→cnt' < cnt→Keeps [r] w w'→w'.heap.size=w.heap.size →
   (Instr.entry (.pointer (some ⟨r,0,none⟩))).run P w'=.ok (.tuple #[.int .i64 x,v]) w'→wpList P ops Q rest (a.put o.dst (.tuple #[.bool true,.int .i64 x,v])) w')
  (hg:o.guard=none:=by rfl) (hop:o.op=Op.next it false:=by rfl) (hit:a.eval it=.pointer (some ⟨r,0,none⟩):=by rfl):wpList P ops Q (o :: rest) a w:=by
 obtain ⟨D,lf,h1,h2,h3⟩:=h;refine wpList_next_ranges w hg it hop k (int_keyed hk) valElem (Value.int .i64) id (fun key kl hkey=>by obtain ⟨x,rfl,_⟩:=Maps.keyOf_int_inv hk hkey;exact ⟨x,rfl⟩) (fun v _ _=>⟨v,rfl⟩) b r n D lf cnt hit h1 ?_ ?_
 ·intro hc hl;exact hDone hc (fun g hw=>by rw [← h3 g hw];exact hl _)
 ·intro x c kl y w' cnt' hkey hl hR hat hrg hlt hgr hsz hen;obtain ⟨x',ex,rfl,hwx⟩:=Maps.keyOf_int_inv hk hkey;obtain rfl:x=x':=by simpa using ex
  have hlx:left x=true:=by rw [← h3 x hwx];exact hl
  have hfx:f x=some c:=by
   have h5:=(h2 x hwx).2 (.int .i64 0);have h6:=hat (.held (.int .i64 0));have h7:y=(.held c,[]):=by simpa [valElem] using hR.symm
   rw [h7] at h6;have h8:=h5.symm.trans h6;have h9:=hf x hlx
   cases hfx:f x with
   | none=>rw [hfx] at h9;cases h9
   | some v=>rw [hfx] at h8;simpa using h8
  exact hMore x c w' cnt' hwx hlx hfx ⟨D,_,hrg,h2,fun g hw=>by show (_ && _)=(left g && !decide (g=x));rw [← h3 g hw];congr 1;rw [show (Lit.int IntKind.i64 x)=i64L x from rfl,lit_same]⟩ hlt ((Keeps.refl [r] w).grown hgr (fun j hj=>by cases hj;exact .inl (by simp))) hsz hen
end
theorem alloc_setCells_from (w:World) (t:TypeId):∀ (cs p z:List Value),z.length=cs.length →
  (w.alloc (.cells (p ++ z).toArray t)).setCells w.heap.size p.length cs=w.alloc (.cells (p ++ cs).toArray t)
 | [],p,z,h=>by
  have:z=[]:=List.length_eq_zero_iff.1 h;subst this;rfl
 | c :: cs,p,[],h=>by simp at h
 | c :: cs,p,x :: z,h=>by
  rw [World.setCells,World.setCell_alloc_at _ _ _ _ _ rfl];have e:((p ++ x :: z).toArray.setIfInBounds p.length c)=((p ++ [c]) ++ z).toArray:=by simp
  have ih:=alloc_setCells_from w t cs (p ++ [c]) z (by simpa using h);simp only [List.length_append,List.length_cons,List.length_nil,Nat.zero_add] at ih;rw [e,ih];simp
theorem alloc_setCells (w:World) (t:TypeId) (cs:List Value) (z:Array Value) (h:z.size=cs.length) :
  (w.alloc (.cells z t)).setCells w.heap.size 0 cs.toArray.toList=w.alloc (.cells cs.toArray t):=by
 have:=alloc_setCells_from w t cs [] z.toList (by simpa using h);simpa using this
theorem there_alloc_new (w:World) (t:TypeId) (z:Array Value) {n:Nat} (h:z.size=n):(w.alloc (.cells z t)).there w.heap.size 0 n:=by
 intro j hj;refine ⟨?_,World.frozen?_alloc_at _ _ _ _ rfl⟩;rw [World.cell?_alloc_at _ _ _ _ rfl];simp [h,hj]
theorem Blk.range {w:World} {g:Nat} {cs:List Value} {t:TypeId} (h:Blk w g cs t):w.rangeAt g 0 cs:=fun j v hj=>by
 rw [Nat.zero_add,h.cell];exact hj
section
variable {α:Type} {E:World→List Value→α→List Nat→Prop} {sz:Nat} {w w':World} {l:List α} {S:List Nat}
end
end Go.Proofs.Ytdibmkjoaghafaa
