/-
  What the laws need, part Q2.
  Conditions: none.
-/
import Derived.Test.YtdibmkjoaghafaaQ1
import Derived.AtR
import Derived.BigQuiet
import Derived.ChangeOld
import Derived.Deep.CutBlock
import Derived.Deep.DeepCutAuto
import Derived.Deep.DeepFit
import Derived.Deep.DeepMust
import Derived.Deep.Fields
import Derived.Deep.LoopGhost
import Derived.Deep.MidRow
import Derived.Deep.QuietTactic
import Derived.Deep.RegionHeld3
import Derived.Deep.RegionLaw
import Derived.Deep.Slices
import Derived.Laws.AppendOwnNone
import Derived.Laws.CopyOwn
import Derived.Lib.Hide
import Derived.Maps.OwnSet
import Derived.Maps.RangeWalk
import Derived.OpenShut
import Derived.OrdersIn
import Derived.ProofKit
import Derived.RangeFuncIn
import Derived.TacticsIn
import Derived.WalkKit
set_option linter.unusedVariables false
set_option linter.unusedSimpArgs false
set_option linter.unnecessarySimpa false
set_option maxHeartbeats 2000000
namespace Go.Proofs.Ytdibmkjoaghafaa
section
variable {α:Type} {E:World→List Value→α→List Nat→Prop} {sz:Nat} {w w':World} {l:List α} {S:List Nat}
theorem GV.rng {ao:Option Addr} {m cap:Nat} (h:GV E sz w (.slice ao m cap) l S) {k:Nat} {a:α} (hk:l[k]?=some a) :
  ∃ g off cs U,ao=some ⟨g,off,none⟩∧g∈S∧g < w.heap.size∧cs.length=sz∧w.rangeAt g (off + k * sz) cs∧E w cs a U∧(∀ x∈U,x∈S)∧∀ y∈cs,y.oneCell'=true:=by
 obtain ⟨xs,T,h1,h2,h3,h4,h5⟩:=h;have hkl:=(List.getElem?_eq_some_iff.1 hk).1;obtain ⟨g,off,rfl,rfl,hg,hc⟩:=h1.cell (by omega);obtain ⟨U,he,hU⟩:=h2 k a hk;have hlen:=h1.len;have h6:(k + 1) * sz≤l.length * sz:=Nat.mul_le_mul_right _ hkl;rw [Nat.add_mul] at h6;refine ⟨g,off,chunk xs sz k,U,rfl,h3 g (by simp),hg,chunk_len hlen hkl,fun j v hj=>?_,he,hU,fun y hy=>h5 y ?_⟩
 ·have hjs:j < sz:=by have:=(List.getElem?_eq_some_iff.1 hj).1;rw [chunk_len hlen hkl] at this;exact this
  rw [Nat.add_assoc,hc _ (by omega),← chunk_get hjs,hj]
 ·unfold chunk at hy;exact List.mem_of_mem_drop (List.mem_of_mem_take hy)
end
def setFrom (xs:List Value) (j:Nat):List Value→List Value
 | []=>xs
 | c :: cs=>setFrom (xs.set j c) (j + 1) cs
theorem setFrom_out:∀ (cs:List Value) (xs:List Value) (j i:Nat),(i < j∨j + cs.length≤i)→(setFrom xs j cs)[i]?=xs[i]?
 | [],xs,j,i,_=>rfl
 | c :: cs,xs,j,i,h=>by
  simp only [List.length_cons] at h;rw [setFrom,setFrom_out cs _ _ _ (by omega),List.getElem?_set_ne (by omega)]
theorem setFrom_in:∀ (cs:List Value) (xs:List Value) (j i:Nat),i < cs.length→j + cs.length≤xs.length→(setFrom xs j cs)[j + i]?=cs[i]?
 | [],xs,j,i,h,_=>by simp at h
 | c :: cs,xs,j,i,h,hl=>by
  simp only [List.length_cons] at h hl;rw [setFrom]
  cases i with
  | zero =>
   rw [setFrom_out cs _ _ _ (by omega),Nat.add_zero,List.getElem?_set_self (by omega)];rfl
  | succ i =>
   have:=setFrom_in cs (xs.set j c) (j + 1) i (by omega) (by simp;omega);rw [show j + (i + 1)=j + 1 + i by omega,this];rfl
theorem setFrom_mem:∀ (cs:List Value) (xs:List Value) (j:Nat) (y:Value),y∈setFrom xs j cs→y∈xs∨y∈cs
 | [],xs,j,y,h=>.inl h
 | c :: cs,xs,j,y,h=>by
  rcases setFrom_mem cs _ _ _ h with h | h
  ·rcases List.mem_or_eq_of_mem_set h with h | rfl
   ·exact .inl h
   ·exact .inr (by simp)
  ·exact .inr (by simp [h])
section
variable {e:TypeId} {sz:Nat}
theorem Row.puts {g off m cap n:Nat} {T:List Nat}:∀ (cs:List Value) (w:World) (xs:List Value) (j:Nat),Row w (.slice (some ⟨g,off,none⟩) m cap) e sz n xs T→j + cs.length≤xs.length →
  Row (w.setCells g (off + j) cs) (.slice (some ⟨g,off,none⟩) m cap) e sz n (setFrom xs j cs) T∧Keeps T w (w.setCells g (off + j) cs)
 | [],w,xs,j,h,_=>⟨h,Keeps.refl _ _⟩
 | c :: cs,w,xs,j,h,hl=>by
  simp only [List.length_cons] at hl;obtain ⟨r1,r2⟩:=h.stored j (by omega) c;obtain ⟨r3,r4⟩:=Row.puts cs _ _ (j + 1) r1 (by simp;omega);exact ⟨r3,r2.trans r4 (fun x hx=>.inl hx)⟩
end
section
variable {α:Type} {E:World→List Value→α→List Nat→Prop} {sz:Nat} {w w':World} {l:List α} {S T:List Nat} {e:TypeId}
theorem GR.puts {g off m cap:Nat} (KE:Kept E) (h:GR E sz w (.slice (some ⟨g,off,none⟩) m cap) e l T S) (k:Nat) (hk:k < l.length) {cs:List Value} {a:α} {U:List Nat} (hl:cs.length=sz) (he:E w cs a U) (hU:∀ y∈U,y∉T) (h1:∀ y∈cs,y.oneCell'=true) :
  GR E sz (w.setCells g (off + k * sz) cs) (.slice (some ⟨g,off,none⟩) m cap) e (l.set k a) T (S ++ U)∧Keeps T w (w.setCells g (off + k * sz) cs)∧w.there g (off + k * sz) sz:=by
 obtain ⟨xs,h2,h3,h4,h5,h6⟩:=h;have hlen:=h2.len;have hks:(k + 1) * sz≤l.length * sz:=Nat.mul_le_mul_right _ hk;rw [Nat.add_mul] at hks;obtain ⟨r1,r2⟩:=Row.puts cs w xs (k * sz) h2 (by omega);obtain ⟨g',off',e1,rfl,hg,hc,hf⟩:=h2.cells (by omega);obtain ⟨rfl,rfl⟩:=by simpa using e1
 refine ⟨⟨setFrom xs (k * sz) cs,by rw [List.length_set];exact r1,?_,?_,?_,?_⟩,r2,fun j hj=>⟨?_,by rw [Nat.add_assoc];exact hf _⟩⟩
 ·intro i b hi
  by_cases ei:k=i
  ·subst ei;rw [List.getElem?_set_self hk] at hi
   cases hi;refine ⟨U,KE.keep ?_ r2 hU,fun y hy=>by simp [hy]⟩;have:chunk (setFrom xs (k * sz) cs) sz k=cs:=by
    apply List.ext_getElem?;intro j
    by_cases hj:j < sz
    ·rw [chunk_get hj,setFrom_in cs xs (k * sz) j (by omega) (by omega)]
    ·rw [List.getElem?_eq_none (by unfold chunk;rw [List.length_take];omega),List.getElem?_eq_none (by omega)]
   rw [this];exact he
  ·rw [List.getElem?_set_ne ei] at hi;obtain ⟨V,v1,v2⟩:=h3 i b hi;refine ⟨V,KE.keep ?_ r2 (fun y hy hT=>h5 y hT (v2 y hy)),fun y hy=>by simp [v2 y hy]⟩;have:chunk (setFrom xs (k * sz) cs) sz i=chunk xs sz i:=by
    apply List.ext_getElem?;intro j
    by_cases hj:j < sz
    ·rw [chunk_get hj,chunk_get hj,setFrom_out];rw [hl];rcases Nat.lt_or_gt_of_ne ei with hlt | hgt
     ·right
      have:(k + 1) * sz≤i * sz:=Nat.mul_le_mul_right _ hlt;rw [Nat.add_mul] at this;omega
     ·left
      have:(i + 1) * sz≤k * sz:=Nat.mul_le_mul_right _ hgt;rw [Nat.add_mul] at this;omega
    ·rw [List.getElem?_eq_none (by unfold chunk;rw [List.length_take];omega),List.getElem?_eq_none (by unfold chunk;rw [List.length_take];omega)]
   rw [this];exact v1
 ·intro y hy;have hsz:=r2.size;rcases List.mem_append.1 hy with h | h
  ·have:=h4 y h;omega
  ·have:=KE.lt he y h;omega
 ·intro y hy h;rcases List.mem_append.1 h with h | h
  ·exact h5 y hy h
  ·exact hU y h hy
 ·intro y hy;rcases setFrom_mem _ _ _ _ hy with h | h
  ·exact h6 y h
  ·exact h1 y h
 ·rw [Nat.add_assoc,hc _ (by omega),List.getElem?_eq_getElem (by omega)];rfl
end
section
variable {α:Type} {F:World→List Value→α→List Nat→Prop} {P:Program} {t e:TypeId} {sz bytes:Nat} {z:Value}
theorem step_gapps (EL:Elem P t e sz bytes z) (KE:Kept F) {w:World} {ops:Array Oper} {o:Oper} {a:Act} {K:Act→World→Prop} {Q:Exit→Act→World→Prop} {G:Prop} {s x:Operand}
  {v u:Value} {l r:List α} {T S S2:List Nat} (h:GR F sz w v e l T S) (hu:GV F sz w u r S2) (hd:∀ y∈S2,y∉T) (hb:(l.length + r.length) * bytes≤140737488355328)
  (hK:∀ ao cap w' T',GR F sz w' (.slice ao (l.length + r.length) cap) e (l ++ r) T' (S ++ S2)→Keeps T w w'→(∀ k∈T',k∈T∨w.heap.size≤k)→K (a.put o.dst (.slice ao (l.length + r.length) cap)) w')
  (hg:o.guard=none:=by rfl) (hop:o.op=Op.call { callee:=Callee.builtin Builtin.append,args:=#[s,x],argTypes:=#[t,t] }:=by rfl) (hs:a.eval s=v:=by rfl) (hx:a.eval x=u:=by rfl) :
  if Region.wanted o (yielded ops a.tmps)=true then Oper.wp P o a w K Q else G:=by
 obtain ⟨xs,h1,h2,h3,h4,h5⟩:=h;obtain ⟨ys,V,u1,u2,u3,u4,u5⟩:=hu;refine step_app EL h1 u1 u5 hb (fun ao cap w' T' r1 r2 r3=>hK ao cap w' T' ⟨xs ++ ys,by rw [List.length_append];exact r1,parts_app KE h1.len h2 u2 r2 (fun y hy hT=>h4 y hT hy) hd,?_,?_,?_⟩ r2 r3) hg hop hs hx
 ·intro y hy;have:=r2.size;rcases List.mem_append.1 hy with h | h
  ·have:=h3 y h;omega
  ·have:=u4 y h;omega
 ·intro y hy h;rcases r3 y hy with hT | hn
  ·rcases List.mem_append.1 h with h | h
   ·exact h4 y hT h
   ·exact hd y h hT
  ·rcases List.mem_append.1 h with h | h
   ·have:=h3 y h;omega
   ·have:=u4 y h;omega
 ·intro y hy;rcases List.mem_append.1 hy with h | h
  ·exact h5 y h
  ·exact u5 y h
theorem step_gapp1 (EL:Elem P t e sz bytes z) (KE:Kept F) {w:World} {ops:Array Oper} {o:Oper} {a:Act} {K:Act→World→Prop} {Q:Exit→Act→World→Prop} {G:Prop} {s x:Operand}
  {v:Value} {l:List α} {b:α} {ys:List Value} {bx:Nat} {T S U:List Nat} (h:GR F sz w v e l T S) (he:F w ys b U) (hy:ys.length=sz) (hd:∀ y∈U,y∉T) (h1:∀ y∈ys,y.oneCell'=true) (hb:(l.length + 1) * bytes≤140737488355328)
  (hK:∀ ao cap w' T',GR F sz w' (.slice ao (l.length + 1) cap) e (l ++ [b]) T' (S ++ U)→Keeps T w w'→(∀ k∈T',k∈T∨w.heap.size≤k)→K (a.put o.dst (.slice ao (l.length + 1) cap)) w')
  (hg:o.guard=none:=by rfl) (hop:o.op=Op.call { callee:=Callee.builtin Builtin.append,args:=#[s,x],argTypes:=#[t,t] }:=by rfl) (hs:a.eval s=v:=by rfl) (hx:a.eval x=.slice (some ⟨bx,0,none⟩) 1 1:=by rfl) (hbx:bx=w.heap.size:=by first | rfl | simp) :
  if Region.wanted o (yielded ops a.tmps)=true then Oper.wp P o a (w.alloc (.cells ys.toArray e)) K Q else G:=by
 obtain ⟨xs,g1,g2,g3,g4,g5⟩:=h;have hp:Parts F sz w ys [b] U:=fun i c hi=>by
  match i,hi with
  | 0,hi=>simp at hi;subst hi;exact ⟨U,by rw [chunk_one hy];exact he,fun x hx=>hx⟩
  | i + 1,hi=>simp at hi
 refine step_app1 EL (m:=1) g1 (by rw [hy,Nat.one_mul]) one_le_max h1 hb (fun ao cap w' T' r1 r2 r3=>hK ao cap w' T' ⟨xs ++ ys,by rw [List.length_append];exact r1,parts_app KE g1.len g2 hp r2 (fun y hy hT=>g4 y hT hy) hd,?_,?_,?_⟩ r2 r3) hg hop hs hx hbx
 ·intro y hy;have:=r2.size;rcases List.mem_append.1 hy with h | h
  ·have:=g3 y h;omega
  ·have:=KE.lt he y h;omega
 ·intro y hy h;rcases r3 y hy with hT | hn
  ·rcases List.mem_append.1 h with h | h
   ·exact g4 y hT h
   ·exact hd y h hT
  ·rcases List.mem_append.1 h with h | h
   ·have:=g3 y h;omega
   ·have:=KE.lt he y h;omega
 ·intro y hy;rcases List.mem_append.1 hy with h | h
  ·exact g5 y h
  ·exact h1 y h
theorem GV.unit {w:World} {b:Nat} {ys:List Value} {c:α} {U:List Nat} (hb:Blk w b ys e) (hy:ys.length=sz) (he:F w ys c U) (hU:∀ x∈U,x < w.heap.size) (h1:∀ y∈ys,y.oneCell'=true):GV F sz w (.slice (some ⟨b,0,none⟩) 1 1) [c] (b :: U):=by
 refine ⟨ys,[b],View.of_blk (cs:=ys) hb (by simp [hy]) (Nat.le_refl 1) one_le_max (fun j hj=>by simp),fun i d hi=>?_,by simp,fun x hx=>?_,h1⟩
 ·match i,hi with
  | 0,hi=>simp at hi;subst hi;exact ⟨U,by rw [chunk_one hy];exact he,fun x hx=>by simp [hx]⟩
  | i + 1,hi=>simp at hi
 ·rcases List.mem_cons.1 hx with rfl | hx
  ·exact hb.lt
  ·exact hU x hx
end
theorem Blk.newAt (w:World) (cs:List Value) (e:TypeId) (b:Nat) (hb:b=w.heap.size):Blk (w.alloc (.cells cs.toArray e)) b cs e:=by subst hb;exact Blk.new w cs e
section
variable {α:Type} {F:World→List Value→α→List Nat→Prop} {P:Program} {t e:TypeId} {sz bytes:Nat} {z:Value}
def App (F:World→List Value→α→List Nat→Prop) (sz:Nat) (e:TypeId) (w0 w:World) (v:Value) (l:List α) (T S:List Nat):Prop :=
 Keeps [] w0 w∧GR F sz w v e l T S∧∀ x∈T,w0.heap.size≤x
theorem App.lt {w0 w:World} {v:Value} {l:List α} {T S:List Nat} (h:App F sz e w0 w v l T S):∀ x∈T ++ S,x < w.heap.size:=h.2.1.gv.lt
def Lit0 (e:TypeId) (w0 w:World) (b:Nat):Prop:=Keeps [] w0 w∧Blk w b [] e∧w0.heap.size≤b
def Lit1 (e:TypeId) (w0 w:World) (b b0:Nat) (ys:List Value):Prop:=Blk w b ys e∧w0.heap.size≤b∧b≠b0
theorem GR.of_blk0 {w:World} {b:Nat} (h:Blk w b [] e):GR F sz w (.slice (some ⟨b,0,none⟩) 0 0) e [] [b] [] :=
 ⟨[],⟨by simp,_,0,rfl,Nat.le_refl _,by simp [maxLen],.inr ⟨b,0,[],rfl,rfl,h,by simp,by simp⟩⟩,fun k a h=>by simp at h,by simp,by simp,by simp⟩
theorem app_of {w0 W w':World} {v:Value} {l:List α} {b:Nat} {T S:List Nat} (h:Lit0 e w0 W b) (r:GR F sz w' v e l T S) (k:Keeps [b] W w') (s:∀ x∈T,x∈[b]∨W.heap.size≤x):App F sz e w0 w' v l T S:=by
 have hz:=h.1.size;refine ⟨h.1.trans k (fun x hx=>?_),r,fun x hx=>?_⟩
 ·simp at hx;subst hx;exact .inr h.2.2
 ·rcases s x hx with h1 | h1
  ·simp at h1;subst h1;exact h.2.2
  ·omega
theorem app_first (EL:Elem P t e sz bytes z) (KE:Kept F) {w0 W:World} {ops:Array Oper} {o:Oper} {a:Act} {K:Act→World→Prop} {Q:Exit→Act→World→Prop} {G:Prop} {s x:Operand}
  {u:Value} {l:List α} {b:Nat} {S:List Nat} (hL:Lit0 e w0 W b) (hu:GV F sz w0 u l S) (hb:l.length * bytes≤140737488355328)
  (hK:∀ ao cap w' T',App F sz e w0 w' (.slice ao l.length cap) l T' S→K (a.put o.dst (.slice ao l.length cap)) w')
  (hg:o.guard=none:=by rfl) (hop:o.op=Op.call { callee:=Callee.builtin Builtin.append,args:=#[s,x],argTypes:=#[t,t] }:=by rfl) (hs:a.eval s=.slice (some ⟨b,0,none⟩) 0 0:=by rfl) (hx:a.eval x=u:=by rfl) :
  if Region.wanted o (yielded ops a.tmps)=true then Oper.wp P o a W K Q else G:=by
 refine step_gapps EL KE (GR.of_blk0 hL.2.1) (hu.then KE hL.1) (fun y hy hm=>?_) (by simpa using hb) (fun ao cap w' T' r k s=>?_) hg hop hs hx
 ·simp at hm;subst hm;have:=hu.lt _ hy;have:=hL.2.2;omega
 ·simp only [List.length_nil,Nat.zero_add,List.nil_append] at r ⊢;exact hK ao cap w' T' (app_of hL r k s)
theorem app_first2 (EL:Elem P t e sz bytes z) (KE:Kept F) {w0 W:World} {ops:Array Oper} {o:Oper} {a:Act} {K:Act→World→Prop} {Q:Exit→Act→World→Prop} {G:Prop} {s x:Operand}
  {u:Value} {l:List α} {b eb:Nat} {ys:List Value} {c:α} {S U:List Nat} (hL:Lit0 e w0 W b) (hE:Lit1 e w0 W eb b ys) (hu:GV F sz w0 u l S) (he:F w0 ys c U) (hy:ys.length=sz) (h1:∀ y∈ys,y.oneCell'=true) (hb:l.length * bytes≤140737488355328)
  (hK:∀ ao cap w' T',(App F sz e w0 w' (.slice ao l.length cap) l T' S∧GV F sz w' (.slice (some ⟨eb,0,none⟩) 1 1) [c] (eb :: U)∧∀ y∈eb :: U,y∉T')→K (a.put o.dst (.slice ao l.length cap)) w')
  (hg:o.guard=none:=by rfl) (hop:o.op=Op.call { callee:=Callee.builtin Builtin.append,args:=#[s,x],argTypes:=#[t,t] }:=by rfl) (hs:a.eval s=.slice (some ⟨b,0,none⟩) 0 0:=by rfl) (hx:a.eval x=u:=by rfl) :
  if Region.wanted o (yielded ops a.tmps)=true then Oper.wp P o a W K Q else G:=by
 refine step_gapps EL KE (GR.of_blk0 hL.2.1) (hu.then KE hL.1) (fun y hy hm=>?_) (by simpa using hb) (fun ao cap w' T' r k s=>?_) hg hop hs hx
 ·simp at hm;subst hm;have:=hu.lt _ hy;have:=hL.2.2;omega
 ·simp only [List.length_nil,Nat.zero_add,List.nil_append] at r ⊢;have hA:=app_of hL r k s;refine hK ao cap w' T' ⟨hA,GV.unit (hE.1.keep k (by simpa using hE.2.2)) hy (KE.keep he hA.1 (by simp)) (fun x hx=>?_) h1,fun y hy hm=>?_⟩
  ·have:=KE.lt he x hx;have:=hA.1.size;omega
  ·rcases List.mem_cons.1 hy with rfl | hy
   ·have:=hE.1.lt;rcases s _ hm with h | h
    ·simp at h;exact hE.2.2 h
    ·omega
   ·have:=KE.lt he y hy;have:=hA.2.2 y hm;omega
theorem app_next (EL:Elem P t e sz bytes z) (KE:Kept F) {w0 w:World} {ops:Array Oper} {o:Oper} {a:Act} {K:Act→World→Prop} {Q:Exit→Act→World→Prop} {G:Prop} {s x:Operand}
  {v:Value} {l:List α} {c:α} {ys:List Value} {bx:Nat} {T S U:List Nat} (h:App F sz e w0 w v l T S) (he:F w0 ys c U) (hy:ys.length=sz) (h1:∀ y∈ys,y.oneCell'=true) (hb:(l.length + 1) * bytes≤140737488355328)
  (hK:∀ ao cap w' T',App F sz e w0 w' (.slice ao (l.length + 1) cap) (l ++ [c]) T' (S ++ U)→K (a.put o.dst (.slice ao (l.length + 1) cap)) w')
  (hg:o.guard=none:=by rfl) (hop:o.op=Op.call { callee:=Callee.builtin Builtin.append,args:=#[s,x],argTypes:=#[t,t] }:=by rfl) (hs:a.eval s=v:=by rfl) (hx:a.eval x=.slice (some ⟨bx,0,none⟩) 1 1:=by rfl) (hbx:bx=w.heap.size:=by first | rfl | simp) :
  if Region.wanted o (yielded ops a.tmps)=true then Oper.wp P o a (w.alloc (.cells ys.toArray e)) K Q else G :=
 step_gapp1 EL KE h.2.1 (KE.keep he h.1 (by simp)) hy (fun y hy hm=>by have:=KE.lt he y hy;have:=h.2.2 y hm;omega) h1 hb
  (fun ao cap w' T' r k s=>hK ao cap w' T' ⟨h.1.trans k (fun x hx=>.inr (h.2.2 x hx)),r,fun x hx=>by
   have:=h.1.size;rcases s x hx with h2 | h2
   ·exact h.2.2 x h2
   ·omega⟩) hg hop hs hx hbx
theorem app_next2 (EL:Elem P t e sz bytes z) (KE:Kept F) {w0 w:World} {ops:Array Oper} {o:Oper} {a:Act} {K:Act→World→Prop} {Q:Exit→Act→World→Prop} {G:Prop} {s x:Operand}
  {v u:Value} {l:List α} {c:α} {T S V:List Nat} (h:App F sz e w0 w v l T S∧GV F sz w u [c] V∧∀ y∈V,y∉T) (hb:(l.length + 1) * bytes≤140737488355328)
  (hK:∀ ao cap w' T',App F sz e w0 w' (.slice ao (l.length + 1) cap) (l ++ [c]) T' (S ++ V)→K (a.put o.dst (.slice ao (l.length + 1) cap)) w')
  (hg:o.guard=none:=by rfl) (hop:o.op=Op.call { callee:=Callee.builtin Builtin.append,args:=#[s,x],argTypes:=#[t,t] }:=by rfl) (hs:a.eval s=v:=by rfl) (hx:a.eval x=u:=by rfl) :
  if Region.wanted o (yielded ops a.tmps)=true then Oper.wp P o a w K Q else G :=
 step_gapps EL KE h.1.2.1 h.2.1 h.2.2 hb
  (fun ao cap w' T' r k s=>hK ao cap w' T' ⟨h.1.1.trans k (fun x hx=>.inr (h.1.2.2 x hx)),r,fun x hx=>by
   have:=h.1.1.size;rcases s x hx with h2 | h2
   ·exact h.1.2.2 x h2
   ·omega⟩) hg hop hs hx
theorem lits (w0:World) (e:TypeId) (ys:List Value) :
  Lit0 e w0 ((w0.alloc (.cells #[] e)).drew) w0.heap.size ∧
  (Lit0 e w0 (((w0.alloc (.cells #[] e)).alloc (.cells ys.toArray e)).drew) w0.heap.size∧Lit1 e w0 (((w0.alloc (.cells #[] e)).alloc (.cells ys.toArray e)).drew) (w0.heap.size + 1) w0.heap.size ys) ∧
  (Lit0 e w0 (((w0.alloc (.cells ys.toArray e)).alloc (.cells #[] e)).drew) (w0.heap.size + 1)∧Lit1 e w0 (((w0.alloc (.cells ys.toArray e)).alloc (.cells #[] e)).drew) w0.heap.size (w0.heap.size + 1) ys):=by
 have k1:Keeps [] w0 (w0.alloc (.cells #[] e)):=(Keeps.refl [] w0).alloc _;have k2:Keeps [] w0 (w0.alloc (.cells ys.toArray e)):=(Keeps.refl [] w0).alloc _;refine ⟨⟨k1.drew,Blk.newAt w0 [] _ _ rfl,Nat.le_refl _⟩,⟨⟨(k1.alloc _).drew,(Blk.newAt w0 [] _ _ rfl).alloc _,Nat.le_refl _⟩,Blk.newAt _ ys _ _ (by simp),by omega,by omega⟩,⟨(k2.alloc _).drew,Blk.newAt _ [] _ _ (by simp),by omega⟩,(Blk.newAt w0 ys _ _ rfl).alloc _,Nat.le_refl _,by omega⟩
end
section
variable {α:Type} {F:World→List Value→α→List Nat→Prop} {P:Program} {t e:TypeId} {sz bytes:Nat} {z:Value}
theorem wapp_first (EL:Elem P t e sz bytes z) (KE:Kept F) {w0 W:World} {ops:Array Oper} {rest:List Oper} {o:Oper} {a:Act} {Q:Exit→Act→World→Prop} {s x:Operand}
  {u:Value} {l:List α} {b:Nat} {S:List Nat} (hL:Lit0 e w0 W b) (hu:GV F sz w0 u l S) (hb:l.length * bytes≤140737488355328)
  (hK:∀ ao cap w' T',App F sz e w0 w' (.slice ao l.length cap) l T' S→wpList P ops Q rest (a.put o.dst (.slice ao l.length cap)) w')
  (hg:o.guard=none:=by rfl) (hop:o.op=Op.call { callee:=Callee.builtin Builtin.append,args:=#[s,x],argTypes:=#[t,t] }:=by rfl) (hs:a.eval s=.slice (some ⟨b,0,none⟩) 0 0:=by rfl) (hx:a.eval x=u:=by rfl) :
  wpList P ops Q (o :: rest) a W:=by
 refine wp_gapps EL KE (GR.of_blk0 hL.2.1) (hu.then KE hL.1) (fun y hy hm=>?_) (by simpa using hb) (fun ao cap w' T' r k s=>?_) hg hop hs hx
 ·simp at hm;subst hm;have:=hu.lt _ hy;have:=hL.2.2;omega
 ·simp only [List.length_nil,Nat.zero_add,List.nil_append] at r ⊢;exact hK ao cap w' T' (app_of hL r k s)
theorem lit0 (w0:World) (e:TypeId):Lit0 e w0 (w0.alloc (.cells #[] e)) w0.heap.size:=⟨(Keeps.refl [] w0).alloc _,Blk.newAt w0 [] _ _ rfl,Nat.le_refl _⟩
end
section
variable {α:Type} {E:World→List Value→α→List Nat→Prop} {w:World} {l:List α} {S:List Nat}
theorem GV.cap_le {sz:Nat} {ao:Option Addr} {m cap:Nat} (h:GV E sz w (.slice ao m cap) l S):l.length≤cap∧cap≤maxLen:=by
 obtain ⟨xs,T,⟨_,ao',cap',e,h1,h2,_⟩,_⟩:=h;simp at e;obtain ⟨_,rfl,rfl⟩:=e;exact ⟨h1,h2⟩
theorem GV.tail1 {g off cap:Nat} (h:GV E 1 w (.slice (some ⟨g,off,none⟩) l.length cap) l S) (h0:0 < l.length) :
  GV E 1 w (.slice (if cap=1 then some ⟨g,off,none⟩ else some ⟨g,off + 1,none⟩) (l.length - 1) (cap - 1)) l.tail S:=by
 obtain ⟨xs,T,h1,h2,h3,h4,h5⟩:=h;obtain ⟨hl,ao,cap',e,hnc,hcm,hr⟩:=h1;simp at e;obtain ⟨rfl,rfl⟩:=e;rw [Nat.mul_one] at hl;have hp:Parts E 1 w xs.tail l.tail S:=fun k a hk=>by
  rw [List.getElem?_tail] at hk;obtain ⟨U,u1,u2⟩:=h2 (k + 1) a hk;refine ⟨U,?_,u2⟩;have:chunk xs.tail 1 k=chunk xs 1 (k + 1):=by
   apply List.ext_getElem?;intro j
   by_cases hj:j < 1
   ·rw [chunk_get hj,chunk_get hj,List.getElem?_tail]
    congr 1;omega
   ·rw [List.getElem?_eq_none (by unfold chunk;rw [List.length_take];omega),List.getElem?_eq_none (by unfold chunk;rw [List.length_take];omega)]
  rw [this];exact u1
 have hm:∀ y∈xs.tail,y.oneCell'=true:=fun y hy=>h5 y (List.mem_of_mem_tail hy)
 rcases hr with ⟨hn,_⟩ | ⟨g',off',e2,rfl,hg,hc⟩
 ·omega
 obtain ⟨rfl,rfl⟩:=by simpa using e2
 by_cases h1:cap=1
 ·have hl1:l.length=1:=by omega
  refine ⟨xs.tail,[],⟨by simp [hl],some ⟨g,off,none⟩,cap - 1,by rw [if_pos h1];simp,by simp;omega,by omega,.inl ⟨by simp;omega,rfl⟩⟩,hp,by simp,h4,hm⟩
 ·refine ⟨xs.tail,[g],⟨by simp [hl],some ⟨g,off + 1,none⟩,cap - 1,by rw [if_neg h1];simp,by simp;omega,by omega,.inr ⟨g,off + 1,rfl,rfl,hg,fun j hj=>?_⟩⟩,hp,h3,h4,hm⟩;simp only [List.length_tail] at hj;rw [show off + 1 + j=off + (j + 1) by omega,hc (j + 1) (by omega),List.getElem?_tail]
theorem GV.first {g off cap:Nat} {x:α} {r:List α} (h:GV E 1 w (.slice (some ⟨g,off,none⟩) l.length cap) l S) (hl:l=x :: r) :
  ∃ c U,w.cell? ⟨g,off,none⟩=some c∧E w [c] x U∧(∀ y∈U,y∈S)∧g∈S∧g < w.heap.size:=by
 obtain ⟨g',off',cs,U,e,h1,h2,h3,h4,h5,h6⟩:=h.get (k:=0) (a:=x) (by rw [hl];rfl);obtain ⟨rfl,rfl⟩:=by simpa using e
 match cs,h3 with
 | [c],_=>exact ⟨c,U,by have:=h4 0 (by omega);simpa using this,h5,h6,h1,h2⟩
end
section
variable {P:Program} {ops:Array Oper} {Q:Exit→Act→World→Prop} {md:Region.Mode} {S:World→Prop} {m:Nat}
def Goes (P:Program) (md:Region.Mode) (ops:Array Oper) (Q:Exit→Act→World→Prop) (S:World→Prop) (m:Nat):Nat→Array Bool→Act→World→Prop
 | 0,listed,a,w=>Region.ready md ops listed=[]∧Q .normal a w
 | n + 1,listed,a,w=>(Region.ready md ops listed=[]→Q .normal a w) ∧
  ∀ i∈Region.ready md ops listed,wpOp P ops Q i (fun a' w'=>(i=m∨S w')∧Goes P md ops Q S m n (listed.setIfInBounds i true) a' w') a w
theorem Goes.any:∀ (n:Nat) (listed:Array Bool) (a:Act) (w:World),Goes P md ops Q S m n listed a w→wpAny P md ops Q n listed a w
 | 0,_,_,_,h=>h
 | n + 1,_,_,_,h=>⟨h.1,fun i hi=>wpOp_mono (fun a' w' h'=>Goes.any n _ a' w' h'.2) (h.2 i hi)⟩
def waitsFor (md:Region.Mode) (ops:Array Oper) (m i:Nat):Bool:=match ops[m]? with
 | some o=>o.after.any (fun e=>e.on == i && Region.binds md e)
 | none=>false
theorem not_ready_yet {i:Nat} {oj:Oper} {listed:Array Bool} (hr:i∈Region.ready md ops listed) (hall:∀ e∈oj.after,Region.binds md e=true→listed.getD e.on false=true):∀ e∈oj.after,Region.binds md e=true→e.on≠i:=fun e he hb heq=>by
 have h1:=hall e he hb;have h0:=(mem_ready.1 hr).1;rw [heq] at h1
 by_cases hl:i < listed.size
 ·simp [hl] at h0 h1;rw [h0] at h1;cases h1
 ·simp [Array.getElem?_eq_none (Nat.le_of_not_lt hl)] at h1
theorem Goes.first {i:Nat} {oi:Oper} {v:Value} (hi:ops[i]?=some oi) (hsel:∀ (j:Nat) (o:Oper) cs b,ops[j]?=some o→o.op≠.select cs b) (hQ:∀ c a w,Q (.panic c) (a.put oi.dst v) w→Q (.panic c) a w) (hm:waitsFor md ops m i=true) :
  ∀ (n:Nat) (listed:Array Bool) (a:Act) (w:World),(∀ (j:Nat) oj,ops[j]?=some oj→j≠i→listed.getD j true=false→(∀ e∈oj.after,Region.binds md e=true→e.on≠i)→oi.apart ops oj=true) →
   i∈Region.ready md ops listed→YieldsIf P ops S oi v a→S w→Goes P md ops Q S m n (listed.setIfInBounds i true) (a.put oi.dst v) w→Goes P md ops Q S m (n + 1) listed a w
 | n,listed,a,w,hfree,hr,hy,hS,H=>by
  refine ⟨fun h=>(by rw [h] at hr;cases hr),fun j hj=>?_⟩
  by_cases hji:j=i
  ·subst hji;exact hy.wpOp hi hS ⟨.inr hS,H⟩
  ·cases n with
   | zero =>
    have:=ready_mono hj hji;rw [H.1] at this
    cases this
   | succ n =>
    obtain ⟨hjun,oj,hoj,hall⟩:=mem_ready.1 hj;have hno:=not_ready_yet hr hall;have hjm:j≠m:=fun e=>by
     subst e;unfold waitsFor at hm;rw [hoj] at hm;obtain ⟨x,hx,hp⟩:=Array.any_eq_true'.1 hm;simp only [Bool.and_eq_true,beq_iff_eq] at hp;exact hno x hx hp.2 hp.1
    have h2:=wpOp_putIf hoj (hfree j oj hoj hji hjun hno) (fun cs b=>hsel i oi cs b hi) (fun cs b=>hsel j oj cs b hoj) hQ hy (H.2 j (ready_mono hj hji));have hr2:i∈Region.ready md ops (listed.setIfInBounds j true):=ready_mono hr (Ne.symm hji);refine wpOp_mono (fun a' w' h3=>?_) h2;have hcomm:=Array.setIfInBounds_comm (xs:=listed) true true hji;have h4:S w':=h3.2.1.resolve_left hjm;exact ⟨.inr h4,Goes.first hi hsel hQ hm n (listed.setIfInBounds j true) a' w' (fun k ok hk hki hun hno=>by
     refine hfree k ok hk hki ?_ hno
     by_cases hjk:j=k
     ·subst hjk;exact hjun
     ·rw [getD_set_ne true hjk] at hun;exact hun) hr2 h3.1 h4 (by rw [hcomm];exact h3.2.2)⟩
theorem Goes.take (i:Nat) {oi:Oper} {v:Value} {n:Nat} {listed:Array Bool} {a:Act} {w:World} (hi:ops[i]?=some oi) (hs:Region.noSelect ops=true) (hf:Region.free md ops listed i=true) (hr:(Region.ready md ops listed).contains i=true) (hm:waitsFor md ops m i=true)
  (hQ:∀ c a w,Q (.panic c) (a.put oi.dst v) w→Q (.panic c) a w) (hS:S w) (hy:YieldsIf P ops S oi v a) (h:Goes P md ops Q S m n (listed.setIfInBounds i true) (a.put oi.dst v) w):Goes P md ops Q S m (n + 1) listed a w :=
 Goes.first hi (Region.noSelect_spec hs) hQ hm n listed a w (Region.free_spec hi hf) (by simpa using hr) hy hS h
theorem Goes.one (i:Nat) {o:Oper} {n:Nat} {listed:Array Bool} {a:Act} {w:World} (hr:Region.ready md ops listed=[i]) (ho:ops[i]?=some o)
  (h:∀ K':Act→World→Prop,Shut (∀ a w,S w→(S w→Goes P md ops Q S m n (listed.setIfInBounds i true) a w)→K' a w)→if Region.wanted o (yielded ops a.tmps)=true then Oper.wp P o a w K' Q else K' (a.put o.dst undef) w):Goes P md ops Q S m (n + 1) listed a w :=
 ⟨fun h0=>(by rw [hr] at h0;cases h0),fun j hj=>by
  rw [hr] at hj;simp at hj;subst hj;exact wpOp_step ho (fun K' hK=>h K' (fun a w hS hW=>hK a w ⟨.inr hS,hW hS⟩))⟩
theorem Goes.two (i j:Nat) {o p:Oper} {n:Nat} {listed:Array Bool} {a:Act} {w:World} (hr:Region.ready md ops listed=[i,j]) (ho:ops[i]?=some o) (hp:ops[j]?=some p)
  (h:∀ K':Act→World→Prop,Shut (∀ a w,S w→(S w→Goes P md ops Q S m n (listed.setIfInBounds i true) a w)→K' a w)→if Region.wanted o (yielded ops a.tmps)=true then Oper.wp P o a w K' Q else K' (a.put o.dst undef) w)
  (h2:∀ K':Act→World→Prop,Shut (∀ a w,S w→(S w→Goes P md ops Q S m n (listed.setIfInBounds j true) a w)→K' a w)→if Region.wanted p (yielded ops a.tmps)=true then Oper.wp P p a w K' Q else K' (a.put p.dst undef) w):Goes P md ops Q S m (n + 1) listed a w :=
 ⟨fun h0=>(by rw [hr] at h0;cases h0),fun k hk=>by
  rw [hr] at hk;simp at hk;rcases hk with rfl | rfl
  ·exact wpOp_step ho (fun K' hK=>h K' (fun a w hS hW=>hK a w ⟨.inr hS,hW hS⟩))
  ·exact wpOp_step hp (fun K' hK=>h2 K' (fun a w hS hW=>hK a w ⟨.inr hS,hW hS⟩))⟩
theorem Goes.last {o:Oper} {n:Nat} {listed:Array Bool} {a:Act} {w:World} (hr:Region.ready md ops listed=[m]) (hl:Region.ready md ops (listed.setIfInBounds m true)=[]) (ho:ops[m]?=some o)
  (h:∀ K':Act→World→Prop,Shut (∀ a w,Q .normal a w→K' a w)→if Region.wanted o (yielded ops a.tmps)=true then Oper.wp P o a w K' Q else K' (a.put o.dst undef) w):Goes P md ops Q S m (n + 1) listed a w :=
 ⟨fun h0=>(by rw [hr] at h0;cases h0),fun j hj=>by
  rw [hr] at hj;simp at hj;subst hj;refine wpOp_step ho (fun K' hK=>h K' (fun a w hq=>hK a w ⟨.inl rfl,?_⟩))
  cases n with
  | zero=>exact ⟨hl,hq⟩
  | succ n=>exact ⟨fun _=>hq,fun k hk=>by rw [hl] at hk;cases hk⟩⟩
theorem Goes.begin (S:World→Prop) (m:Nat) {id:Nat} {a:Act} {w:World} (hm:P.follows .mixedOrders=true) (h:Goes P .any ops Q S m ops.size (Array.replicate ops.size false) a w.drew):(Code.region id ops true).wp P Q a w :=
 wp_region_any hm (Goes.any _ _ _ _ h)
end
open Go.RowKit
section
variable {w w':World} {v:Value} {es e:TypeId} {ll:List (List Int)} {T S:List Nat} {Us:List (List Nat)}
end
open Go.RowKit
def rawE (w:World) (cs:List Value) (n:Int) (U:List Nat):Prop:=cs=[.int .i64 n]∧U=[]
theorem rawE_kept:Kept rawE:=⟨fun h _ _=>h,fun h x hx=>by obtain ⟨_,rfl⟩:=h;simp at hx⟩
open Go.RowKit
namespace Fl
inductive A where
 | v (x:Value)
 | r (sz:Nat) (l:List (List A))
mutual
def RA (ok:Nat→Prop) (w:World):A→Value→Prop
 | .v y,x=>x=y∧y.oneCell'=true
 | .r sz l,x=>∃ ao cap,x=.slice ao l.length cap∧l.length≤cap∧cap≤maxLen∧(l=[]∨∃ g off,ao=some ⟨g,off,none⟩∧ok g∧g < w.heap.size∧RL ok w l g off sz)
def RL (ok:Nat→Prop) (w:World):List (List A)→Nat→Nat→Nat→Prop
 | [],_,_,_=>True
 | cs :: l,g,off,sz=>(∃ vs:List Value,vs.length=sz∧w.rangeAt g off vs∧RC ok w cs vs)∧RL ok w l g (off + sz) sz
def RC (ok:Nat→Prop) (w:World):List A→List Value→Prop
 | [],vs=>vs=[]
 | a :: cs,vs=>∃ x xs,vs=x :: xs∧RA ok w a x∧RC ok w cs xs
end
def Mon (ok ok':Nat→Prop) (w w':World):Prop:=w.heap.size≤w'.heap.size∧∀ g,g < w.heap.size→ok g→ok' g∧w'.heap[g]?=w.heap[g]?
theorem Mon.refl (ok:Nat→Prop) (w:World):Mon ok ok w w:=⟨Nat.le_refl _,fun g _ h=>⟨h,rfl⟩⟩
theorem Mon.of_keeps {ok ok':Nat→Prop} {S:List Nat} {w w':World} (k:Keeps S w w') (h:∀ g,g < w.heap.size→ok g→ok' g∧g∉S):Mon ok ok' w w' :=
 ⟨k.size,fun g hg ho=>⟨(h g hg ho).1,k.block g hg (h g hg ho).2⟩⟩
theorem rangeAt_of_block {w w':World} {g off:Nat} {vs:List Value} (h:w.rangeAt g off vs) (e:w'.heap[g]?=w.heap[g]?):w'.rangeAt g off vs:=fun j v hj=>by
 rw [World.cell?_of_block (w:=w) e];exact h j v hj
mutual
theorem RA.mon {ok ok':Nat→Prop} {w w':World} (m:Mon ok ok' w w'):∀ (a:A) (x:Value),RA ok w a x→RA ok' w' a x
 | .v y,x,h=>by unfold RA at h ⊢;exact h
 | .r sz l,x,h=>by
  unfold RA at h ⊢;obtain ⟨ao,cap,h1,h2,h3,h4⟩:=h;refine ⟨ao,cap,h1,h2,h3,?_⟩;rcases h4 with h4 | ⟨g,off,h4,h5,h6,h7⟩
  ·exact .inl h4
  ·exact .inr ⟨g,off,h4,(m.2 g h6 h5).1,Nat.lt_of_lt_of_le h6 m.1,RL.mon m l g off sz (m.2 g h6 h5).2 h7⟩
theorem RL.mon {ok ok':Nat→Prop} {w w':World} (m:Mon ok ok' w w'):∀ (l:List (List A)) (g off sz:Nat),w'.heap[g]?=w.heap[g]?→RL ok w l g off sz→RL ok' w' l g off sz
 | [],_,_,_,_,_=>by unfold RL;trivial
 | cs :: l,g,off,sz,e,h=>by
  unfold RL at h ⊢;obtain ⟨⟨vs,h1,h2,h3⟩,h4⟩:=h;exact ⟨⟨vs,h1,rangeAt_of_block h2 e,RC.mon m cs vs h3⟩,RL.mon m l g (off + sz) sz e h4⟩
theorem RC.mon {ok ok':Nat→Prop} {w w':World} (m:Mon ok ok' w w'):∀ (cs:List A) (vs:List Value),RC ok w cs vs→RC ok' w' cs vs
 | [],vs,h=>by unfold RC at h ⊢;exact h
 | a :: cs,vs,h=>by
  unfold RC at h ⊢;obtain ⟨x,xs,h1,h2,h3⟩:=h;exact ⟨x,xs,h1,RA.mon m a x h2,RC.mon m cs xs h3⟩
end
section
variable {ok:Nat→Prop} {w:World}
theorem RA.one {a:A} {x:Value} (h:RA ok w a x):x.oneCell'=true:=by
 cases a with
 | v y=>unfold RA at h;obtain ⟨rfl,h⟩:=h;exact h
 | r sz l=>unfold RA at h;obtain ⟨ao,cap,rfl,_⟩:=h;rfl
theorem RC.len:∀ {cs:List A} {vs:List Value},RC ok w cs vs→vs.length=cs.length
 | [],vs,h=>by unfold RC at h;simp [h]
 | a :: cs,vs,h=>by unfold RC at h;obtain ⟨x,xs,rfl,_,h⟩:=h;simp [RC.len h]
theorem RC.one:∀ {cs:List A} {vs:List Value},RC ok w cs vs→∀ v∈vs,v.oneCell'=true
 | [],vs,h=>by unfold RC at h;simp [h]
 | a :: cs,vs,h=>by
  unfold RC at h;obtain ⟨x,xs,rfl,h1,h⟩:=h;intro v hv;rcases List.mem_cons.1 hv with rfl | hv
  ·exact h1.one
  ·exact h.one v hv
theorem RC.nil:RC ok w [] []:=by unfold RC;rfl
theorem RC.cons {a:A} {x:Value} {cs:List A} {xs:List Value} (h:RA ok w a x) (k:RC ok w cs xs):RC ok w (a :: cs) (x :: xs):=by unfold RC;exact ⟨x,xs,rfl,h,k⟩
theorem RC.get:∀ {cs:List A} {vs:List Value} (k:Nat) {a:A},RC ok w cs vs→cs[k]?=some a→∃ x,vs[k]?=some x∧RA ok w a x
 | [],vs,k,a,h,e=>by simp at e
 | b :: cs,vs,0,a,h,e=>by
  unfold RC at h;obtain ⟨x,xs,rfl,h1,h⟩:=h;simp at e;subst e;exact ⟨x,rfl,h1⟩
 | b :: cs,vs,k + 1,a,h,e=>by
  unfold RC at h;obtain ⟨x,xs,rfl,h1,h⟩:=h;simp at e;simpa using RC.get k h e
theorem RC.set:∀ {cs:List A} {vs:List Value} (k:Nat) {a:A} {x:Value},RC ok w cs vs→RA ok w a x→RC ok w (cs.set k a) (vs.set k x)
 | [],vs,k,a,x,h,e=>by unfold RC at h;subst h;simp [RC.nil]
 | b :: cs,vs,0,a,x,h,e=>by
  unfold RC at h;obtain ⟨y,ys,rfl,h1,h⟩:=h;exact RC.cons e h
 | b :: cs,vs,k + 1,a,x,h,e=>by
  unfold RC at h;obtain ⟨y,ys,rfl,h1,h⟩:=h;exact RC.cons h1 (RC.set k h e)
theorem RC.app:∀ {cs ds:List A} {vs us:List Value},RC ok w cs vs→RC ok w ds us→RC ok w (cs ++ ds) (vs ++ us)
 | [],ds,vs,us,h,k=>by unfold RC at h;subst h;exact k
 | a :: cs,ds,vs,us,h,k=>by
  unfold RC at h;obtain ⟨x,xs,rfl,h1,h⟩:=h;exact RC.cons h1 (RC.app h k)
theorem RC.drop:∀ (n:Nat) {cs:List A} {vs:List Value},RC ok w cs vs→RC ok w (cs.drop n) (vs.drop n)
 | 0,cs,vs,h=>h
 | n + 1,[],vs,h=>by unfold RC at h;subst h;exact RC.nil
 | n + 1,a :: cs,vs,h=>by
  unfold RC at h;obtain ⟨x,xs,rfl,h1,h⟩:=h;exact RC.drop n h
theorem RC.take:∀ (n:Nat) {cs:List A} {vs:List Value},RC ok w cs vs→RC ok w (cs.take n) (vs.take n)
 | 0,cs,vs,h=>by simpa using RC.nil
 | n + 1,[],vs,h=>by unfold RC at h;subst h;exact RC.nil
 | n + 1,a :: cs,vs,h=>by
  unfold RC at h;obtain ⟨x,xs,rfl,h1,h⟩:=h;exact RC.cons h1 (RC.take n h)
theorem RL.get:∀ {l:List (List A)} {g off sz:Nat} (k:Nat) {cs:List A},RL ok w l g off sz→l[k]?=some cs→∃ vs:List Value,vs.length=sz∧w.rangeAt g (off + k * sz) vs∧RC ok w cs vs
 | [],g,off,sz,k,cs,h,e=>by simp at e
 | c :: l,g,off,sz,0,cs,h,e=>by
  unfold RL at h;simp at e;subst e;simpa using h.1
 | c :: l,g,off,sz,k + 1,cs,h,e=>by
  unfold RL at h;simp at e;have:=RL.get k h.2 e;rw [show off + (k + 1) * sz=off + sz + k * sz by rw [Nat.add_mul];omega];exact this
theorem RL.drop:∀ {l:List (List A)} {g off sz:Nat} (n:Nat),RL ok w l g off sz→RL ok w (l.drop n) g (off + n * sz) sz
 | l,g,off,sz,0,h=>by simpa using h
 | [],g,off,sz,n + 1,h=>by simp;unfold RL;trivial
 | c :: l,g,off,sz,n + 1,h=>by
  unfold RL at h;have:=RL.drop n h.2;rw [show off + (n + 1) * sz=off + sz + n * sz by rw [Nat.add_mul];omega];exact this
theorem RL.take:∀ {l:List (List A)} {g off sz:Nat} (n:Nat),RL ok w l g off sz→RL ok w (l.take n) g off sz
 | l,g,off,sz,0,h=>by simp;unfold RL;trivial
 | [],g,off,sz,n + 1,h=>by simp;unfold RL;trivial
 | c :: l,g,off,sz,n + 1,h=>by
  unfold RL at h;simp only [List.take_succ_cons];unfold RL;exact ⟨h.1,RL.take n h.2⟩
end
inductive D where
 | c (a:A)
 | agg (cs:List A)
 | tup (l:List D)
 | el (cs:List A) (o:Nat)
 | ow (v:Value) (sz k o:Nat)
 | any
mutual
def RD (ok:Nat→Prop) (w:World):D→Value→Prop
 | .c a,x=>RA ok w a x
 | .agg cs,x=>∃ vs:List Value,x=.agg vs.toArray∧RC ok w cs vs
 | .tup l,x=>∃ vs:List Value,x=.tuple vs.toArray∧RDs ok w l vs
 | .el cs o,x=>∃ g off,∃ vs:List Value,x=.pointer (some ⟨g,off + o,none⟩)∧ok g∧g < w.heap.size∧w.rangeAt g off vs∧RC ok w cs vs
 | .ow v sz k o,x=>∃ g off n cap,v=.slice (some ⟨g,off,none⟩) n cap∧x=.pointer (some ⟨g,off + k * sz + o,none⟩)
 | .any,_=>True
def RDs (ok:Nat→Prop) (w:World):List D→List Value→Prop
 | [],vs=>vs=[]
 | d :: l,vs=>∃ x xs,vs=x :: xs∧RD ok w d x∧RDs ok w l xs
end
mutual
theorem RD.mon {ok ok':Nat→Prop} {w w':World} (m:Mon ok ok' w w'):∀ (d:D) (x:Value),RD ok w d x→RD ok' w' d x
 | .c a,x,h=>by unfold RD at h ⊢;exact RA.mon m a x h
 | .agg cs,x,h=>by unfold RD at h ⊢;obtain ⟨vs,h1,h2⟩:=h;exact ⟨vs,h1,RC.mon m cs vs h2⟩
 | .tup l,x,h=>by unfold RD at h ⊢;obtain ⟨vs,h1,h2⟩:=h;exact ⟨vs,h1,RDs.mon m l vs h2⟩
 | .el cs o,x,h=>by
  unfold RD at h ⊢;obtain ⟨g,off,vs,h1,h2,h3,h4,h5⟩:=h;exact ⟨g,off,vs,h1,(m.2 g h3 h2).1,Nat.lt_of_lt_of_le h3 m.1,rangeAt_of_block h4 (m.2 g h3 h2).2,RC.mon m cs vs h5⟩
 | .ow v sz k o,x,h=>by unfold RD at h ⊢;exact h
 | .any,x,h=>by unfold RD;trivial
theorem RDs.mon {ok ok':Nat→Prop} {w w':World} (m:Mon ok ok' w w'):∀ (l:List D) (vs:List Value),RDs ok w l vs→RDs ok' w' l vs
 | [],vs,h=>by unfold RDs at h ⊢;exact h
 | d :: l,vs,h=>by
  unfold RDs at h ⊢;obtain ⟨x,xs,h1,h2,h3⟩:=h;exact ⟨x,xs,h1,RD.mon m d x h2,RDs.mon m l xs h3⟩
end
theorem RDs.nil {ok:Nat→Prop} {w:World}:RDs ok w [] []:=by unfold RDs;rfl
theorem RDs.cons {ok:Nat→Prop} {w:World} {d:D} {x:Value} {l:List D} {xs:List Value} (h:RD ok w d x) (k:RDs ok w l xs):RDs ok w (d :: l) (x :: xs):=by unfold RDs;exact ⟨x,xs,rfl,h,k⟩
theorem RDs.len {ok:Nat→Prop} {w:World}:∀ {l:List D} {vs:List Value},RDs ok w l vs→vs.length=l.length
 | [],vs,h=>by unfold RDs at h;simp [h]
 | a :: cs,vs,h=>by unfold RDs at h;obtain ⟨x,xs,rfl,_,h⟩:=h;simp [RDs.len h]
theorem RDs.get {ok:Nat→Prop} {w:World}:∀ {l:List D} {vs:List Value} (k:Nat) {d:D},RDs ok w l vs→l[k]?=some d→∃ x,vs[k]?=some x∧RD ok w d x
 | [],vs,k,a,h,e=>by simp at e
 | b :: cs,vs,0,a,h,e=>by
  unfold RDs at h;obtain ⟨x,xs,rfl,h1,h⟩:=h;simp at e;subst e;exact ⟨x,rfl,h1⟩
 | b :: cs,vs,k + 1,a,h,e=>by
  unfold RDs at h;obtain ⟨x,xs,rfl,h1,h⟩:=h;simp at e;simpa using RDs.get k h e
def vfoot:Value→List Nat
 | .slice (some a) _ _=>[a.block]
 | _=>[]
def RX (ok:Nat→Prop) (w:World) (sz:Nat):List (List A)→List Value→Prop
 | [],xs=>xs=[]
 | cs :: l,xs=>∃ vs ys,xs=vs ++ ys∧vs.length=sz∧RC ok w cs vs∧RX ok w sz l ys
inductive Res where
 | box (b:Nat) (t:TypeId) (cs:List A)
 | row (v:Value) (e:TypeId) (sz:Nat) (l:List (List A))
 | obj (T:List Nat) (Φ:World→Prop)
def Res.foot:Res→List Nat
 | .box b _ _=>[b]
 | .row v _ _ _=>vfoot v
 | .obj T _=>T
def Res.holds (ok:Nat→Prop) (w:World):Res→Prop
 | .box b t cs=>∃ vs,Blk w b vs t∧RC ok w cs vs
 | .row v e sz l=>∃ xs,Row w v e sz l.length xs (vfoot v)∧RX ok w sz l xs
 | .obj T Φ=>(∀ x∈T,x < w.heap.size)∧∀ w' S,Keeps S w w'→(∀ x∈T,x∉S)→Φ w'
theorem RX.mon {ok ok':Nat→Prop} {w w':World} (m:Mon ok ok' w w') {sz:Nat}:∀ (l:List (List A)) (xs:List Value),RX ok w sz l xs→RX ok' w' sz l xs
 | [],xs,h=>h
 | cs :: l,xs,h=>by
  obtain ⟨vs,ys,h1,h2,h3,h4⟩:=h;exact ⟨vs,ys,h1,h2,RC.mon m cs vs h3,RX.mon m l ys h4⟩
theorem RX.one {ok:Nat→Prop} {w:World} {sz:Nat}:∀ {l:List (List A)} {xs:List Value},RX ok w sz l xs→∀ v∈xs,v.oneCell'=true
 | [],xs,h=>by unfold RX at h;simp [h]
 | cs :: l,xs,h=>by
  obtain ⟨vs,ys,rfl,h2,h3,h4⟩:=h;intro v hv;rcases List.mem_append.1 hv with hv | hv
  ·exact h3.one v hv
  ·exact h4.one v hv
theorem RX.app {ok:Nat→Prop} {w:World} {sz:Nat}:∀ {l m:List (List A)} {xs ys:List Value},RX ok w sz l xs→RX ok w sz m ys→RX ok w sz (l ++ m) (xs ++ ys)
 | [],m,xs,ys,h,k=>by unfold RX at h;subst h;exact k
 | cs :: l,m,xs,ys,h,k=>by
  obtain ⟨vs,us,rfl,h2,h3,h4⟩:=h;exact ⟨vs,us ++ ys,by simp,h2,h3,RX.app h4 k⟩
theorem RX.len {ok:Nat→Prop} {w:World} {sz:Nat}:∀ {l:List (List A)} {xs:List Value},RX ok w sz l xs→xs.length=l.length * sz
 | [],xs,h=>by unfold RX at h;simp [h]
 | cs :: l,xs,h=>by
  obtain ⟨vs,us,rfl,h2,h3,h4⟩:=h;have:=RX.len h4;simp [this,h2,Nat.add_mul,Nat.add_comm]
theorem RX.get {ok:Nat→Prop} {w:World} {sz:Nat}:∀ {l:List (List A)} {xs:List Value} (k:Nat) {cs:List A},RX ok w sz l xs→l[k]?=some cs→∃ vs:List Value,vs.length=sz∧(∀ j,j < sz→xs[k * sz + j]?=vs[j]?)∧RC ok w cs vs
 | [],xs,k,cs,h,e=>by simp at e
 | c :: l,xs,0,cs,h,e=>by
  obtain ⟨vs,ys,rfl,h2,h3,h4⟩:=h;simp at e;subst e;exact ⟨vs,h2,fun j hj=>by rw [Nat.zero_mul,Nat.zero_add,List.getElem?_append_left (by omega)],h3⟩
 | c :: l,xs,k + 1,cs,h,e=>by
  obtain ⟨vs,ys,rfl,h2,h3,h4⟩:=h;simp at e;obtain ⟨us,g1,g2,g3⟩:=RX.get k h4 e;exact ⟨us,g1,fun j hj=>by
   rw [← g2 j hj,List.getElem?_append_right (by rw [h2,Nat.add_mul];omega),h2]
   congr 1;rw [Nat.add_mul];omega,g3⟩
theorem RX.set {ok:Nat→Prop} {w:World} {sz:Nat}:∀ {l:List (List A)} {xs:List Value} (k o:Nat) {cs:List A} {a:A} {x:Value},RX ok w sz l xs→l[k]?=some cs→o < sz→RA ok w a x→RX ok w sz (l.set k (cs.set o a)) (xs.set (k * sz + o) x)
 | [],xs,k,o,cs,a,x,h,e,ho,ha=>by simp at e
 | c :: l,xs,0,o,cs,a,x,h,e,ho,ha=>by
  obtain ⟨vs,ys,rfl,h2,h3,h4⟩:=h;simp at e;subst e;refine ⟨vs.set o x,ys,?_,by simpa using h2,RC.set o h3 ha,h4⟩;rw [Nat.zero_mul,Nat.zero_add,List.set_append_left _ _ (by omega)]
 | c :: l,xs,k + 1,o,cs,a,x,h,e,ho,ha=>by
  obtain ⟨vs,ys,rfl,h2,h3,h4⟩:=h;simp at e;refine ⟨vs,ys.set (k * sz + o) x,?_,h2,h3,RX.set k o h4 e ho ha⟩;rw [List.set_append_right _ _ (by rw [h2,Nat.add_mul];omega),h2]
  congr 2;rw [Nat.add_mul];omega
theorem Res.holds.mon {ok ok':Nat→Prop} {w w':World} {S:List Nat} (k:Keeps S w w') (m:Mon ok ok' w w'):∀ {r:Res},r.holds ok w→(∀ x∈r.foot,x∉S)→r.holds ok' w'
 | .box b t cs,h,hn=>by
  obtain ⟨vs,h1,h2⟩:=h;exact ⟨vs,h1.keep k (hn b (by simp [Res.foot])),RC.mon m cs vs h2⟩
 | .row v e sz l,h,hn=>by
  obtain ⟨xs,h1,h2⟩:=h;exact ⟨xs,h1.keep k hn,RX.mon m l xs h2⟩
 | .obj T Φ,h,hn=>by
  exact ⟨fun x hx=>Nat.lt_of_lt_of_le (h.1 x hx) k.size,fun w'' S' k' hS'=>h.2 w'' (S ++ S') ((k.mono (fun x hx=>.inl (List.mem_append_left S' hx))).trans k' (fun x hx=>.inl (List.mem_append_right S hx))) (fun x hx hm=>by
   rcases List.mem_append.1 hm with hm | hm
   ·exact hn x hx hm
   ·exact hS' x hx hm)⟩
theorem Res.holds.lt {ok:Nat→Prop} {w:World}:∀ {r:Res},r.holds ok w→∀ x∈r.foot,x < w.heap.size
 | .box b t cs,h,x,hx=>by
  obtain ⟨vs,h1,h2⟩:=h;simp [Res.foot] at hx;subst hx;exact h1.lt
 | .row v e sz l,h,x,hx=>by obtain ⟨xs,h1,h2⟩:=h;exact h1.lt x hx
 | .obj T Φ,h,x,hx=>h.1 x hx
def foots (L:List Res):List Nat:=L.flatMap Res.foot
theorem mem_foots {L:List Res} {x:Nat}:x∈foots L↔∃ r∈L,x∈r.foot:=by simp [foots]
end Fl
open Go.RowKit
namespace Fl
def ndOp (o:Oper):Bool:=match o.op with | .defer _=>false | _=>true
theorem ndOp.ne {o:Oper} (h:ndOp o=true):∀ c,o.op≠.defer c:=fun c e=>by
 unfold ndOp at h;rw [e] at h;cases h
abbrev wR (r:Option Nat):Fence:={ Fence.wide with round:=r }
theorem wR_calls {r:Option Nat} {n:Nat} {P:Program} {f:FuncId} {args:Array Value} {w:World} {R:Ending→World→Prop} (h:Calls P f args w R):CallsIn (wR r) n P f args w R :=
 (callsIn_wide (n:=n)).2 h
theorem wR_steps {r:Option Nat} {P:Program} {m m':Machine}:StepsIn (Machine.fenced P (wR r)) P m m'↔Steps P m m':=stepsIn_wide
theorem Oper.wp_round {r:Option Nat} {n:Nat} {P:Program} {o:Oper} {a:Act} {w:World} {K:Act→World→Prop} {Q:Exit→Act→World→Prop} (hd:ndOp o=true) (h:o.wp P a w K Q):o.wpIn (wR r) n P a w K Q:=by
 refine ⟨fun _ _=>trivial,?_⟩;rw [Oper.semAt_eq _ _ _ (ndOp.ne hd)];unfold Oper.wp at h;generalize (execOp a.eval o).run P w=x at h ⊢
 cases x with
 | ok n' w' =>
  cases n' with
  | enter f args=>exact ⟨(fun h=>by cases h),wR_calls h⟩
  | row row args =>
   refine ⟨(fun h=>by cases h),fun c cs _=>?_⟩;obtain ⟨v,w2,h1,h2⟩:=h c cs;exact ⟨v,w2,h1,wR_steps.2 h2⟩
  | _=>first | exact h | exact h.elim
 | halt x w'=>cases x <;> first | exact h | exact h.elim
theorem wpOps_round {r:Option Nat} {n:Nat} {P:Program} {ops:Array Oper} {Q:Exit→Act→World→Prop} (hd:ops.all ndOp=true) (hq:¬ LetsOut Q) :
  ∀ (l:List Nat) (a:Act) (w:World),wpOps P ops Q l a w→wpOpsIn (wR r) n P ops Q l a w
 | [],a,w,h=>h
 | i :: l,a,w,h=>by
  unfold wpOps at h;unfold wpOpsIn
  cases ho:ops[i]? with
  | none=>rw [ho] at h;exact wpOps_round hd hq l _ _ h
  | some o =>
   rw [ho] at h;simp only at h ⊢;have hn:ndOp o=true:=by
    obtain ⟨hi,rfl⟩:=Array.getElem?_eq_some_iff.1 ho;exact (Array.all_eq_true.1 hd) i hi
   split
   ·rename_i hw;rw [if_pos hw] at h;rcases h with h | h
    ·exact Oper.wpIn_mono (fun a w=>wpOps_round hd hq l a w) (Oper.wp_round hn h)
    ·exact absurd h.2 hq
   ·rename_i hw;rw [if_neg hw] at h;exact ⟨fun _ _=>trivial,wpOps_round hd hq l _ _ h⟩
theorem region_round {r:Option Nat} {n:Nat} {P:Program} {id:Nat} {l:List Oper} {Q:Exit→Act→World→Prop} {a:Act} {w:World} (hd:l.toArray.all ndOp=true) (hq:¬ LetsOut Q) (h:wpList P l.toArray Q l a w):(Code.region id l.toArray false).wpIn (wR r) n P Q a w :=
 wpIn_region (wpOps_round hd hq _ _ _ (by
  rw [List.range_eq_range',← Array.length_toList,wpOps_eq_wpList l.toArray.toList 0 (by simp)];simpa using h))
theorem draw_round {r:Option Nat} {n:Nat} {P:Program} {id:Nat} {ops:Array Oper} {Q:Exit→Act→World→Prop} {a:Act} {w:World} (hd:ops.all ndOp=true) (hq:¬ LetsOut Q) (hm:P.follows .mixedOrders=true)
  (h:wpAny P .any ops Q ops.size (Array.replicate ops.size false) a { w with drawn:=w.drawn + 1 }):(Code.region id ops true).wpIn (wR r) n P Q a w :=
 wpIn_region_draw fun t=>by
  simp only [Region.schedule,hm,Bool.true_or,if_true];exact wpOps_round hd hq _ _ _ (wpAny_sound ops.size t _ a _ h)
end Fl
open Go.RowKit
namespace Fl
structure Cx where
 F:FuncId
 R:Ending→World→Prop
 lent:List Nat
 okE:Nat→Prop
 e:World
 N:Nat
 rnd:Option Nat:=none
 dfs:List Deferred:=[]
abbrev Fm:=List (Nat × D)
def look:Fm→Nat→Option D
 | [],_=>none
 | (k,d) :: f,t=>cond (Nat.beq k t) (some d) (look f t)
def okk (c:Cx) (L:List Res) (x:Nat):Prop:=(c.okE x∨x∈c.lent∨c.e.heap.size≤x)∧x∉foots L
def Apart (L:List Res):Prop:=L.Pairwise (fun r s=>∀ x∈r.foot,x∉s.foot)
structure St (c:Cx) (f:Fm) (L:List Res) (a:Act) (w:World):Prop where
 kp:Keeps c.lent c.e w
 size:a.tmps.size=c.N
 dfr:a.defers=c.dfs
 res:∀ r∈L,r.holds (okk c L) w
 frm:∀ x∈foots L,x∈c.lent∨c.e.heap.size≤x
 ap:Apart L
 fr:∀ t d,look f t=some d→RD (okk c L) w d (a.tmps.getD t undef)
theorem St.lt {c:Cx} {f:Fm} {L:List Res} {a:Act} {w:World} (h:St c f L a w):∀ x∈foots L,x < w.heap.size:=fun x hx=>by
 obtain ⟨r,hr,hx⟩:=mem_foots.1 hx;exact (h.res r hr).lt x hx
def RFin (en:Ending) (k':List Item):Prop:=(en=.returned (.bool true)∧k'=[])∨(en=.returned (.bool false)∧∃ k1,k'=.code .ret :: k1)
def Fin (P:Program) (c:Cx) (b:Frame) (cs:List Frame) (m:Machine):Prop:=match c.rnd with
 | none=>∃ en w' fr,c.R en w'∧Comes P m (lone fr cs w') en∧fr.fn=c.F∧fr.leaving P w' en
 | some _=>∃ en w' a' k',c.R en w'∧Steps P m (lone (b.atR a' k') cs w')∧RFin en k'
theorem Fin.of {P:Program} {c:Cx} {b:Frame} {cs:List Frame} {m m':Machine} (h:Fin P c b cs m') (s:Steps P m m'):Fin P c b cs m:=by
 unfold Fin at h ⊢
 split at h
 ·obtain ⟨en,w2,fr,h1,h2,h3⟩:=h;exact ⟨en,w2,fr,h1,h2.of_steps s,h3⟩
 ·obtain ⟨en,w2,a',k',h1,h2,h3⟩:=h;exact ⟨en,w2,a',k',h1,s.trans h2,h3⟩
def Run (P:Program) (c:Cx) (k:List Item) (a:Act) (w:World):Prop :=
 ∀ (b:Frame) (cs:List Frame),b.fn=c.F→b.kind=.normal→b.roundOf=c.rnd→Fin P c b cs (lone (b.atR a k) cs w)
structure J (P:Program) (c:Cx) (k:List Item) (f:Fm) (L:List Res):Prop where
 go:∀ a w,St c f L a w→Run P c k a w
theorem Run.step {P:Program} {c:Cx} {k k':List Item} {a a':Act} {w w':World} (h:Run P c k' a' w') (hs:∀ (b:Frame) (cs:List Frame),step P (lone (b.atR a k) cs w)=.next (lone (b.atR a' k') cs w')):Run P c k a w:=fun b cs hb hk hr =>
 (h b cs hb hk hr).of (.one (hs b cs))
theorem Run.wp {P:Program} {c:Cx} {k:List Item} {x:Code} {a:Act} {w:World} (h:x.wpIn (wR c.rnd) 0 P (fun e a' w'=>e=.normal∧Run P c k a' w') a w):Run P c (.code x :: k) a w:=fun b cs hb hk hr=>by
 obtain ⟨e,a',w',⟨rfl,hr'⟩,harr⟩:=h b k cs hr trivial (room_wide _);exact (hr' b cs hb hk hr).of (wR_steps.1 harr)
theorem noOut {P:Program} {c:Cx} {k:List Item}:¬ LetsOut (fun e a' w'=>e=.normal∧Run P c k a' w'):=by
 rintro ⟨a,w,h,_⟩;cases h
def ndf (c:Cx) (l:List Oper):Bool:=match c.rnd with
 | none=>true
 | some _=>l.all ndOp
theorem ndf.none {P:Program} {c:Cx} {k:List Item} {x:Code} {a:Act} {w:World} (hr:c.rnd=.none) (h:x.wp P (fun e a' w'=>e=.normal∧Run P c k a' w') a w):x.wpIn (wR c.rnd) 0 P (fun e a' w'=>e=.normal∧Run P c k a' w') a w:=by
 rw [hr];exact wpIn_wide.2 h
theorem ndf.cases {c:Cx} {l:List Oper} (h:ndf c l=true):c.rnd=.none∨l.toArray.all ndOp=true:=by
 unfold ndf at h
 split at h
 ·exact .inl (by assumption)
 ·exact .inr (by simpa using h)
section
variable {P:Program} {c:Cx} {k:List Item} {f:Fm} {L:List Res}
theorem J.seq {x y:Code} (h:J P c (.code x :: .code y :: k) f L):J P c (.code (.seq x y) :: k) f L:=⟨fun a w s=>(h.go a w s).step fun _ _=>stepR_seq⟩
theorem J.skip (h:J P c k f L):J P c (.code .skip :: k) f L:=⟨fun a w s=>(h.go a w s).step fun _ _=>stepR_skip⟩
theorem J.block {id:Nat} {x:Code} (h:J P c (.code x :: .inBlock id :: k) f L):J P c (.code (.block id x) :: k) f L:=⟨fun a w s=>(h.go a w s).step fun _ _=>stepR_block⟩
theorem J.inBlock {id:Nat} (h:J P c k f L):J P c (.inBlock id :: k) f L:=⟨fun a w s=>(h.go a w s).step fun _ _=>stepR_inBlock⟩
theorem J.exit {id:Nat} {k':List Item} (e:exitTo id k=some k') (h:J P c k' f L):J P c (.code (.exit id) :: k) f L:=⟨fun a w s=>(h.go a w s).step fun _ _=>stepR_exit e⟩
def evD (f:Fm):Operand→Option D
 | .tmp t=>look f t
 | .const v=>cond v.oneCell' (some (.c (.v v))) none
 | .global g=>some (.c (.v (.pointer (some ⟨g,0,none⟩))))
 | .func fn=>some (.c (.v (.func (.func fn) #[] #[])))
theorem St.ev {a:Act} {w:World} (s:St c f L a w) {x:Operand} {d:D} (h:evD f x=some d):RD (okk c L) w d (a.eval x):=by
 cases x with
 | tmp t=>exact s.fr t d h
 | const v =>
  simp only [evD] at h
  cases ho:v.oneCell' with
  | false=>rw [ho] at h;cases h
  | true=>rw [ho] at h;cases h;unfold RD RA;exact ⟨rfl,ho⟩
 | global g=>unfold evD at h;cases h;unfold RD RA;exact ⟨rfl,rfl⟩
 | func g=>unfold evD at h;cases h;unfold RD RA;exact ⟨rfl,rfl⟩
theorem St.val {a:Act} {w:World} (s:St c f L a w) {x:Operand} {v:Value} (h:evD f x=some (.c (.v v))):a.eval x=v:=by
 have:=s.ev h;unfold RD RA at this;exact this.1
theorem J.cond {x y:Code} {t:Operand} {b:Bool} (hc:evD f t=some (.c (.v (.bool b)))) (ht:b=true→J P c (.code x :: k) f L) (hf:b=false→J P c (.code y :: k) f L):J P c (.code (.cond t x y) :: k) f L:=⟨fun a w s=>by
 have hv:=s.val hc
 cases b with
 | true=>exact ((ht rfl).go a w s).step fun _ _=>stepR_cond hv
 | false=>exact ((hf rfl).go a w s).step fun _ _=>stepR_cond hv⟩
theorem J.cond_t {x y:Code} {t:Operand} (hc:evD f t=some (.c (.v (.bool true)))) (ht:J P c (.code x :: k) f L):J P c (.code (.cond t x y) :: k) f L:=J.cond hc (fun _=>ht) (fun h=>by cases h)
theorem J.cond_f {x y:Code} {t:Operand} (hc:evD f t=some (.c (.v (.bool false)))) (hf:J P c (.code y :: k) f L):J P c (.code (.cond t x y) :: k) f L:=J.cond hc (fun h=>by cases h) (fun _=>hf)
theorem J.loop {x:Code} {ι:Type} (fi:ι→Fm) (Li:ι→List Res) (μ:ι→Nat) (i0:ι) (h0:∀ X,J P c X (fi i0) (Li i0)→J P c X f L)
  (round:∀ i,(∀ i',μ i' < μ i→J P c (.inLoop x :: k) (fi i') (Li i'))→J P c (.code x :: .inLoop x :: k) (fi i) (Li i)):J P c (.code (.loop x) :: k) f L:=by
 have key:∀ n i,μ i=n→J P c (.code x :: .inLoop x :: k) (fi i) (Li i):=by
  intro n
  induction n using Nat.strongRecOn with
  | _ n ih =>
   intro i hi;exact round i fun i' hlt=>⟨fun a w s=>((ih (μ i') (hi ▸ hlt) i' rfl).go a w s).step fun _ _=>stepR_inLoop⟩
 have h1:=h0 _ (key _ i0 rfl);exact ⟨fun a w s=>(h1.go a w s).step fun _ _=>stepR_loop⟩
theorem J.less {f':Fm} (hs:∀ t d,look f' t=some d→look f t=some d) (h:J P c k f' L):J P c k f L:=⟨fun a w s =>
 h.go a w ⟨s.kp,s.size,s.dfr,s.res,s.frm,s.ap,fun t d ht=>s.fr t d (hs t d ht)⟩⟩
def Only (f:Fm):Fm→Prop
 | []=>True
 | (t,d) :: f'=>look f t=some d∧Only f f'
theorem Only.look {f:Fm}:∀ {f':Fm},Only f f'→∀ t d,look f' t=some d→look f t=some d
 | [],_,t,d,h=>by simp [Fl.look] at h
 | (s,e) :: f',ho,t,d,h=>by
  simp only [Fl.look] at h
  cases hb:Nat.beq s t with
  | true =>
   rw [hb] at h;have:s=t:=Nat.eq_of_beq_eq_true hb;subst this;simp at h;subst h;exact ho.1
  | false=>rw [hb] at h;exact Only.look ho.2 t d h
theorem J.only (f':Fm) (ho:Only f f') (h:J P c k f' L):J P c k f L:=J.less ho.look h
theorem pull_perm {α:Type}:∀ (L:List α) (i:Nat) {r:α},L[i]?=some r→(r :: L.eraseIdx i).Perm L
 | [],i,r,h=>by simp at h
 | x :: L,0,r,h=>by simp at h;subst h;simp
 | x :: L,i + 1,r,h=>by
  simp at h;simp only [List.eraseIdx_cons_succ];exact (List.Perm.swap x r _).trans ((pull_perm L i h).cons x)
theorem J.pull (i:Nat) {r:Res} (hi:L[i]?=some r) (h:J P c k f (r :: L.eraseIdx i)):J P c k f L:=⟨fun a w s=>by
 have hp:(r :: L.eraseIdx i).Perm L:=pull_perm L i hi;have hm:∀ x,x∈foots (r :: L.eraseIdx i)↔x∈foots L:=fun x=>by
  rw [mem_foots,mem_foots];exact ⟨fun ⟨q,hq,hx⟩=>⟨q,hp.mem_iff.1 hq,hx⟩,fun ⟨q,hq,hx⟩=>⟨q,hp.mem_iff.2 hq,hx⟩⟩
 have ho:okk c (r :: L.eraseIdx i)=okk c L:=by
  funext x;unfold okk;rw [hm]
 refine h.go a w ⟨s.kp,s.size,s.dfr,fun q hq=>by rw [ho];exact s.res q (hp.mem_iff.1 hq),fun x hx=>s.frm x ((hm x).1 hx),?_,fun t d ht=>by rw [ho];exact s.fr t d ht⟩;exact (hp.pairwise_iff (fun {x y} hxy z hz hz'=>hxy z hz' hz)).2 s.ap⟩
theorem J.drop (i:Nat) (h:J P c k f (L.eraseIdx i)):J P c k f L:=⟨fun a w s=>by
 have hm:∀ q,q∈L.eraseIdx i→q∈L:=fun q hq=>List.mem_of_mem_eraseIdx hq
 have hf:∀ x,x∈foots (L.eraseIdx i)→x∈foots L:=fun x hx=>by
  obtain ⟨q,hq,hx⟩:=mem_foots.1 hx;exact mem_foots.2 ⟨q,hm q hq,hx⟩
 have mo:Mon (okk c L) (okk c (L.eraseIdx i)) w w:=⟨Nat.le_refl _,fun g _ hg=>⟨⟨hg.1,fun hx=>hg.2 (hf g hx)⟩,rfl⟩⟩
 exact h.go a w ⟨s.kp,s.size,s.dfr,fun q hq=>(s.res q (hm q hq)).mon (Keeps.refl [] w) mo (by simp),fun x hx=>s.frm x (hf x hx),s.ap.sublist (List.eraseIdx_sublist L i),fun t d ht=>RD.mon mo d _ (s.fr t d ht)⟩⟩
end
end Fl
end Go.Proofs.Ytdibmkjoaghafaa
