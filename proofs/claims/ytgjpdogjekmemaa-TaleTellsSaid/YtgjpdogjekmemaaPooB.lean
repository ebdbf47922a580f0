/-
  The program's pool.
  Conditions: none.
-/
import Derived.Test.YtgjpdogjekmemaaBun
import Derived.Test.YtgjpdogjekmemaaPooL
namespace Go.Proofs.Ytgjpdogjekmemaa
open Go.RowKit
set_option linter.unusedVariables false
set_option linter.unusedSimpArgs false
set_option linter.unnecessarySimpa false
namespace Fl
set_option maxRecDepth 100000
theorem J.join2 {P : Program} {c : Cx} {k : List Item} {f : Fm} {L : List Res} {I I2 : Item} {ι : Type} (f' : ι → Fm) (L' : ι → List Res) (rest : ∀ x, J P c k (f' x) (L' x)) (h : ∀ K, (∀ x, J P c K (f' x) (L' x)) → J P c (I :: I2 :: K) f L) : J P c (I :: I2 :: k) f L := h k rest
theorem J.join1 {P : Program} {c : Cx} {k : List Item} {f : Fm} {L : List Res} {I : Item} {ι : Type} (f' : ι → Fm) (L' : ι → List Res) (rest : ∀ x, J P c k (f' x) (L' x)) (h : ∀ K, (∀ x, J P c K (f' x) (L' x)) → J P c (I :: K) f L) : J P c (I :: k) f L := h k rest
theorem Con.re {P : Program} {F : FuncId} {ds : List D} {L : List Res} {ι κ : Type} {post : κ → D × List Res} (e : ι → κ) (h : Con P F ds L (fun i => post (e i))) : Con P F ds L post := ⟨fun ok w xs hd hr ha hn => (h.go ok w xs hd hr ha hn).mono fun en w' ⟨z, q⟩ => ⟨e z, q⟩⟩
def bls (l : List Bool) : List (List A) := l.map fun x => [bI x]
abbrev sl (b o n cap : Nat) : Value := .slice (some ⟨b, o, none⟩) n cap
theorem set_same {α : Type} {l : List α} {i : Nat} {a : α} (h : l[i]? = some a) : l.set i a = l := by
  obtain ⟨h1, h2⟩ := List.getElem?_eq_some_iff.1 h
  rw [← h2]; exact List.set_getElem_self h1
theorem bls_len (l : List Bool) : (bls l).length = l.length := List.length_map ..
theorem bls_at {l : List Bool} {i : Int} (h0 : 0 ≤ i) (h : i < l.length) : (bls l)[i.toNat]? = some [bI (l.getD i.toNat false)] := by
  unfold bls
  rw [List.getElem?_map, List.getD_eq_getElem?_getD, List.getElem?_eq_getElem (show i.toNat < l.length by omega)]; rfl
theorem bls_set (l : List Bool) (i : Nat) (x : Bool) : (bls l).set i [bI x] = bls (l.set i x) := by unfold bls; rw [List.map_set]
theorem num_at {l : List Int} {i : Nat} (h : i < l.length) : (nums l)[((i : Nat) : Int).toNat]? = some [nI (l.getD i 0)] := nums_at (Int.natCast_nonneg i) (by omega)
theorem num_last {l : List Int} (h : l ≠ []) : (nums l)[(((nums l).length : Int) - 1).toNat]? = some [nI (l.getLastD 0)] := by
  have : 0 < l.length := List.length_pos_iff.2 h
  rw [nums_len]
  unfold nums
  rw [show ((l.length : Int) - 1).toNat = l.length - 1 by omega, List.getElem?_map, ← List.getLast?_eq_getElem?, List.getLastD_eq_getLast?, List.getLast?_eq_some_getLast h]; rfl
theorem num_cut (l : List Int) : ((nums l).take (((nums l).length : Int) - 1).toNat).drop (0 : Int).toNat = nums l.dropLast := by
  rw [nums_len]
  show ((nums l).take _) = _
  unfold nums
  rw [List.dropLast_eq_take, List.map_take]; congr 1; omega
theorem nums_app (l : List Int) (x : Int) : nums l ++ [[nI x]] = nums (l ++ [x]) := by unfold nums; rw [List.map_append]; rfl
section
variable (b : Nat) (vc vm vh y : Value) (size most f : Nat) (V : List (List A)) (M c : List Int) (H : List Bool)
end
section
variable {P : Program} {c : Cx} {k : List Item} {f : Fm} {L : List Res}
theorem St.nilR {e sz : Nat} {a : Act} {w : World} (s : St c f L a w) : St c f (.row (.slice none 0 0) e sz [] :: L) a w := by
  have hf : foots (.row (.slice none 0 0) e sz [] :: L) = foots L := by simp [foots, Res.foot, vfoot]
  have ho : okk c (.row (.slice none 0 0) e sz [] :: L) = okk c L := by funext x; unfold okk; rw [hf]
  refine ⟨s.kp, s.size, s.dfr, fun q hq => ?_, fun x hx => s.frm x (hf ▸ hx), List.pairwise_cons.2 ⟨fun q _ x hx => by simp [Res.foot, vfoot] at hx, s.ap⟩, fun t d ht => by rw [ho]; exact s.fr t d ht⟩
  rw [ho]
  rcases List.mem_cons.1 hq with rfl | hq
  · exact ⟨[], Row.nil w e sz, rfl⟩
  · exact s.res q hq
/-- a slice that is nil is owned -/
theorem J.nilR (e sz : Nat) (h : J P c k f (.row (.slice none 0 0) e sz [] :: L)) : J P c k f L := ⟨fun a w s => h.go a w s.nilR⟩
theorem J.nilN (e sz : Nat) : ∀ n, J P c k f (List.replicate n (.row (.slice none 0 0) e sz []) ++ L) → J P c k f L
  | 0, h => h
  | n + 1, h => J.nilN e sz n (J.nilR e sz h)
end
theorem range_set {α : Type} {n g : Nat} {h h' : Nat → α} {a : α} (hg : g < n) (e1 : h' g = a) (e2 : ∀ k, k ≠ g → k < n → h' k = h k) : ((List.range n).map h).set g a = (List.range n).map h' := by
  apply List.ext_getElem?
  intro k
  rw [List.getElem?_set, List.getElem?_map, List.getElem?_map]
  by_cases hk : k < n
  · rw [List.getElem?_range hk]
    by_cases c : g = k
    · subst c; simp [e1, hg]
    · rw [if_neg c]; simp [e2 k (Ne.symm c) hk]
  · rw [List.getElem?_eq_none (by simpa using hk)]
    split
    · rw [if_neg (by simp; omega)]; simp
    · simp
/-! ### the whole pool -/
theorem bls_flat (l : List Bool) : (bls l).all (·.all flatA) = true := List.all_eq_true.2 fun x hx => by
  obtain ⟨n, _, rfl⟩ := List.mem_map.1 hx
  rfl
section
variable (p : Value) (size most : Nat) (s : Po.St) (S : List Nat)
end
/-! ### a pool out of caches and a middle -/
theorem range_next {α : Type} {k : Nat} {h h' : Nat → α} {a : α} (e1 : h' k = a) (e2 : ∀ j, j < k → h' j = h j) : (List.range k).map h ++ [a] = (List.range (k + 1)).map h' := by
  rw [List.range_succ, List.map_append, List.map_cons, List.map_nil, e1]
  congr 1
  exact List.map_congr_left fun j hj => (e2 j (by simpa using hj)).symm
end Fl
end Go.Proofs.Ytgjpdogjekmemaa
