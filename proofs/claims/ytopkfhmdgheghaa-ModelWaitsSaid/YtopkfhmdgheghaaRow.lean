/-
  Rows: slices that are owned and written (append, make, store), at whatever offset in their block. Over any program.
  Conditions: none.
-/
import Derived.Test.YtopkfhmdgheghaaBase
namespace Go.Proofs.Ytopkfhmdgheghaa
open Go.RowKit
set_option linter.unusedVariables false
set_option linter.unusedSimpArgs false
set_option linter.unnecessarySimpa false

/-- The slice value v (n elements of type e, sz cells each) owns the cells xs; S: its block, if any. -/
def Row (w : World) (v : Value) (e : TypeId) (sz n : Nat) (xs : List Value) (S : List Nat) : Prop :=
  xs.length = n * sz ∧ ∃ ao cap, v = .slice ao n cap ∧ n ≤ cap ∧ cap ≤ maxLen ∧
    ((ao = none ∧ n = 0 ∧ cap = 0 ∧ S = []) ∨ ∃ g off cur, ao = some ⟨g, off, none⟩ ∧ S = [g] ∧ Blk w g cur e ∧ off + cap * sz ≤ cur.length ∧ ∀ j, j < xs.length → cur[off + j]? = xs[j]?)

section
variable {w w' : World} {v : Value} {e : TypeId} {sz n : Nat} {xs : List Value} {S T : List Nat}

theorem Row.view (h : Row w v e sz n xs S) : View w v sz n xs S := by
  obtain ⟨h0, ao, cap, h1, h2, h3, h4⟩ := h
  refine ⟨h0, ao, cap, h1, h2, h3, ?_⟩
  rcases h4 with h4 | ⟨g, off, cur, rfl, rfl, hb, hl, hc⟩
  · exact .inl ⟨h4.2.1, h4.2.2.2⟩
  · exact .inr ⟨g, off, rfl, rfl, hb.lt, fun j hj => by rw [hb.cell]; exact hc j hj⟩
theorem Row.len (h : Row w v e sz n xs S) : xs.length = n * sz := h.1
theorem Row.le (h : Row w v e sz n xs S) : n ≤ maxLen := h.view.le
theorem Row.lt (h : Row w v e sz n xs S) : ∀ k ∈ S, k < w.heap.size := h.view.lt
theorem Row.shape (h : Row w v e sz n xs S) : ∃ ao cap, v = .slice ao n cap := h.view.shape
theorem Row.keep (h : Row w v e sz n xs S) (k : Keeps T w w') (hn : ∀ x ∈ S, x ∉ T) : Row w' v e sz n xs S := by
  obtain ⟨h0, ao, cap, h1, h2, h3, h4⟩ := h
  refine ⟨h0, ao, cap, h1, h2, h3, ?_⟩
  rcases h4 with h4 | ⟨g, off, cur, rfl, rfl, hb, hr⟩
  · exact .inl h4
  · exact .inr ⟨g, off, cur, rfl, rfl, hb.keep k (hn g (by simp)), hr⟩
theorem Row.then (h : Row w v e sz n xs S) (k : Keeps [] w w') : Row w' v e sz n xs S := h.keep k (by simp)
theorem Row.alloc (h : Row w v e sz n xs S) (o : Obj) : Row (w.alloc o) v e sz n xs S := h.then ((Keeps.refl [] w).alloc o)
theorem Row.nil (w : World) (e : TypeId) (sz : Nat) : Row w (.slice none 0 0) e sz 0 [] [] := ⟨by simp, none, 0, rfl, Nat.le_refl _, by simp [maxLen], .inl ⟨rfl, rfl, rfl, rfl⟩⟩
/-- a literal's new block -/
theorem Row.lit (w : World) (cs : List Value) (e : TypeId) (sz n : Nat) (hl : cs.length = n * sz) (hm : n ≤ maxLen) : Row (w.alloc (.cells cs.toArray e)) (.slice (some ⟨w.heap.size, 0, none⟩) n n) e sz n cs [w.heap.size] :=
  ⟨hl, _, n, rfl, Nat.le_refl _, hm, .inr ⟨w.heap.size, 0, cs, rfl, rfl, Blk.new w cs e, by omega, by simp⟩⟩
theorem Row.of_own {base : Nat} (h : w.ownsRow base e sz v n xs) : Row w v e sz n xs v.ownBlock.toList ∧ ∀ k ∈ v.ownBlock.toList, base ≤ k := by
  obtain ⟨hl, h⟩ := h
  rcases h with ⟨rfl, rfl⟩ | ⟨g, cap, cur, rfl, hb, hg, hnc, hcm, hcs, htake⟩
  · exact ⟨⟨hl, none, 0, rfl, Nat.le_refl _, by simp [maxLen], .inl ⟨rfl, rfl, rfl, rfl⟩⟩, by simp [Value.ownBlock]⟩
  · refine ⟨⟨hl, _, cap, rfl, hnc, hcm, .inr ⟨g, 0, cur.toList, rfl, rfl, by simpa [Blk] using hg, by simp [hcs], fun j hj => ?_⟩⟩, by simpa [Value.ownBlock] using hb⟩
    rw [Nat.zero_add, ← htake, List.getElem?_take, if_pos (by omega)]

/-- An element is stored: cell j of the row. -/
theorem Row.stored {g off m cap : Nat} (h : Row w (.slice (some ⟨g, off, none⟩) m cap) e sz n xs S) (j : Nat) (hj : j < xs.length) (u : Value) :
    Row (w.setCell ⟨g, off + j, none⟩ u) (.slice (some ⟨g, off, none⟩) m cap) e sz n (xs.set j u) S ∧ Keeps S w (w.setCell ⟨g, off + j, none⟩ u) := by
  obtain ⟨h0, ao, cap', h1, h2, h3, h4⟩ := h
  obtain ⟨rfl, rfl, rfl⟩ := by simpa using h1
  rcases h4 with ⟨h4, _⟩ | ⟨g', off', cur, h4, rfl, hb, hl, hc⟩
  · cases h4
  · obtain ⟨rfl, rfl⟩ := by simpa using h4
    refine ⟨⟨by simpa using h0, _, cap, rfl, h2, h3, .inr ⟨g, off, cur.set (off + j) u, rfl, rfl, hb.set _ u, by simpa using hl, fun i hi => ?_⟩⟩, (Keeps.refl _ w).setCell (by simp) u⟩
    have hi' : i < xs.length := by simpa using hi
    have hcl : off + j < cur.length := by
      have := hc j hj
      rw [List.getElem?_eq_getElem hj] at this
      exact (List.getElem?_eq_some_iff.1 this).1
    by_cases e : i = j
    · subst e; simp [hcl, hj]
    · rw [List.getElem?_set_ne (by omega), List.getElem?_set_ne (by omega)]; exact hc i hi'

/-- What the walk asks of an element. -/
theorem Row.cells {ao : Option Addr} {m cap : Nat} (h : Row w (.slice ao m cap) e sz n xs S) (hp : 0 < n) :
    ∃ g off, ao = some ⟨g, off, none⟩ ∧ S = [g] ∧ g < w.heap.size ∧ (∀ j, j < xs.length → w.cell? ⟨g, off + j, none⟩ = xs[j]?) ∧ ∀ j, w.frozen? ⟨g, off + j, none⟩ = false := by
  obtain ⟨h0, ao', cap', h1, h2, h3, h4⟩ := h
  obtain ⟨rfl, rfl, rfl⟩ := by simpa using h1
  rcases h4 with ⟨_, rfl, _⟩ | ⟨g, off, cur, rfl, rfl, hb, hl, hc⟩
  · omega
  · exact ⟨g, off, rfl, rfl, hb.lt, fun j hj => by rw [hb.cell]; exact hc j hj, fun j => hb.free _⟩
end

theorem oc_int {k : IntKind} {n : Int} : ∀ y ∈ [Value.int k n], y.oneCell' = true := by intro y hy; simp at hy; subst hy; rfl
theorem oc_bool {b : Bool} : ∀ y ∈ [Value.bool b], y.oneCell' = true := by intro y hy; simp at hy; subst hy; rfl
theorem oc_ints {k : IntKind} (l : List Int) : ∀ y ∈ l.map (Value.int k), y.oneCell' = true := by intro y hy; simp at hy; obtain ⟨_, _, rfl⟩ := hy; rfl
theorem one_le_max : 1 ≤ maxLen := by simp [maxLen]

/-- What is asked of a slice type t of elements e: sz cells, bytes each, zero value z. -/
def Elem (P : Program) (t e : TypeId) (sz bytes : Nat) (z : Value) : Prop :=
  P.underlying t = some (.slice e) ∧ (P.info? e).map (fun i => (i.zero, i.size, i.bytes)) = some (some z, sz, bytes) ∧ z.cells.size = sz ∧ 0 < sz ∧ 0 < bytes

section
variable {P : Program} {t e : TypeId} {sz bytes : Nat} {z : Value}

theorem run_room_at (w : World) (t ty e : TypeId) (i : TypeInfo) (ht : P.underlying t = some (.slice e)) (hi : P.info? e = some i)
    (g off sLen sCap : Nat) (cur : Array Value) (hg : w.heap[g]? = some (.cells cur e (0, 0)))
    (a : Addr) (m c : Nat) (news : List Value) (hl : news.length = m * i.size) (hnews : ∀ j u, news[j]? = some u → w.cell? (a.add j) = some u) (h1 : ∀ u ∈ news, u.oneCell' = true)
    (hroom : sLen + m ≤ sCap) (hfit : off + sLen * i.size + news.length ≤ cur.size) :
    ∃ cur', (Builtin.append_ #[t, t] ty #[.slice (some ⟨g, off, none⟩) sLen sCap, .slice (some a) m c]).run P w =
      .ok (.slice (some ⟨g, off, none⟩) (sLen + m) sCap) (w.setRow g cur') ∧ cur' = (cur.toList.take (off + sLen * i.size) ++ news ++ cur.toList.drop (off + sLen * i.size + news.length)).toArray := by
  have hf := run_firstCells_some (P := P) w i.size m a m c news hl hnews
  have hst := run_storeCells_at P g (off + sLen * i.size) e news 0 cur w hg (by simpa using hfit) h1
  simp only [Nat.add_zero] at hst
  refine ⟨_, ?_, rfl⟩
  simp [Builtin.append_, run_underlying ht, sizeOf, typeInfo, hi, Builtin.lenOf, hroom, hf, Addr.add_lit, hst]

/-- append, whatever is appended, to a row that is owned. -/
theorem run_app (E : Elem P t e sz bytes z) (ty : TypeId) {w : World} {v u : Value} {n m : Nat} {xs ys : List Value} {S T : List Nat} (h : Row w v e sz n xs S) (hu : View w u sz m ys T)
    (h1 : ∀ y ∈ ys, y.oneCell' = true) (hb : (n + m) * bytes ≤ 140737488355328) :
    ∃ ao cap w' S', (Builtin.append_ #[t, t] ty #[v, u]).run P w = .ok (.slice ao (n + m) cap) w' ∧ Row w' (.slice ao (n + m) cap) e sz (n + m) (xs ++ ys) S' ∧ Keeps S w w' ∧ (∀ k ∈ S', k ∈ S ∨ w.heap.size ≤ k) ∧
      (m = 0 → .slice ao (n + m) cap = v ∧ w' = w) := by
  obtain ⟨ht, hinf, hz, hpos, hby⟩ := E
  obtain ⟨i, hi, hi1, hi2, hi3⟩ := info_parts hinf
  clear hinf
  subst hi2; subst hi3
  have hlen : (xs ++ ys).length = (n + m) * i.size := by rw [List.length_append, h.1, hu.1, Nat.add_mul]
  have hsmall : n + m ≤ 140737488355328 := Nat.le_trans (Nat.le_mul_of_pos_right _ hby) hb
  have h63 : n + m ≤ maxLen := by simp only [maxLen]; omega
  by_cases hm : m = 0
  · subst hm
    have hy : ys = [] := List.eq_nil_of_length_eq_zero (by have := hu.1; simpa using this)
    subst hy
    obtain ⟨ao, cap, rfl⟩ := h.shape
    obtain ⟨bo, bap, rfl⟩ := hu.shape
    refine ⟨ao, cap, w, S, ?_, by simpa using h, Keeps.refl _ _, fun k hk => .inl hk, fun _ => ⟨by simp, rfl⟩⟩
    obtain ⟨_, ao', cap', h1, hnc, hcm, _⟩ := h
    obtain ⟨rfl, rfl⟩ := by simpa using h1
    cases bo with
    | none => simp [Builtin.append_, run_underlying ht, sizeOf, typeInfo, hi, Builtin.lenOf, Builtin.firstCells, hnc]; cases ao <;> simp [storeCells]
    | some b =>
      have hf := run_firstCells_some (P := P) w i.size 0 b 0 bap [] (by simp) (by simp)
      simp [Builtin.append_, run_underlying ht, sizeOf, typeInfo, hi, Builtin.lenOf, hnc, hf]; cases ao <;> simp [storeCells]
  · obtain ⟨hul, bo, bap, rfl, hub, hum, hu4⟩ := hu
    rcases hu4 with ⟨h0, _⟩ | ⟨ug, uoff, rfl, rfl, hug, huc⟩
    · omega
    have hnews : ∀ j y, ys[j]? = some y → w.cell? ((⟨ug, uoff, none⟩ : Addr).add j) = some y := by
      intro j y hy
      rw [Addr.add_lit, huc j (List.getElem?_eq_some_iff.1 hy).1]; exact hy
    have hinner : ∀ (old : Nat) (olds : List Value), old < n + m → olds.length = n * i.size → olds = xs →
        Row (w.drew.alloc (.cells (olds.toArray ++ ys.toArray ++ Builtin.zeroCells z.cells (grownCap w (n + m) old e - (n + m))) e)) (.slice (some ⟨w.heap.size, 0, none⟩) (n + m) (grownCap w (n + m) old e)) e i.size (n + m) (xs ++ ys) [w.heap.size] := by
      intro old olds ho hol hx
      subst hx
      have hge := grownCap_ge w (n + m) old e
      have hcm : grownCap w (n + m) old e ≤ maxLen := grownCap_le_maxLen w (n + m) old e h63
      refine ⟨hlen, _, _, rfl, hge, hcm, .inr ⟨w.heap.size, 0, (olds.toArray ++ ys.toArray ++ Builtin.zeroCells z.cells (grownCap w (n + m) old e - (n + m))).toList, rfl, rfl, ?_, ?_, ?_⟩⟩
      · unfold Blk; rw [Array.toArray_toList]; exact heap_alloc_new w.drew _
      · simp only [Array.length_toList, Array.size_append, List.size_toArray, size_zeroCells, hz, hol, hul, ← Nat.add_mul, Nat.zero_add]
        exact Nat.mul_le_mul_right _ (by omega)
      · intro j hj
        rw [Nat.zero_add]
        simp only [Array.toList_append, List.append_assoc]
        rw [← List.append_assoc, List.getElem?_append_left (by simpa using hj)]
    have hkeep : ∀ o : Obj, Keeps S w (w.drew.alloc o) := fun o => (Keeps.refl S w).drew.alloc o
    obtain ⟨hl, ao, cap, rfl, hnc, hcm, h4⟩ := h
    rcases h4 with ⟨rfl, rfl, rfl, rfl⟩ | ⟨g, off, cur, rfl, rfl, hg, hfit, hc⟩
    · have hxs : xs = [] := List.eq_nil_of_length_eq_zero (by simpa using hl)
      subst hxs
      have hr := run_append_nil (P := P) w t ty e i z ht hi hi1 _ m bap ys hul hnews (by omega) (by omega) (by have := hb; simp only [Nat.zero_add] at this; omega)
      have hI := hinner 0 [] (by omega) (by simp) rfl
      simp only [Nat.zero_add, List.nil_append, Array.empty_append] at hI ⊢
      exact ⟨_, _, _, _, hr, by simpa using hI, by simpa using hkeep _, by simp, fun h => absurd h hm⟩
    · by_cases hroom : n + m ≤ cap
      · have hfit' : off + n * i.size + ys.length ≤ cur.length := by
          have : (n + m) * i.size ≤ cap * i.size := Nat.mul_le_mul_right _ hroom
          rw [Nat.add_mul] at this; omega
        obtain ⟨cur', hr, hcur⟩ := run_room_at (P := P) w t ty e i ht hi g off n cap cur.toArray hg _ m bap ys hul hnews h1 hroom (by simpa using hfit')
        refine ⟨_, _, _, _, hr, ⟨hlen, _, _, rfl, hroom, hcm, .inr ⟨g, off, cur'.toList, rfl, rfl, ?_, ?_, ?_⟩⟩, (Keeps.refl _ w).setRow (by simp) _, by simp, fun h => absurd h hm⟩
        · unfold Blk; rw [Array.toArray_toList]; exact setRow_heap w g cur.toArray _ e _ hg
        · rw [hcur]; simp; omega
        · intro j hj
          rw [hcur]
          simp only
          by_cases hj1 : j < xs.length
          · rw [List.append_assoc, List.getElem?_append_left (by simp; omega), List.getElem?_append_left hj1, List.getElem?_take, if_pos (by omega)]
            exact hc j hj1
          · have hj2 : j < xs.length + ys.length := by simpa using hj
            have hcu : xs.length ≤ (n + m) * i.size := by rw [Nat.add_mul, hl]; omega
            have htl : (cur.take (off + n * i.size)).length = off + n * i.size := by rw [List.length_take]; omega
            have e1 : (xs ++ ys)[j]? = ys[j - xs.length]? := List.getElem?_append_right (by omega)
            rw [e1, List.append_assoc, List.getElem?_append_right (by rw [htl]; omega), List.getElem?_append_left (by rw [htl]; omega), htl, hl]
            congr 1; omega
      · have holds : ∀ j y, xs[j]? = some y → w.cell? ((⟨g, off, none⟩ : Addr).add j) = some y := by
          intro j y hy
          rw [Addr.add_lit, hg.cell, hc j (List.getElem?_eq_some_iff.1 hy).1]; exact hy
        have hr := run_append_grow (P := P) w t ty e i z ht hi hi1 ⟨g, off, none⟩ n cap xs hl holds _ m bap ys hul hnews (by omega) (by omega) (growslice_fits (by omega) hb)
        exact ⟨_, _, _, _, hr, hinner cap xs (by omega) hl rfl, hkeep _, by simp, fun h => absurd h hm⟩

/-- append in the walk. -/
theorem wp_app (E : Elem P t e sz bytes z) {w : World} {ops : Array Oper} {rest : List Oper} {o : Oper} {a : Act} {Q : Exit → Act → World → Prop} {s x : Operand}
    {v u : Value} {n m : Nat} {xs ys : List Value} {S T : List Nat} (h : Row w v e sz n xs S) (hu : View w u sz m ys T)
    (h1 : ∀ y ∈ ys, y.oneCell' = true) (hb : (n + m) * bytes ≤ 140737488355328)
    (hK : ∀ ao cap w' S', Row w' (.slice ao (n + m) cap) e sz (n + m) (xs ++ ys) S' → Keeps S w w' → (∀ k ∈ S', k ∈ S ∨ w.heap.size ≤ k) → wpList P ops Q rest (a.put o.dst (.slice ao (n + m) cap)) w')
    (hg : o.guard = none := by rfl) (hop : o.op = Op.call { callee := Callee.builtin Builtin.append, args := #[s, x], argTypes := #[t, t] } := by rfl) (hs : a.eval s = v := by rfl) (hx : a.eval x = u := by rfl) :
    wpList P ops Q (o :: rest) a w := by
  obtain ⟨ao, cap, w', S', hrun, r1, r2, r3, _⟩ := run_app E o.type h hu h1 hb
  refine wpList_plain hg fun K hK' => ?_
  unfold Oper.wp
  simp [execOp, hop, resolve, invoke, builtin, hs, hx, hrun, Result.andThen]
  exact hK' _ _ (hK ao cap w' S' r1 r2 r3)

/-- append of one literal row of cells, which stands in the newest block. -/
theorem wp_app1 (E : Elem P t e sz bytes z) {w : World} {ops : Array Oper} {rest : List Oper} {o : Oper} {a : Act} {Q : Exit → Act → World → Prop} {s x : Operand}
    {v : Value} {n m bx : Nat} {xs ys : List Value} {S : List Nat} (h : Row w v e sz n xs S) (hy : ys.length = m * sz) (hm : m ≤ maxLen)
    (h1 : ∀ y ∈ ys, y.oneCell' = true) (hb : (n + m) * bytes ≤ 140737488355328)
    (hK : ∀ ao cap w' S', Row w' (.slice ao (n + m) cap) e sz (n + m) (xs ++ ys) S' → Keeps S w w' → (∀ k ∈ S', k ∈ S ∨ w.heap.size ≤ k) → wpList P ops Q rest (a.put o.dst (.slice ao (n + m) cap)) w')
    (hg : o.guard = none := by rfl) (hop : o.op = Op.call { callee := Callee.builtin Builtin.append, args := #[s, x], argTypes := #[t, t] } := by rfl) (hs : a.eval s = v := by rfl) (hx : a.eval x = .slice (some ⟨bx, 0, none⟩) m m := by rfl) (hbx : bx = w.heap.size := by first | rfl | simp) :
    wpList P ops Q (o :: rest) a (w.alloc (.cells ys.toArray e)) := by
  subst hbx
  refine wp_app E (h.alloc _) (Row.lit w ys e sz m hy hm).view h1 hb ?_ hg hop hs hx
  intro ao cap w' S' r1 r2 r3
  refine hK ao cap w' S' r1 (((Keeps.refl S w).alloc _).trans r2 (fun k hk => .inl hk)) (fun k hk => ?_)
  rcases r3 k hk with h | h
  · exact .inl h
  · right; simp at h; omega

/-- append in a region that draws its order. -/
theorem step_app (E : Elem P t e sz bytes z) {w : World} {ops : Array Oper} {o : Oper} {a : Act} {K : Act → World → Prop} {Q : Exit → Act → World → Prop} {F : Prop} {s x : Operand}
    {v u : Value} {n m : Nat} {xs ys : List Value} {S T : List Nat} (h : Row w v e sz n xs S) (hu : View w u sz m ys T)
    (h1 : ∀ y ∈ ys, y.oneCell' = true) (hb : (n + m) * bytes ≤ 140737488355328)
    (hK : ∀ ao cap w' S', Row w' (.slice ao (n + m) cap) e sz (n + m) (xs ++ ys) S' → Keeps S w w' → (∀ k ∈ S', k ∈ S ∨ w.heap.size ≤ k) → K (a.put o.dst (.slice ao (n + m) cap)) w')
    (hg : o.guard = none := by rfl) (hop : o.op = Op.call { callee := Callee.builtin Builtin.append, args := #[s, x], argTypes := #[t, t] } := by rfl) (hs : a.eval s = v := by rfl) (hx : a.eval x = u := by rfl) :
    if Region.wanted o (yielded ops a.tmps) = true then Oper.wp P o a w K Q else F := by
  have hw : Region.wanted o (yielded ops a.tmps) = true := by simp [Region.wanted, hg]
  rw [if_pos hw]
  obtain ⟨ao, cap, w', S', hrun, r1, r2, r3, _⟩ := run_app E o.type h hu h1 hb
  unfold Oper.wp
  simp [execOp, hop, resolve, invoke, builtin, hs, hx, hrun, Result.andThen]
  exact hK ao cap w' S' r1 r2 r3

/-- append of one literal row of cells, which stands in the newest block, in a region that draws its order. -/
theorem step_app1 (E : Elem P t e sz bytes z) {w : World} {ops : Array Oper} {o : Oper} {a : Act} {K : Act → World → Prop} {Q : Exit → Act → World → Prop} {F : Prop} {s x : Operand}
    {v : Value} {n m bx : Nat} {xs ys : List Value} {S : List Nat} (h : Row w v e sz n xs S) (hy : ys.length = m * sz) (hm : m ≤ maxLen)
    (h1 : ∀ y ∈ ys, y.oneCell' = true) (hb : (n + m) * bytes ≤ 140737488355328)
    (hK : ∀ ao cap w' S', Row w' (.slice ao (n + m) cap) e sz (n + m) (xs ++ ys) S' → Keeps S w w' → (∀ k ∈ S', k ∈ S ∨ w.heap.size ≤ k) → K (a.put o.dst (.slice ao (n + m) cap)) w')
    (hg : o.guard = none := by rfl) (hop : o.op = Op.call { callee := Callee.builtin Builtin.append, args := #[s, x], argTypes := #[t, t] } := by rfl) (hs : a.eval s = v := by rfl) (hx : a.eval x = .slice (some ⟨bx, 0, none⟩) m m := by rfl) (hbx : bx = w.heap.size := by first | rfl | simp) :
    if Region.wanted o (yielded ops a.tmps) = true then Oper.wp P o a (w.alloc (.cells ys.toArray e)) K Q else F := by
  subst hbx
  refine step_app E (h.alloc _) (Row.lit w ys e sz m hy hm).view h1 hb ?_ hg hop hs hx
  intro ao cap w' S' r1 r2 r3
  refine hK ao cap w' S' r1 (((Keeps.refl S w).alloc _).trans r2 (fun k hk => .inl hk)) (fun k hk => ?_)
  rcases r3 k hk with h | h
  · exact .inl h
  · right; simp at h; omega

/-- make([]T, n) in the walk. -/
theorem wp_make (E : Elem P t e sz bytes z) {w : World} {ops : Array Oper} {rest : List Oper} {o : Oper} {a : Act} {Q : Exit → Act → World → Prop} {l c : Operand}
    {kl kc : IntKind} {L C : Int} (n : Nat) (hb : n * bytes ≤ 281474976710656)
    (hK : ∀ w', Row w' (.slice (some ⟨w.heap.size, 0, none⟩) n n) e sz n (madeCells z.cells (n * sz)).toList [w.heap.size] → Keeps [] w w' → wpList P ops Q rest (a.put o.dst (.slice (some ⟨w.heap.size, 0, none⟩) n n)) w')
    (hg : o.guard = none := by rfl) (hop : o.op = Op.makeSlice t l c := by rfl) (hl : a.eval l = .int kl L := by rfl) (hc : a.eval c = .int kc C := by rfl) (hL : L = (n : Int)) (hC : C = (n : Int)) :
    wpList P ops Q (o :: rest) a w := by
  obtain ⟨ht, hinf, hz, hpos, hby⟩ := E
  obtain ⟨i, hi, hi1, hi2, hi3⟩ := info_parts hinf
  clear hinf
  have hsmall : n ≤ 281474976710656 := Nat.le_trans (Nat.le_mul_of_pos_right _ hby) hb
  refine wpList_make_full w hg l c t hop 0 e i z sz ht hi hi1 hi2 kl kc L C n hl hc hL hC (by rw [hi3, Nat.mul_comm]; exact hb) (by simp only [maxLen]; omega) (Nat.zero_le _) ?_
  intro w' h1 h2
  exact hK w' (Row.of_own h1).1 ((Keeps.refl [] w).grown h2 (by simp))

/-- make([]T, 0, n) in the walk. -/
theorem wp_make0 (E : Elem P t e sz bytes z) {w : World} {ops : Array Oper} {rest : List Oper} {o : Oper} {a : Act} {Q : Exit → Act → World → Prop} {l c : Operand}
    {kl kc : IntKind} {C : Int} (n : Nat) (hb : n * bytes ≤ 281474976710656)
    (hK : ∀ w', Row w' (.slice (some ⟨w.heap.size, 0, none⟩) 0 n) e sz 0 [] [w.heap.size] → Keeps [] w w' → wpList P ops Q rest (a.put o.dst (.slice (some ⟨w.heap.size, 0, none⟩) 0 n)) w')
    (hg : o.guard = none := by rfl) (hop : o.op = Op.makeSlice t l c := by rfl) (hl : a.eval l = .int kl 0 := by rfl) (hc : a.eval c = .int kc C := by rfl) (hC : C = (n : Int)) :
    wpList P ops Q (o :: rest) a w := by
  obtain ⟨ht, hinf, hz, hpos, hby⟩ := E
  obtain ⟨i, hi, hi1, hi2, hi3⟩ := info_parts hinf
  clear hinf
  have hsmall : n ≤ 281474976710656 := Nat.le_trans (Nat.le_mul_of_pos_right _ hby) hb
  refine wpList_make_own w hg l c t hop 0 e i z sz ht hi hi1 hi2 kl kc C n hl hc hC (by rw [hi3, Nat.mul_comm]; exact hb) (by simp only [maxLen]; omega) (Nat.zero_le _) ?_
  intro w' h1 h2
  exact hK w' (Row.of_own h1).1 ((Keeps.refl [] w).grown h2 (by simp))
/-- copy(dst, src): cells of one element each. -/
theorem wp_copy (E : Elem P t e 1 bytes z) {w : World} {ops : Array Oper} {rest : List Oper} {o : Oper} {a : Act} {Q : Exit → Act → World → Prop} {d s : Operand}
    {v u : Value} {n m : Nat} {xs ys : List Value} {S T : List Nat} (h : Row w v e 1 n xs S) (hu : View w u 1 m ys T) (h1 : ∀ y ∈ ys, y.oneCell' = true)
    (hK : ∀ w', Row w' v e 1 n (ys.take (min m n) ++ xs.drop (min m n)) S → Keeps S w w' → wpList P ops Q rest (a.put o.dst (goInt ((min m n : Nat) : Int))) w')
    (hg : o.guard = none := by rfl) (hop : o.op = .call { callee := .builtin .copy, args := #[d, s], argTypes := #[t, t] } := by rfl) (hd : a.eval d = v := by rfl) (hs : a.eval s = u := by rfl) :
    wpList P ops Q (o :: rest) a w := by
  obtain ⟨ht, hinf, hz, hpos, hby⟩ := E
  obtain ⟨i, hi, hi1, hi2, hi3⟩ := info_parts hinf
  have hsz : (P.info? e).map (·.size) = some 1 := by rw [hi]; simp [hi2]
  obtain ⟨hul, bo, bap, rfl, hub, hum, hu4⟩ := hu
  obtain ⟨hl, ao, cap, rfl, hnc, hcm, h4⟩ := h
  by_cases h0 : min m n = 0
  · refine wpList_copy_nothing hg d s t t hop e ht hsz ao bo n cap m bap hd hs (by simpa [Nat.min_def] using h0) ?_
    have := hK w ⟨by rw [h0]; simpa using hl, _, _, rfl, hnc, hcm, by rw [h0]; simpa using h4⟩ (Keeps.refl _ _)
    rwa [h0] at this
  · rcases h4 with ⟨_, rfl, _⟩ | ⟨g, off, cur, rfl, rfl, hb, hfit, hc⟩
    · simp at h0
    · rcases hu4 with ⟨rfl, _⟩ | ⟨ug, uoff, rfl, rfl, hug, huc⟩
      · simp at h0
      · have hml : (ys.take (min m n)).length = min m n := by rw [List.length_take, hul]; omega
        refine wpList_copy_own hg d s t t hop e ht hsz g off n cap ⟨ug, uoff, none⟩ m bap hd hs cur.toArray e hb (ys.take (min m n)) (by rw [hml]) ?_ (by rw [hml, List.size_toArray]; omega) (fun y hy => h1 y (List.mem_of_mem_take hy)) ?_
        · intro j y hy
          rw [List.getElem?_take] at hy
          split at hy
          · rw [Addr.add_lit, huc j (List.getElem?_eq_some_iff.1 hy).1]; exact hy
          · cases hy
        · rw [hml]
          refine hK _ ⟨?_, _, _, rfl, hnc, hcm, .inr ⟨g, off, _, rfl, rfl, setRow_heap w g cur.toArray _ e _ hb, ?_, ?_⟩⟩ ((Keeps.refl _ w).setRow (by simp) _)
          · rw [List.length_append, hml, List.length_drop, hl]; omega
          · simp only [List.length_append, List.length_take, List.length_drop, hml]
            omega
          · intro j hj
            have hjl : j < n := by rw [List.length_append, hml, List.length_drop] at hj; omega
            have htl : (cur.take off).length = off := by rw [List.length_take]; omega
            rw [List.getElem?_append_right (by rw [htl]; omega), htl, show off + j - off = j by omega]
            by_cases hjm : j < min m n
            · rw [List.getElem?_append_left (by rw [hml]; exact hjm), List.getElem?_append_left (by rw [hml]; exact hjm)]
            · rw [List.getElem?_append_right (by rw [hml]; omega), List.getElem?_append_right (by rw [hml]; omega), hml, List.getElem?_drop, List.getElem?_drop]
              rw [show off + min m n + (j - min m n) = off + j by omega, show min m n + (j - min m n) = j by omega]
              exact hc j (by omega)
end

end Go.Proofs.Ytopkfhmdgheghaa
