/-
  Regions that draw their order and only look: operations in the order of the text.
  Conditions: none; nothing of the program stands here.
-/
import Derived.Test.YtgjpdogjekmemaaDoorFli
namespace Go.Proofs.YtgjpdogjekmemaaDoor
open Go.RowKit
set_option linter.unusedVariables false
set_option linter.unusedSimpArgs false
namespace Fl
/-- operation i yields into b + i, and looks at what comes ahead of it -/
def okOp (b i : Nat) (o : Oper) : Bool :=
  (o.dst == some (b + i)) && (match o.op with | .select .. => false | _ => true) && (o.after.toList.all fun e => !Region.binds .any e || decide (e.on < i)) &&
  (o.op.operands.toList.all fun | .tmp t => decide (t < b) || o.after.toList.any (fun e => Region.binds .any e && (b + e.on == t)) | _ => true) &&
  (match o.guard with | some (g, _) => o.after.toList.any (fun e => Region.binds .any e && (e.on == g)) | none => true)
def okFrom (b : Nat) : Nat → List Oper → Bool
  | _, [] => true
  | i, o :: l => okOp b i o && okFrom b (i + 1) l
theorem okFrom.at {b : Nat} : ∀ {l : List Oper} {i : Nat}, okFrom b i l = true → ∀ {j : Nat} {o : Oper}, l[j]? = some o → okOp b (i + j) o = true
  | [], _, _, _, _, h => by simp at h
  | x :: l, i, h, j, o, hj => by
    unfold okFrom at h
    rw [Bool.and_eq_true] at h
    cases j with
    | zero => simp at hj; subst hj; exact h.1
    | succ j =>
      have := okFrom.at h.2 (j := j) (o := o) (by simpa using hj)
      rw [show i + (j + 1) = i + 1 + j by omega]; exact this
section
variable {ops : Array Oper} {b i : Nat} {listed : Array Bool}
theorem okOp.dst {o : Oper} (h : okOp b i o = true) : o.dst = some (b + i) := by
  unfold okOp at h; simp only [Bool.and_eq_true] at h; simpa using h.1.1.1.1
theorem okOp.looks (H : okFrom b 0 ops.toList = true) {o : Oper} (hi : ops[i]? = some o) {t : Nat} (ht : t ∈ o.looksAt ops) :
    t < b ∨ ∃ e ∈ o.after, Region.binds .any e = true ∧ e.on < i ∧ b + e.on = t := by
  have h := okFrom.at H (j := i) (o := o) (by simpa using hi)
  rw [Nat.zero_add] at h
  unfold okOp at h
  simp only [Bool.and_eq_true] at h
  obtain ⟨⟨⟨⟨_, _⟩, h3⟩, h4⟩, h5⟩ := h
  have lt : ∀ e ∈ o.after.toList, Region.binds .any e = true → e.on < i := fun e he hb => by
    have := List.all_eq_true.1 h3 e he
    simpa [hb] using this
  unfold Oper.looksAt at ht
  rw [List.mem_append] at ht
  rcases ht with ht | ht
  · obtain ⟨x, hx, hxt⟩ := List.mem_filterMap.1 ht
    have hq := List.all_eq_true.1 h4 x hx
    cases x with
    | tmp u =>
      simp only [Option.some.injEq] at hxt
      subst hxt
      simp only [Bool.or_eq_true, decide_eq_true_iff] at hq
      rcases hq with hq | hq
      · exact .inl hq
      · obtain ⟨e, he, hb⟩ := List.any_eq_true.1 hq
        simp only [Bool.and_eq_true, beq_iff_eq] at hb
        exact .inr ⟨e, by simpa using he, hb.1, lt e he hb.1, hb.2⟩
    | _ => simp at hxt
  · cases hg : o.guard with
    | none => rw [hg] at ht; simp at ht
    | some p =>
      obtain ⟨g, w⟩ := p
      rw [hg] at ht h5
      simp only at ht h5
      obtain ⟨e, he, hb⟩ := List.any_eq_true.1 h5
      simp only [Bool.and_eq_true, beq_iff_eq] at hb
      cases hog : ops[g]? with
      | none => rw [hog] at ht; simp at ht
      | some og =>
        have := okOp.dst (okFrom.at H (j := g) (o := og) (by simpa using hog))
        rw [hog] at ht
        simp [this] at ht
        exact .inr ⟨e, by simpa using he, hb.1, lt e he hb.1, by omega⟩
theorem okTake_of (H : okFrom b 0 ops.toList = true) (hl : ∀ j, j < ops.size → listed[j]? = some (decide (j < i))) (hi : i < ops.size) : okTake .any ops none listed i = true := by
  have gd : ∀ j (x : Bool), j < ops.size → listed.getD j x = decide (j < i) := fun j x hj => by rw [Array.getD_eq_getD_getElem?, hl j hj]; rfl
  have at_ : ∀ j, j < ops.size → ∃ o, ops[j]? = some o := fun j hj => ⟨_, Array.getElem?_eq_getElem hj⟩
  have ok : ∀ j o, ops[j]? = some o → okOp b j o = true := fun j o ho => by
    have := okFrom.at H (j := j) (o := o) (by simpa using ho)
    rwa [Nat.zero_add] at this
  unfold okTake
  simp only [Bool.and_eq_true]
  refine ⟨⟨⟨?_, ?_⟩, ?_⟩, rfl⟩
  · unfold Region.noSelect
    rw [Array.all_eq_true_iff_forall_mem]
    intro o ho
    obtain ⟨j, hj⟩ := Array.getElem?_of_mem ho
    have := ok j o hj
    unfold okOp at this
    simp only [Bool.and_eq_true] at this
    exact this.1.1.1.2
  · obtain ⟨oi, hoi⟩ := at_ i hi
    unfold Region.free
    rw [hoi]
    simp only
    rw [List.all_eq_true]
    intro j hj
    have hj := List.mem_range.1 hj
    obtain ⟨oj, hoj⟩ := at_ j hj
    rw [hoj, gd j true hj]
    by_cases h1 : j ≤ i
    · rcases Nat.lt_or_eq_of_le h1 with h | h
      · simp [h]
      · simp [h]
    · simp only [Bool.or_eq_true]
      by_cases h2 : ∃ e ∈ oj.after, Region.binds .any e = true ∧ e.on = i
      · obtain ⟨e, he, hb, ho⟩ := h2
        refine .inr (.inl (Array.any_eq_true'.2 ⟨e, he, by simp [hb, ho]⟩))
      · refine .inr (.inr ?_)
        have d1 := okOp.dst (ok i oi hoi)
        have d2 := okOp.dst (ok j oj hoj)
        unfold Oper.apart
        simp only [d1, d2, Bool.and_eq_true, Bool.not_eq_true', bne_iff_ne, ne_eq, Option.some.injEq]
        refine ⟨⟨?_, by omega⟩, ?_⟩
        · rw [← Bool.not_eq_true, List.contains_iff_mem]
          intro hm
          rcases okOp.looks H hoj hm with h | ⟨e, he, hb, _, ho⟩
          · omega
          · exact h2 ⟨e, he, hb, by omega⟩
        · rw [← Bool.not_eq_true, List.contains_iff_mem]
          intro hm
          rcases okOp.looks H hoi hm with h | ⟨e, he, hb, hlt, ho⟩ <;> omega
  · rw [List.contains_iff_mem]
    refine List.mem_filter.2 ⟨List.mem_range.2 hi, ?_⟩
    obtain ⟨oi, hoi⟩ := at_ i hi
    rw [hoi, gd i true hi]
    have := ok i oi hoi
    unfold okOp at this
    simp only [Bool.and_eq_true] at this
    have h3 := this.1.1.2
    simp only [Nat.lt_irrefl, decide_false, Bool.not_false, Bool.true_and, Option.map_some, Option.getD_some]
    rw [Array.all_eq_true_iff_forall_mem]
    intro e he
    have := List.all_eq_true.1 h3 e (by simpa using he)
    simp only [Bool.or_eq_true, decide_eq_true_iff] at this ⊢
    rcases this with h | h
    · exact .inl h
    · refine .inr ?_
      rw [gd e.on false (by omega)]
      exact decide_eq_true h
end
section
variable (P : Program) (c : Cx)
structure JLk (b : Nat) (ops : Array Oper) (i : Nat) (l : List Oper) (k : List Item) (f : Fm) (L : List Res) : Prop where
  go : okFrom b 0 ops.toList = true → ∀ listed : Array Bool, listed.size = ops.size → (∀ j, j < ops.size → listed[j]? = some (decide (j < i))) → ops.toList.drop i = l → JD P c ops none [] l.length listed k f L f L
end
section
variable {P : Program} {c : Cx} {k : List Item} {f : Fm} {L : List Res} {ops : Array Oper} {l : List Oper} {o : Oper} {b i t : Nat}
theorem J.look {id : Nat} (b : Nat) (hm : P.follows .mixedOrders = true) (hb : okFrom b 0 l = true) (h : JLk P c b l.toArray 0 l k f L) : J P c (.code (.region id l.toArray true) :: k) f L :=
  J.draw hm rfl (JW.base none (h.go (by simpa using hb) _ (by simp) (fun j hj => by simp at hj; simp [hj]) rfl))
theorem lst_set {listed : Array Bool} (hs : listed.size = ops.size) (hl : ∀ j, j < ops.size → listed[j]? = some (decide (j < i))) : ∀ j, j < ops.size → (listed.setIfInBounds i true)[j]? = some (decide (j < i + 1)) := fun j hj => by
  rw [Array.getElem?_setIfInBounds]
  by_cases h : i = j
  · subst h; simp [hs, hj]
  · rw [if_neg h, hl j hj]
    congr 1
    exact decide_eq_decide.2 (by omega)
theorem drop_cons (h : ops.toList.drop i = o :: l) : ops[i]? = some o ∧ ops.toList.drop (i + 1) = l ∧ i < ops.size := by
  have h1 : ops.toList[i]? = some o := by rw [← List.head?_drop, h]; rfl
  refine ⟨by simpa using h1, ?_, ?_⟩
  · rw [← List.tail_drop, h]; rfl
  · have := (List.getElem?_eq_some_iff.1 h1).1; simpa using this
theorem JLk.q {d : D} {U : List Nat} (hd : o.dst = some t) (hw : Wants ops o f = true) (ht : t < c.N) (q : Qt P c U o f L d) (h : JLk P c b ops (i + 1) l k ((t, d) :: f) L) : JLk P c b ops i (o :: l) k f L := ⟨fun H listed hs hl hdr => by
  obtain ⟨h1, h2, h3⟩ := drop_cons hdr
  exact JD.take i h1 hd (okTake_of H hl h3) hw ht q (by simp) (h.go H _ (by simpa using hs) (lst_set hs hl) h2)⟩
theorem JLk.no (hd : o.dst = some t) (hw : Wants0 ops o f = true) (ht : t < c.N) (h : JLk P c b ops (i + 1) l k ((t, .tup []) :: f) L) : JLk P c b ops i (o :: l) k f L := ⟨fun H listed hs hl hdr => by
  obtain ⟨h1, h2, h3⟩ := drop_cons hdr
  exact JD.skip i h1 hd (okTake_of H hl h3) hw ht (h.go H _ (by simpa using hs) (lst_set hs hl) h2)⟩
theorem JLk.nil (h : J P c k f L) : JLk P c b ops i [] k f L := ⟨fun H listed hs hl hdr => by
  refine JD.done ?_ h
  unfold Region.ready
  rw [List.filter_eq_nil_iff]
  intro j hj
  have hj := List.mem_range.1 hj
  have : ops.toList.length ≤ i := List.drop_eq_nil_iff.1 hdr
  have hi : j < i := by simp at this; omega
  rw [Array.getD_eq_getD_getElem?, hl j hj]
  simp [hi]⟩
end
end Fl
end Go.Proofs.YtgjpdogjekmemaaDoor
