/-
  The state of a walk told by plain data, and the moves of control.
  Conditions: none; nothing of the program stands here.
-/
import Derived.Test.YtgjpdogjekmemaaDoorFla
namespace Go.Proofs.YtgjpdogjekmemaaDoor
open Go.RowKit
set_option linter.unusedVariables false
set_option linter.unusedSimpArgs false
set_option linter.unnecessarySimpa false

namespace Fl
/-- whose walk it is: the function, what is to be shown at its end, the blocks that are lent to it, the blocks that it may read, the world at its beginning, how many slots -/
structure Cx where
  F : FuncId
  R : Ending → World → Prop
  lent : List Nat
  okE : Nat → Prop
  e : World
  N : Nat
abbrev Fm := List (Nat × D)
def look : Fm → Nat → Option D
  | [], _ => none
  | (k, d) :: f, t => cond (Nat.beq k t) (some d) (look f t)
def okk (c : Cx) (L : List Res) (x : Nat) : Prop := (c.okE x ∨ x ∈ c.lent ∨ c.e.heap.size ≤ x) ∧ x ∉ foots L
def Apart (L : List Res) : Prop := L.Pairwise (fun r s => ∀ x ∈ r.foot, x ∉ s.foot)
structure St (c : Cx) (f : Fm) (L : List Res) (a : Act) (w : World) : Prop where
  kp : Keeps c.lent c.e w
  size : a.tmps.size = c.N
  dfr : a.defers = []
  res : ∀ r ∈ L, r.holds (okk c L) w
  frm : ∀ x ∈ foots L, x ∈ c.lent ∨ c.e.heap.size ≤ x
  ap : Apart L
  fr : ∀ t d, look f t = some d → RD (okk c L) w d (a.tmps.getD t undef)
theorem St.lt {c : Cx} {f : Fm} {L : List Res} {a : Act} {w : World} (h : St c f L a w) : ∀ x ∈ foots L, x < w.heap.size := fun x hx => by
  obtain ⟨r, hr, hx⟩ := mem_foots.1 hx
  exact (h.res r hr).lt x hx
/-- from here the function comes to its end -/
def Run (P : Program) (c : Cx) (k : List Item) (a : Act) (w : World) : Prop :=
  ∀ (b : Frame) (cs : List Frame), b.fn = c.F → b.kind = .normal → ∃ en w' fr, c.R en w' ∧ Comes P (lone (b.at a k) cs w) (lone fr cs w') en ∧ fr.fn = c.F ∧ fr.leaving P w' en
structure J (P : Program) (c : Cx) (k : List Item) (f : Fm) (L : List Res) : Prop where
  go : ∀ a w, St c f L a w → Run P c k a w
theorem Run.step {P : Program} {c : Cx} {k k' : List Item} {a a' : Act} {w w' : World} (h : Run P c k' a' w') (hs : ∀ (b : Frame) (cs : List Frame), step P (lone (b.at a k) cs w) = .next (lone (b.at a' k') cs w')) : Run P c k a w := fun b cs hb hk => by
  obtain ⟨en, w2, fr, h1, h2, h3⟩ := h b cs hb hk
  exact ⟨en, w2, fr, h1, h2.of_steps (.one (hs b cs)), h3⟩
theorem Run.wp {P : Program} {c : Cx} {k : List Item} {x : Code} {a : Act} {w : World} (h : x.wp P (fun e a' w' => e = .normal ∧ Run P c k a' w') a w) : Run P c (.code x :: k) a w := fun b cs hb hk => by
  obtain ⟨e, a', w', ⟨rfl, hr⟩, harr⟩ := h b k cs
  obtain ⟨en, w2, fr, h1, h2, h3⟩ := hr b cs hb hk
  exact ⟨en, w2, fr, h1, h2.of_steps harr, h3⟩
section
variable {P : Program} {c : Cx} {k : List Item} {f : Fm} {L : List Res}
theorem J.seq {x y : Code} (h : J P c (.code x :: .code y :: k) f L) : J P c (.code (.seq x y) :: k) f L := ⟨fun a w s => (h.go a w s).step fun _ _ => step_seq⟩
theorem J.skip (h : J P c k f L) : J P c (.code .skip :: k) f L := ⟨fun a w s => (h.go a w s).step fun _ _ => step_skip⟩
theorem J.block {id : Nat} {x : Code} (h : J P c (.code x :: .inBlock id :: k) f L) : J P c (.code (.block id x) :: k) f L := ⟨fun a w s => (h.go a w s).step fun _ _ => step_block⟩
theorem J.inBlock {id : Nat} (h : J P c k f L) : J P c (.inBlock id :: k) f L := ⟨fun a w s => (h.go a w s).step fun _ _ => step_inBlock⟩
theorem J.exit {id : Nat} {k' : List Item} (e : exitTo id k = some k') (h : J P c k' f L) : J P c (.code (.exit id) :: k) f L := ⟨fun a w s => (h.go a w s).step fun _ _ => step_exit e⟩
/-- what an operand holds -/
def evD (f : Fm) : Operand → Option D
  | .tmp t => look f t
  | .const v => cond v.oneCell' (some (.c (.v v))) none
  | .global g => some (.c (.v (.pointer (some ⟨g, 0, none⟩))))
  | .func fn => some (.c (.v (.func (.func fn) #[] #[])))
theorem St.ev {a : Act} {w : World} (s : St c f L a w) {x : Operand} {d : D} (h : evD f x = some d) : RD (okk c L) w d (a.eval x) := by
  cases x with
  | tmp t => exact s.fr t d h
  | const v =>
    simp only [evD] at h
    cases ho : v.oneCell' with
    | false => rw [ho] at h; cases h
    | true => rw [ho] at h; cases h; unfold RD RA; exact ⟨rfl, ho⟩
  | global g => unfold evD at h; cases h; unfold RD RA; exact ⟨rfl, rfl⟩
  | func g => unfold evD at h; cases h; unfold RD RA; exact ⟨rfl, rfl⟩
theorem St.val {a : Act} {w : World} (s : St c f L a w) {x : Operand} {v : Value} (h : evD f x = some (.c (.v v))) : a.eval x = v := by
  have := s.ev h
  unfold RD RA at this
  exact this.1
theorem J.cond {x y : Code} {t : Operand} {b : Bool} (hc : evD f t = some (.c (.v (.bool b)))) (ht : b = true → J P c (.code x :: k) f L) (hf : b = false → J P c (.code y :: k) f L) : J P c (.code (.cond t x y) :: k) f L := ⟨fun a w s => by
  have hv := s.val hc
  cases b with
  | true => exact ((ht rfl).go a w s).step fun _ _ => step_cond hv
  | false => exact ((hf rfl).go a w s).step fun _ _ => step_cond hv⟩
theorem J.cond_t {x y : Code} {t : Operand} (hc : evD f t = some (.c (.v (.bool true)))) (ht : J P c (.code x :: k) f L) : J P c (.code (.cond t x y) :: k) f L := J.cond hc (fun _ => ht) (fun h => by cases h)
theorem J.cond_f {x y : Code} {t : Operand} (hc : evD f t = some (.c (.v (.bool false)))) (hf : J P c (.code y :: k) f L) : J P c (.code (.cond t x y) :: k) f L := J.cond hc (fun h => by cases h) (fun _ => hf)
/-- a loop: what holds at each round's head, told by i; a measure that falls -/
theorem J.loop {x : Code} {ι : Type} (fi : ι → Fm) (Li : ι → List Res) (μ : ι → Nat) (i0 : ι) (h0 : ∀ X, J P c X (fi i0) (Li i0) → J P c X f L)
    (round : ∀ i, (∀ i', μ i' < μ i → J P c (.inLoop x :: k) (fi i') (Li i')) → J P c (.code x :: .inLoop x :: k) (fi i) (Li i)) : J P c (.code (.loop x) :: k) f L := by
  have key : ∀ n i, μ i = n → J P c (.code x :: .inLoop x :: k) (fi i) (Li i) := by
    intro n
    induction n using Nat.strongRecOn with
    | _ n ih =>
      intro i hi
      exact round i fun i' hlt => ⟨fun a w s => ((ih (μ i') (hi ▸ hlt) i' rfl).go a w s).step fun _ _ => step_inLoop⟩
  have h1 := h0 _ (key _ i0 rfl)
  exact ⟨fun a w s => (h1.go a w s).step fun _ _ => step_loop⟩
/-- less is known of the slots -/
theorem J.less {f' : Fm} (hs : ∀ t d, look f' t = some d → look f t = some d) (h : J P c k f' L) : J P c k f L := ⟨fun a w s =>
  h.go a w ⟨s.kp, s.size, s.dfr, s.res, s.frm, s.ap, fun t d ht => s.fr t d (hs t d ht)⟩⟩
/-- the slots that are named, and no others -/
def Only (f : Fm) : Fm → Prop
  | [] => True
  | (t, d) :: f' => look f t = some d ∧ Only f f'
theorem Only.look {f : Fm} : ∀ {f' : Fm}, Only f f' → ∀ t d, look f' t = some d → look f t = some d
  | [], _, t, d, h => by simp [Fl.look] at h
  | (s, e) :: f', ho, t, d, h => by
    simp only [Fl.look] at h
    cases hb : Nat.beq s t with
    | true =>
      rw [hb] at h
      have : s = t := Nat.eq_of_beq_eq_true hb
      subst this
      simp at h; subst h; exact ho.1
    | false => rw [hb] at h; exact Only.look ho.2 t d h
theorem J.only (f' : Fm) (ho : Only f f') (h : J P c k f' L) : J P c k f L := J.less ho.look h
theorem pull_perm {α : Type} : ∀ (L : List α) (i : Nat) {r : α}, L[i]? = some r → (r :: L.eraseIdx i).Perm L
  | [], i, r, h => by simp at h
  | x :: L, 0, r, h => by simp at h; subst h; simp
  | x :: L, i + 1, r, h => by
    simp at h
    simp only [List.eraseIdx_cons_succ]
    exact (List.Perm.swap x r _).trans ((pull_perm L i h).cons x)
/-- number i of what is owned comes first -/
theorem J.pull (i : Nat) {r : Res} (hi : L[i]? = some r) (h : J P c k f (r :: L.eraseIdx i)) : J P c k f L := ⟨fun a w s => by
  have hp : (r :: L.eraseIdx i).Perm L := pull_perm L i hi
  have hm : ∀ x, x ∈ foots (r :: L.eraseIdx i) ↔ x ∈ foots L := fun x => by
    rw [mem_foots, mem_foots]
    exact ⟨fun ⟨q, hq, hx⟩ => ⟨q, hp.mem_iff.1 hq, hx⟩, fun ⟨q, hq, hx⟩ => ⟨q, hp.mem_iff.2 hq, hx⟩⟩
  have ho : okk c (r :: L.eraseIdx i) = okk c L := by
    funext x; unfold okk; rw [hm]
  refine h.go a w ⟨s.kp, s.size, s.dfr, fun q hq => by rw [ho]; exact s.res q (hp.mem_iff.1 hq), fun x hx => s.frm x ((hm x).1 hx), ?_, fun t d ht => by rw [ho]; exact s.fr t d ht⟩
  exact (hp.pairwise_iff (fun {x y} hxy z hz hz' => hxy z hz' hz)).2 s.ap⟩
/-- number i of what is owned is given up -/
theorem J.drop (i : Nat) (h : J P c k f (L.eraseIdx i)) : J P c k f L := ⟨fun a w s => by
  have hm : ∀ q, q ∈ L.eraseIdx i → q ∈ L := fun q hq => List.mem_of_mem_eraseIdx hq
  have hf : ∀ x, x ∈ foots (L.eraseIdx i) → x ∈ foots L := fun x hx => by
    obtain ⟨q, hq, hx⟩ := mem_foots.1 hx
    exact mem_foots.2 ⟨q, hm q hq, hx⟩
  have mo : Mon (okk c L) (okk c (L.eraseIdx i)) w w := ⟨Nat.le_refl _, fun g _ hg => ⟨⟨hg.1, fun hx => hg.2 (hf g hx)⟩, rfl⟩⟩
  exact h.go a w ⟨s.kp, s.size, s.dfr, fun q hq => (s.res q (hm q hq)).mon (Keeps.refl [] w) mo (by simp), fun x hx => s.frm x (hf x hx), s.ap.sublist (List.eraseIdx_sublist L i), fun t d ht => RD.mon mo d _ (s.fr t d ht)⟩⟩
end
end Fl
end Go.Proofs.YtgjpdogjekmemaaDoor
