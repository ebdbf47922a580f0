/-
  How a model lies in memory: its channels, each with a row of its own, and the map of those who wait.
  Conditions: none.
-/
import Derived.Test.YtopkfhmdgheghaaModelL
import Derived.Test.YtopkfhmdgheghaaPlanE
import Derived.Test.YtopkfhmdgheghaaCore
namespace Go.Proofs.Ytopkfhmdgheghaa
open Go.RowKit
set_option linter.unusedVariables false
set_option linter.unusedSimpArgs false
set_option linter.unnecessarySimpa false

def resV (r : Md.Res) : Array Value := #[.int .i64 r.code, .int .i64 r.cs, .int .i64 r.v, .bool r.ok, .int .i64 r.n]
def sdV (s : Md.Sd) : Array Value := #[.int .i64 s.ch, .bool s.send, .int .i64 s.v]
def opV (o : Pn.Op) (vc : Value) : Array Value := #[.int .i64 o.kind, .int .i64 o.ch, .int .i64 o.n, .int .i64 o.v, vc, .bool o.els]

/-- s[1:] of an owned row -/
theorem Row.tail {w : World} {g off n cap : Nat} {e : TypeId} {xs : List Value} {S : List Nat} (h : Row w (.slice (some ⟨g, off, none⟩) n cap) e 1 n xs S) (hn : 1 ≤ n) (ao : Option Addr) (ha : ao = some ⟨g, off, none⟩ ∧ cap = 1 ∨ ao = some ⟨g, off + 1, none⟩ ∧ cap ≠ 1) :
    Row w (.slice ao (n - 1) (cap - 1)) e 1 (n - 1) (xs.drop 1) S := by
  obtain ⟨h0, ao', cap', h1, h2, h3, h4⟩ := h
  obtain ⟨rfl, rfl⟩ := by simpa using h1
  rcases h4 with ⟨h4, _⟩ | ⟨g', off', cur, h4, rfl, hb, hl, hc⟩
  · cases h4
  · obtain ⟨rfl, rfl⟩ := by simpa using h4
    have hd : ∀ j, j < (xs.drop 1).length → cur[off + 1 + j]? = (xs.drop 1)[j]? := fun j hj => by
      rw [List.length_drop] at hj
      rw [List.getElem?_drop, show off + 1 + j = off + (1 + j) by omega]
      exact hc _ (by omega)
    rcases ha with ⟨rfl, hc1⟩ | ⟨rfl, hc1⟩
    · refine ⟨by simp; omega, _, _, rfl, by omega, by omega, .inr ⟨g, off, cur, rfl, rfl, hb, by omega, fun j hj => ?_⟩⟩
      rw [List.length_drop] at hj; omega
    · exact ⟨by simp; omega, _, _, rfl, by omega, by omega, .inr ⟨g, off + 1, cur, rfl, rfl, hb, by omega, hd⟩⟩

/-- channels that are owned: v's row (blocks T: colour 2), and the row of each (blocks Us[k]: colour 4 + k) -/
def CR (w : World) (v : Value) (cs : List Md.Ch) (N : Nat) (T : List Nat) (Us : List (List Nat)) (col : Nat → Nat) : Prop :=
  (∃ xs, Row w v 136 3 cs.length xs T ∧
    ∀ (k : Nat) c U, cs[k]? = some c → Us[k]? = some U → ∃ bv, xs[k * 3]? = some (.int .i64 c.cap) ∧ xs[k * 3 + 1]? = some bv ∧ xs[k * 3 + 2]? = some (.bool c.closed) ∧ KR .i64 w bv 2 c.buf U ∧ c.buf.length ≤ N) ∧
  Us.length = cs.length ∧ (∀ x ∈ T, col x = 2) ∧ ∀ (k : Nat) U, Us[k]? = some U → ∀ x ∈ U, col x = 4 + k
section
variable {w w' : World} {v : Value} {cs : List Md.Ch} {N M : Nat} {T S : List Nat} {Us : List (List Nat)} {col : Nat → Nat}
theorem CR.keep (h : CR w v cs N T Us col) (k : Keeps S w w') (h1 : ∀ x ∈ T, x ∉ S) (h2 : ∀ U ∈ Us, ∀ x ∈ U, x ∉ S) : CR w' v cs N T Us col := by
  obtain ⟨⟨xs, hr, hp⟩, h3, h4, h5⟩ := h
  refine ⟨⟨xs, hr.keep k h1, fun i c U a b => ?_⟩, h3, h4, h5⟩
  obtain ⟨bv, x0, x1, x2, x3, x4⟩ := hp i c U a b
  exact ⟨bv, x0, x1, x2, x3.keep k (h2 U (List.mem_of_getElem? b)), x4⟩
theorem CR.mono (h : CR w v cs N T Us col) (hN : N ≤ M) : CR w v cs M T Us col := by
  obtain ⟨⟨xs, hr, hp⟩, h3, h4, h5⟩ := h
  refine ⟨⟨xs, hr, fun i c U a b => ?_⟩, h3, h4, h5⟩
  obtain ⟨bv, x0, x1, x2, x3, x4⟩ := hp i c U a b
  exact ⟨bv, x0, x1, x2, x3, by omega⟩
theorem CR.lt (h : CR w v cs N T Us col) : (∀ x ∈ T, x < w.heap.size) ∧ ∀ U ∈ Us, ∀ x ∈ U, x < w.heap.size := by
  obtain ⟨⟨xs, hr, hp⟩, h3, _⟩ := h
  refine ⟨hr.lt, fun U hU x hx => ?_⟩
  obtain ⟨k, hk⟩ := List.mem_iff_getElem?.1 hU
  have hkl : k < cs.length := by rw [← h3]; exact (List.getElem?_eq_some_iff.1 hk).1
  obtain ⟨bv, _, _, _, x3, _⟩ := hp k _ U (List.getElem?_eq_getElem hkl) hk
  exact x3.lt x hx
theorem CR.shape (h : CR w v cs N T Us col) : ∃ ao cap, v = .slice ao cs.length cap := by obtain ⟨⟨xs, hr, _⟩, _⟩ := h; exact hr.shape
theorem CR.le (h : CR w v cs N T Us col) : cs.length ≤ maxLen := by obtain ⟨⟨xs, hr, _⟩, _⟩ := h; exact hr.le
theorem CR.ne (h : CR w v cs N T Us col) : (∀ U ∈ Us, ∀ x ∈ U, x ∉ T) := by
  obtain ⟨_, _, h4, h5⟩ := h
  intro U hU x hx hT
  obtain ⟨k, hk⟩ := List.mem_iff_getElem?.1 hU
  have := h5 k U hk x hx; have := h4 x hT; omega
theorem CR.get {ao : Option Addr} {m cap k : Nat} {c : Md.Ch} (h : CR w (.slice ao m cap) cs N T Us col) (hk : cs[k]? = some c) :
    ∃ g off bv U, ao = some ⟨g, off, none⟩ ∧ T = [g] ∧ g < w.heap.size ∧ w.cell? ⟨g, off + k * 3, none⟩ = some (.int .i64 c.cap) ∧ w.cell? ⟨g, off + k * 3 + 1, none⟩ = some bv ∧ w.cell? ⟨g, off + k * 3 + 2, none⟩ = some (.bool c.closed) ∧
      (∀ j, w.frozen? ⟨g, off + j, none⟩ = false) ∧ KR .i64 w bv 2 c.buf U ∧ Us[k]? = some U ∧ c.buf.length ≤ N := by
  obtain ⟨⟨xs, hr, hp⟩, h3, h4, h5⟩ := h
  have hkl := (List.getElem?_eq_some_iff.1 hk).1
  obtain ⟨g, off, rfl, rfl, hg, hc, hf⟩ := hr.cells (by omega)
  have hlen := hr.len
  have hU : Us[k]? = some Us[k] := List.getElem?_eq_getElem (by omega)
  obtain ⟨bv, x0, x1, x2, x3, x4⟩ := hp k c _ hk hU
  exact ⟨g, off, bv, Us[k], rfl, rfl, hg, (hc _ (by omega)).trans x0, by have := (hc (k * 3 + 1) (by omega)).trans x1; rwa [← Nat.add_assoc] at this, by have := (hc (k * 3 + 2) (by omega)).trans x2; rwa [← Nat.add_assoc] at this, hf, x3, hU, x4⟩
/-- the row of channel k is another one, and stored -/
theorem CR.put {g off m cap k : Nat} {c : Md.Ch} {U U' : List Nat} {bv' : Value} {buf' : List Int} (h : CR w (.slice (some ⟨g, off, none⟩) m cap) cs N T Us col) (hk : cs[k]? = some c) (hU : Us[k]? = some U)
    (kp : Keeps U w w') (hr' : KR .i64 w' bv' 2 buf' U') (hn : ∀ x ∈ U', x ∈ U ∨ w.heap.size ≤ x) (hM : N ≤ M) (hb : buf'.length ≤ M) :
    CR (w'.setCell ⟨g, off + k * 3 + 1, none⟩ bv') (.slice (some ⟨g, off, none⟩) m cap) (cs.set k ⟨c.cap, buf', c.closed⟩) M T (Us.set k U') (fun x => if x < w.heap.size then col x else 4 + k) ∧ Keeps (T ++ U) w (w'.setCell ⟨g, off + k * 3 + 1, none⟩ bv') := by
  have hlt := h.lt
  have hne := h.ne
  obtain ⟨⟨xs, hr, hp⟩, h3, h4, h5⟩ := h
  have hkl := (List.getElem?_eq_some_iff.1 hk).1
  have hxl := hr.len
  have hTU : ∀ x ∈ T, x ∉ U := fun x hx hu => hne U (List.mem_of_getElem? hU) x hu hx
  have hr2 := hr.keep kp hTU
  obtain ⟨hs, hks⟩ := hr2.stored (k * 3 + 1) (by omega) bv'
  rw [← Nat.add_assoc] at hs hks
  have hTU' : ∀ x ∈ U', x ∉ T := fun x hx ht => by
    rcases hn x hx with h | h
    · exact hTU x ht h
    · have := hlt.1 x ht; omega
  have hcol : ∀ i A, i ≠ k → Us[i]? = some A → ∀ x ∈ A, x ∉ U := fun i A hi hA x hx hx2 => by
    have := h5 i A hA x hx; have := h5 k U hU x hx2; omega
  refine ⟨⟨⟨xs.set (k * 3 + 1) bv', by rw [List.length_set]; exact hs, fun i d A a b => ?_⟩, by simp [h3], fun x hx => ?_, fun i A b x hx => ?_⟩, ?_⟩
  · by_cases hi : k = i
    · subst hi
      rw [List.getElem?_set_self hkl] at a
      rw [List.getElem?_set_self (by omega)] at b
      cases a; cases b
      obtain ⟨bv, x0, x1, x2, x3, x4⟩ := hp k c U hk hU
      exact ⟨bv', by rw [List.getElem?_set_ne (by omega)]; exact x0, by rw [List.getElem?_set_self (by omega)], by rw [List.getElem?_set_ne (by omega)]; exact x2, hr'.keep hks hTU', hb⟩
    · rw [List.getElem?_set_ne hi] at a b
      obtain ⟨bv, x0, x1, x2, x3, x4⟩ := hp i d A a b
      exact ⟨bv, by rw [List.getElem?_set_ne (by omega)]; exact x0, by rw [List.getElem?_set_ne (by omega)]; exact x1, by rw [List.getElem?_set_ne (by omega)]; exact x2,
        (x3.keep kp (hcol i A (fun e => hi e.symm) b)).keep hks (hne A (List.mem_of_getElem? b)), by omega⟩
  · have := hlt.1 x hx
    simp [this, h4 x hx]
  · by_cases hi : k = i
    · subst hi
      rw [List.getElem?_set_self (by omega)] at b
      cases b
      by_cases hx2 : x < w.heap.size
      · rcases hn x hx with h | h
        · simp [hx2, h5 k U hU x h]
        · omega
      · simp [hx2]
    · rw [List.getElem?_set_ne hi] at b
      have := hlt.2 A (List.mem_of_getElem? b) x hx
      simp [this, h5 i A b x hx]
  · exact (kp.mono (T := T ++ U) (fun x hx => .inl (by simp [hx]))).trans (hks.mono (T := T ++ U) (fun x hx => .inl (by simp [hx]))) (fun x hx => .inl hx)
/-- channel k is closed -/
theorem CR.shut {g off m cap k : Nat} {c : Md.Ch} (h : CR w (.slice (some ⟨g, off, none⟩) m cap) cs N T Us col) (hk : cs[k]? = some c) :
    CR (w.setCell ⟨g, off + k * 3 + 2, none⟩ (.bool true)) (.slice (some ⟨g, off, none⟩) m cap) (cs.set k ⟨c.cap, c.buf, true⟩) N T Us col ∧ Keeps T w (w.setCell ⟨g, off + k * 3 + 2, none⟩ (.bool true)) := by
  have hne := h.ne
  obtain ⟨⟨xs, hr, hp⟩, h3, h4, h5⟩ := h
  have hkl := (List.getElem?_eq_some_iff.1 hk).1
  have hxl := hr.len
  obtain ⟨hs, hks⟩ := hr.stored (k * 3 + 2) (by omega) (.bool true)
  rw [← Nat.add_assoc] at hs hks
  refine ⟨⟨⟨xs.set (k * 3 + 2) (.bool true), by rw [List.length_set]; exact hs, fun i d A a b => ?_⟩, by simp [h3], h4, h5⟩, hks⟩
  by_cases hi : k = i
  · subst hi
    rw [List.getElem?_set_self hkl] at a
    cases a
    obtain ⟨bv, x0, x1, x2, x3, x4⟩ := hp k c A hk b
    exact ⟨bv, by rw [List.getElem?_set_ne (by omega)]; exact x0, by rw [List.getElem?_set_ne (by omega)]; exact x1, by rw [List.getElem?_set_self (by omega)], x3.keep hks (hne A (List.mem_of_getElem? b)), x4⟩
  · rw [List.getElem?_set_ne hi] at a
    obtain ⟨bv, x0, x1, x2, x3, x4⟩ := hp i d A a b
    exact ⟨bv, by rw [List.getElem?_set_ne (by omega)]; exact x0, by rw [List.getElem?_set_ne (by omega)]; exact x1, by rw [List.getElem?_set_ne (by omega)]; exact x2, x3.keep hks (hne A (List.mem_of_getElem? b)), x4⟩
/-- one channel more -/
theorem CR.more {xs : List Value} {v' : Value} {T' : List Nat} {room : Int} (h3 : Us.length = cs.length) (h4 : ∀ x ∈ T, col x = 2) (h5 : ∀ (k : Nat) U, Us[k]? = some U → ∀ x ∈ U, col x = 4 + k) (hlt : ∀ U ∈ Us, ∀ x ∈ U, x < w.heap.size) (hxl : xs.length = cs.length * 3)
    (hp : ∀ (k : Nat) c U, cs[k]? = some c → Us[k]? = some U → ∃ bv, xs[k * 3]? = some (.int .i64 c.cap) ∧ xs[k * 3 + 1]? = some bv ∧ xs[k * 3 + 2]? = some (.bool c.closed) ∧ KR .i64 w bv 2 c.buf U ∧ c.buf.length ≤ N)
    (hr : Row w' v' 136 3 (cs.length + 1) (xs ++ [.int .i64 room, .slice none 0 0, .bool false]) T') (kp : Keeps T w w') (hn : ∀ x ∈ T', x ∈ T ∨ w.heap.size ≤ x) (hlT : ∀ x ∈ T, x < w.heap.size) :
    CR w' v' (cs ++ [⟨room, [], false⟩]) N T' (Us ++ [[]]) (fun x => if x < w.heap.size then col x else 2) := by
  refine ⟨⟨_, by rw [List.length_append]; exact hr, fun i d A a b => ?_⟩, by simp [h3], fun x hx => ?_, fun i A b x hx => ?_⟩
  · by_cases hi : i < cs.length
    · rw [List.getElem?_append_left hi] at a
      rw [List.getElem?_append_left (by omega)] at b
      obtain ⟨bv, x0, x1, x2, x3, x4⟩ := hp i d A a b
      exact ⟨bv, by rw [List.getElem?_append_left (by omega)]; exact x0, by rw [List.getElem?_append_left (by omega)]; exact x1, by rw [List.getElem?_append_left (by omega)]; exact x2,
        x3.keep kp (fun x hx hT => by have := h5 i A b x hx; have := h4 x hT; omega), x4⟩
    · have hi2 : i = cs.length := by
        have := (List.getElem?_eq_some_iff.1 a).1
        simp at this; omega
      subst hi2
      rw [List.getElem?_append_right (by omega)] at a b
      simp [h3] at a b
      subst a b
      refine ⟨.slice none 0 0, ?_, ?_, ?_, KR.nil _ _ _, by simp⟩
      · rw [List.getElem?_append_right (by omega), hxl]; simp
      · rw [List.getElem?_append_right (by omega), hxl]; simp
      · rw [List.getElem?_append_right (by omega), hxl]; simp
  · by_cases hx2 : x < w.heap.size
    · rcases hn x hx with h | h
      · simp [hx2, h4 x h]
      · omega
    · simp [hx2]
  · by_cases hi : i < Us.length
    · rw [List.getElem?_append_left hi] at b
      have := hlt A (List.mem_of_getElem? b) x hx
      simp [this, h5 i A b x hx]
    · rw [List.getElem?_append_right (by omega)] at b
      match i - Us.length, b with
      | 0, b => simp at b; subst b; cases hx
      | j + 1, b => simp at b
end

/-- who waits: what the map's values are; the blocks of their cases lie in S -/
def WM (w : World) (f : Int → Option Value) (ws : Int → Option Pn.Op) (S : List Nat) : Prop :=
  ∀ g, match ws g with
    | none => f g = none
    | some o => wf64L g ∧ ∃ vc U, f g = some (.agg (opV o vc)) ∧ GV caseE 3 w vc o.cases U ∧ ∀ x ∈ U, x ∈ S
theorem WM.keep {w w' : World} {f : Int → Option Value} {ws : Int → Option Pn.Op} {S T : List Nat} (h : WM w f ws S) (k : Keeps T w w') (hn : ∀ x ∈ S, x ∉ T) : WM w' f ws S := by
  intro g
  have hg := h g
  cases hw : ws g with
  | none => rw [hw] at hg; exact hg
  | some o =>
    rw [hw] at hg
    obtain ⟨h0, vc, U, h1, h2, h3⟩ := hg
    exact ⟨h0, vc, U, h1, h2.keep caseE_kept k (fun x hx => hn x (h3 x hx)), h3⟩
theorem WM.none {w : World} {f : Int → Option Value} {ws : Int → Option Pn.Op} {S : List Nat} (h : WM w f ws S) {g : Int} (hg : ws g = .none) : f g = .none := by
  have := h g; rw [hg] at this; exact this
theorem WM.some {w : World} {f : Int → Option Value} {ws : Int → Option Pn.Op} {S : List Nat} (h : WM w f ws S) {g : Int} {o : Pn.Op} (hg : ws g = .some o) : wf64L g ∧ ∃ vc U, f g = .some (.agg (opV o vc)) ∧ GV caseE 3 w vc o.cases U ∧ ∀ x ∈ U, x ∈ S := by
  have := h g; rw [hg] at this; exact this
theorem WM.inv {w : World} {f : Int → Option Value} {ws : Int → Option Pn.Op} {S : List Nat} (h : WM w f ws S) {g : Int} {v : Value} (hg : f g = .some v) : ∃ o vc U, ws g = .some o ∧ v = .agg (opV o vc) ∧ GV caseE 3 w vc o.cases U ∧ ∀ x ∈ U, x ∈ S := by
  cases hw : ws g with
  | none => rw [h.none hw] at hg; cases hg
  | some o =>
    obtain ⟨_, vc, U, h1, h2, h3⟩ := h.some hw
    rw [h1] at hg
    cases hg
    exact ⟨o, vc, U, rfl, rfl, h2, h3⟩
theorem WM.drop {w : World} {f : Int → Option Value} {ws : Int → Option Pn.Op} {S : List Nat} (h : WM w f ws S) (g : Int) : WM w (fun c => if c = g then .none else f c) (Md.drops ws g) S := by
  intro c
  unfold Md.drops
  by_cases e : c = g
  · simp [e]
  · simp only [e, if_false]; exact h c
theorem WM.add {w : World} {f : Int → Option Value} {ws : Int → Option Pn.Op} {S U : List Nat} (h : WM w f ws S) (g : Int) (hwg : wf64L g) (o : Pn.Op) (vc : Value) (hv : GV caseE 3 w vc o.cases U) : WM w (fun c => if c = g then .some (.agg (opV o vc)) else f c) (fun c => if c = g then .some o else ws c) (S ++ U) := by
  intro c
  by_cases e : c = g
  · simp only [e, if_true]; exact ⟨hwg, vc, U, rfl, hv, fun x hx => by simp [hx]⟩
  · simp only [e, if_false]
    have hc := h c
    cases hw : ws c with
    | none => rw [hw] at hc; exact hc
    | some o' => rw [hw] at hc; obtain ⟨h0, vc', U', h1, h2, h3⟩ := hc; exact ⟨h0, vc', U', h1, h2, fun x hx => by simp [h3 x hx]⟩

/-- the model at p, with all its parts: the block b, the map bm, the channels' value vc .. -/
structure MoAt (w : World) (b bm : Nat) (vc : Value) (st : Md.St) (N : Nat) (S T : List Nat) (Us : List (List Nat)) (SW : List Nat) (f : Int → Option Value) (col : Nat → Nat) : Prop where
  blk : Blk w b [vc, .map (some bm)] 103
  chans : CR w vc st.chans N T Us col
  map : MapV Try.prog 3 w bm N f
  wm : WM w f st.waits SW
  cb : col b = 0
  cm : col bm = 1
  cw : ∀ x ∈ SW, col x = 3
  sb : b ∈ S
  sm : bm ∈ S
  st : ∀ x ∈ T, x ∈ S
  su : ∀ U ∈ Us, ∀ x ∈ U, x ∈ S
  sw : ∀ x ∈ SW, x ∈ S
  lt : ∀ x ∈ S, x < w.heap.size
def Mo (w : World) (p : Value) (st : Md.St) (N : Nat) (S : List Nat) : Prop :=
  ∃ b bm vc T Us SW f col, p = .pointer (some ⟨b, 0, none⟩) ∧ MoAt w b bm vc st N S T Us SW f col
section
variable {w w' : World} {b bm : Nat} {vc : Value} {st : Md.St} {N : Nat} {S T X SW : List Nat} {Us : List (List Nat)} {f : Int → Option Value} {col : Nat → Nat} {p : Value}
theorem MoAt.keep (h : MoAt w b bm vc st N S T Us SW f col) (k : Keeps X w w') (hX : ∀ x ∈ S, x ∉ X) : MoAt w' b bm vc st N S T Us SW f col :=
  ⟨h.blk.keep k (hX b h.sb), h.chans.keep k (fun x hx => hX x (h.st x hx)) (fun U hU x hx => hX x (h.su U hU x hx)), h.map.keep k (hX bm h.sm), h.wm.keep k (fun x hx => hX x (h.sw x hx)), h.cb, h.cm, h.cw, h.sb, h.sm, h.st, h.su, h.sw, fun x hx => Nat.lt_of_lt_of_le (h.lt x hx) k.size⟩
theorem MoAt.then (h : MoAt w b bm vc st N S T Us SW f col) (k : Keeps [] w w') : MoAt w' b bm vc st N S T Us SW f col := h.keep k (by simp)
theorem Mo.keep (h : Mo w p st N S) (k : Keeps X w w') (hX : ∀ x ∈ S, x ∉ X) : Mo w' p st N S := by
  obtain ⟨b, bm, vc, T, Us, SW, f, col, h1, h2⟩ := h
  exact ⟨b, bm, vc, T, Us, SW, f, col, h1, h2.keep k hX⟩
theorem Mo.then (h : Mo w p st N S) (k : Keeps [] w w') : Mo w' p st N S := h.keep k (by simp)
theorem Mo.lt (h : Mo w p st N S) : ∀ x ∈ S, x < w.heap.size := by obtain ⟨_, _, _, _, _, _, _, _, _, h2⟩ := h; exact h2.lt
theorem MoAt.cells (h : MoAt w b bm vc st N S T Us SW f col) : w.cell? ⟨b, 0, none⟩ = some vc ∧ w.cell? ⟨b, 1, none⟩ = some (.map (some bm)) ∧ w.frozen? ⟨b, 0, none⟩ = false ∧ w.frozen? ⟨b, 1, none⟩ = false :=
  ⟨h.blk.cell 0, h.blk.cell 1, h.blk.free 0, h.blk.free 1⟩
/-- blocks of other colours -/
theorem MoAt.nT (h : MoAt w b bm vc st N S T Us SW f col) : b ∉ T ∧ bm ∉ T ∧ b ≠ bm ∧ (∀ x ∈ SW, x ∉ T ∧ x ≠ b ∧ x ≠ bm) ∧ ∀ (k : Nat) U, Us[k]? = some U → b ∉ U ∧ bm ∉ U ∧ (∀ x ∈ SW, x ∉ U) ∧ ∀ x ∈ U, x ∉ T := by
  have h1 := h.cb; have h2 := h.cm
  obtain ⟨_, _, h4, h5⟩ := h.chans
  refine ⟨fun hm => ?_, fun hm => ?_, fun e => ?_, fun x hx => ⟨fun hm => ?_, fun e => ?_, fun e => ?_⟩, fun k U hU => ⟨fun hm => ?_, fun hm => ?_, fun x hx hm => ?_, fun x hx hm => ?_⟩⟩
  · have := h4 _ hm; omega
  · have := h4 _ hm; omega
  · subst e; omega
  · have := h4 _ hm; have := h.cw x hx; omega
  · subst e; have := h.cw _ hx; omega
  · subst e; have := h.cw _ hx; omega
  · have := h5 k U hU _ hm; omega
  · have := h5 k U hU _ hm; omega
  · have := h5 k U hU _ hm; have := h.cw x hx; omega
  · have := h5 k U hU _ hx; have := h4 x hm; omega
end
/-- the model is st' behind the call; what it led to before, and what is new, may have changed -/
def MoTo (S : List Nat) (w w' : World) (p : Value) (st : Md.St) (N : Nat) : Prop := ∃ S', Mo w' p st N S' ∧ Keeps S w w' ∧ ∀ x ∈ S', x ∈ S ∨ w.heap.size ≤ x
theorem MoTo.refl {w w' : World} {p : Value} {st : Md.St} {N : Nat} {S : List Nat} (h : Mo w' p st N S) (k : Keeps [] w w') : MoTo S w w' p st N :=
  ⟨S, h, k.mono (by simp), fun x hx => .inl hx⟩
theorem MoTo.trans {w1 w2 w3 : World} {p : Value} {st : Md.St} {N M : Nat} {S S' : List Nat} (k : Keeps S w1 w2) (hS : ∀ x ∈ S', x ∈ S ∨ w1.heap.size ≤ x) (h : MoTo S' w2 w3 p st M) : MoTo S w1 w3 p st M := by
  obtain ⟨S2, h1, h2, h3⟩ := h
  exact ⟨S2, h1, k.trans h2 hS, fun x hx => by
    rcases h3 x hx with h | h
    · exact hS x h
    · have := k.size; exact .inr (by omega)⟩
end Go.Proofs.Ytopkfhmdgheghaa
