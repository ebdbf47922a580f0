/-
  A model whose channels, or whose waits, turn: what it is behind it.
  Conditions: none.
-/
import Derived.Test.YtopkfhmdgheghaaModelG
namespace Go.Proofs.Ytopkfhmdgheghaa
open Go.RowKit
set_option linter.unusedVariables false
set_option linter.unusedSimpArgs false
set_option linter.unnecessarySimpa false

section
variable {w w' : World} {b bm : Nat} {vc : Value} {st : Md.St} {N M : Nat} {S T X SW : List Nat} {Us : List (List Nat)} {f : Int → Option Value} {col : Nat → Nat} {p : Value} {g off m cap k : Nat} {c : Md.Ch}
theorem MoAt.shut (h : MoAt w b bm (.slice (some ⟨g, off, none⟩) m cap) st N S T Us SW f col) (hk : st.chans[k]? = some c) :
    MoAt (w.setCell ⟨g, off + k * 3 + 2, none⟩ (.bool true)) b bm (.slice (some ⟨g, off, none⟩) m cap) ⟨st.chans.set k ⟨c.cap, c.buf, true⟩, st.waits⟩ N S T Us SW f col ∧ Keeps S w (w.setCell ⟨g, off + k * 3 + 2, none⟩ (.bool true)) := by
  obtain ⟨n1, n2, n3, n4, n5⟩ := h.nT
  obtain ⟨r, kp⟩ := h.chans.shut hk
  exact ⟨⟨h.blk.keep kp n1, r, h.map.keep kp n2, h.wm.keep kp (fun x hx => (n4 x hx).1), h.cb, h.cm, h.cw, h.sb, h.sm, h.st, h.su, h.sw, fun x hx => Nat.lt_of_lt_of_le (h.lt x hx) kp.size⟩, kp.mono (fun x hx => .inl (h.st x hx))⟩
theorem MoAt.put {U U' : List Nat} {bv' : Value} {buf' : List Int} (h : MoAt w b bm (.slice (some ⟨g, off, none⟩) m cap) st N S T Us SW f col) (hk : st.chans[k]? = some c) (hU : Us[k]? = some U)
    (kp : Keeps U w w') (hr' : KR .i64 w' bv' 2 buf' U') (hn : ∀ x ∈ U', x ∈ U ∨ w.heap.size ≤ x) (hM : N ≤ M) (hb : buf'.length ≤ M) :
    ∃ S' Us' col', MoAt (w'.setCell ⟨g, off + k * 3 + 1, none⟩ bv') b bm (.slice (some ⟨g, off, none⟩) m cap) ⟨st.chans.set k ⟨c.cap, buf', c.closed⟩, st.waits⟩ M S' T Us' SW f col' ∧ Keeps S w (w'.setCell ⟨g, off + k * 3 + 1, none⟩ bv') ∧ ∀ x ∈ S', x ∈ S ∨ w.heap.size ≤ x := by
  obtain ⟨n1, n2, n3, n4, n5⟩ := h.nT
  obtain ⟨u1, u2, u3, u4⟩ := n5 k U hU
  obtain ⟨r, kq⟩ := h.chans.put hk hU kp hr' hn hM hb
  have hS : ∀ x ∈ U', x < (w'.setCell ⟨g, off + k * 3 + 1, none⟩ bv').heap.size := fun x hx => by have := hr'.lt x hx; simpa [World.setCell] using this
  have hq : ∀ x, x ∉ T → x ∉ U → x ∉ T ++ U := fun x h1 h2 h3 => by rcases List.mem_append.1 h3 with h | h; exact h1 h; exact h2 h
  refine ⟨S ++ U', _, _, ⟨h.blk.keep kq (hq b n1 u1), r, (h.map.keep kq (hq bm n2 u2)).mono hM, h.wm.keep kq (fun x hx => hq x (n4 x hx).1 (u3 x hx)), ?_, ?_, ?_, by simp [h.sb], by simp [h.sm], fun x hx => by simp [h.st x hx], ?_, fun x hx => by simp [h.sw x hx], ?_⟩, kq.mono ?_, ?_⟩
  · have := h.lt b h.sb; simp [this, h.cb]
  · have := h.lt bm h.sm; simp [this, h.cm]
  · intro x hx; have := h.lt x (h.sw x hx); simp [this, h.cw x hx]
  · intro A hA x hx
    rcases List.mem_or_eq_of_mem_set hA with h1 | rfl
    · simp [h.su A h1 x hx]
    · simp [hx]
  · intro x hx
    rcases List.mem_append.1 hx with h1 | h1
    · exact Nat.lt_of_lt_of_le (h.lt x h1) kq.size
    · exact hS x h1
  · intro x hx
    rcases List.mem_append.1 hx with h1 | h1
    · exact .inl (h.st x h1)
    · exact .inl (h.su U (List.mem_of_getElem? hU) x h1)
  · intro x hx
    rcases List.mem_append.1 hx with h1 | h1
    · exact .inl h1
    · rcases hn x h1 with h2 | h2
      · exact .inl (h.su U (List.mem_of_getElem? hU) x h2)
      · exact .inr h2
theorem MoAt.drop (h : MoAt w b bm vc st N S T Us SW f col) (x : Int) (hm : MapV Try.prog 3 w' bm N (fun z => if z = x then none else f z)) (kp : Keeps [bm] w w') :
    MoAt w' b bm vc ⟨st.chans, Md.drops st.waits x⟩ N S T Us SW (fun z => if z = x then none else f z) col ∧ Keeps S w w' := by
  obtain ⟨n1, n2, n3, n4, n5⟩ := h.nT
  refine ⟨⟨h.blk.keep kp (by simpa using n3), h.chans.keep kp (fun y hy => ?_) (fun U hU y hy => ?_), hm, (h.wm.keep kp (fun y hy => by simpa using (n4 y hy).2.2)).drop x, h.cb, h.cm, h.cw, h.sb, h.sm, h.st, h.su, h.sw, fun y hy => Nat.lt_of_lt_of_le (h.lt y hy) kp.size⟩, kp.mono (fun y hy => by simp at hy; subst hy; exact .inl h.sm)⟩
  · simp; intro e; subst e; exact n2 hy
  · simp; intro e; subst e
    obtain ⟨j, hj⟩ := List.mem_iff_getElem?.1 hU
    exact (n5 j U hj).2.1 hy
/-- one waits more: its cases lie in the blocks U, new since w0 -/
theorem MoAt.add {w0 : World} {U : List Nat} {o : Pn.Op} {vo : Value} (h : MoAt w0 b bm vc st N S T Us SW f col) (k0 : Keeps [] w0 w) (x : Int) (hwx : wf64L x) (hm : MapV Try.prog 3 w' bm (N + 1) (fun z => if z = x then some (.agg (opV o vo)) else f z)) (kp : Keeps [bm] w w')
    (hv : GV caseE 3 w vo o.cases U) (hU : ∀ y ∈ U, w0.heap.size ≤ y) :
    ∃ S' SW' col', MoAt w' b bm vc ⟨st.chans, fun z => if z = x then some o else st.waits z⟩ (N + 1) S' T Us SW' (fun z => if z = x then some (.agg (opV o vo)) else f z) col' ∧ Keeps S w0 w' ∧ ∀ y ∈ S', y ∈ S ∨ w0.heap.size ≤ y := by
  obtain ⟨n1, n2, n3, n4, n5⟩ := h.nT
  have hbm := h.lt bm h.sm
  have hUm : ∀ y ∈ U, y ≠ bm := fun y hy e => by have := hU y hy; omega
  have h2 := h.then k0
  have hlt := h.chans.lt
  obtain ⟨⟨xs, hr, hp⟩, q3, q4, q5⟩ := h.chans
  have hch := (h2.chans.mono (Nat.le_succ N)).keep kp (fun y hy => by simp; intro e; subst e; exact n2 hy) (fun A hA y hy => by
    simp; intro e; subst e
    obtain ⟨j, hj⟩ := List.mem_iff_getElem?.1 hA
    exact (n5 j A hj).2.1 hy)
  obtain ⟨c1, c2, c3, c4⟩ := hch
  refine ⟨S ++ U, SW ++ U, fun y => if y < w0.heap.size then col y else 3, ⟨h2.blk.keep kp (by simpa using n3), ⟨c1, c2, fun y hy => ?_, fun j A hA y hy => ?_⟩, hm, ?_, ?_, ?_, ?_, by simp [h.sb], by simp [h.sm], fun y hy => by simp [h.st y hy], fun A hA y hy => by simp [h.su A hA y hy], ?_, ?_⟩, (k0.mono (by simp)).trans kp (fun y hy => by simp at hy; subst hy; exact .inl h.sm), ?_⟩
  · have := hlt.1 y hy; simp [this, q4 y hy]
  · have := hlt.2 A (List.mem_of_getElem? hA) y hy; simp [this, q5 j A hA y hy]
  · exact (h2.wm.keep kp (fun y hy => by simpa using (n4 y hy).2.2)).add x hwx o vo (hv.keep caseE_kept kp (fun y hy => by simpa using hUm y hy))
  · have := h.lt b h.sb; simp [this, h.cb]
  · simp [hbm, h.cm]
  · intro y hy
    rcases List.mem_append.1 hy with h1 | h1
    · have := h.lt y (h.sw y h1); simp [this, h.cw y h1]
    · have := hU y h1; simp [show ¬ y < w0.heap.size by omega]
  · intro y hy
    rcases List.mem_append.1 hy with h1 | h1
    · simp [h.sw y h1]
    · simp [h1]
  · intro y hy
    have := kp.size
    have := k0.size
    rcases List.mem_append.1 hy with h1 | h1
    · have := h.lt y h1; omega
    · have := hv.lt y h1; omega
  · intro y hy
    rcases List.mem_append.1 hy with h1 | h1
    · exact .inl h1
    · exact .inr (hU y h1)
/-- one channel more: its row is v' then, stored into the model -/
theorem MoAt.more {room : Int} {xs : List Value} {v' : Value} {T' : List Nat} (h : MoAt w b bm vc st N S T Us SW f col) (hxl : xs.length = st.chans.length * 3)
    (hp : ∀ (k : Nat) c U, st.chans[k]? = some c → Us[k]? = some U → ∃ bv, xs[k * 3]? = some (.int .i64 c.cap) ∧ xs[k * 3 + 1]? = some bv ∧ xs[k * 3 + 2]? = some (.bool c.closed) ∧ KR .i64 w bv 2 c.buf U ∧ c.buf.length ≤ N)
    (hr : Row w' v' 136 3 (st.chans.length + 1) (xs ++ [.int .i64 room, .slice none 0 0, .bool false]) T') (kp : Keeps T w w') (hn : ∀ x ∈ T', x ∈ T ∨ w.heap.size ≤ x) :
    ∃ S' col', MoAt (w'.setCell ⟨b, 0, none⟩ v') b bm v' ⟨st.chans ++ [⟨room, [], false⟩], st.waits⟩ N S' T' (Us ++ [[]]) SW f col' ∧ Keeps S w (w'.setCell ⟨b, 0, none⟩ v') ∧ ∀ x ∈ S', x ∈ S ∨ w.heap.size ≤ x := by
  obtain ⟨n1, n2, n3, n4, n5⟩ := h.nT
  have hlt := h.chans.lt
  obtain ⟨_, q3, q4, q5⟩ := h.chans
  have hcr := CR.more (room := room) q3 q4 q5 hlt.2 hxl hp hr kp hn hlt.1
  have hbT : b ∉ T' := fun hm => by
    rcases hn b hm with h1 | h1
    · exact n1 h1
    · have := h.lt b h.sb; omega
  have hbl := h.blk.keep kp n1
  have ks : Keeps [b] w' (w'.setCell ⟨b, 0, none⟩ v') := (Keeps.refl [b] w').setCell (by simp) _
  have hb2 := hbl.set 0 v'
  simp only [List.set_cons_zero] at hb2
  refine ⟨S ++ T', _, ⟨hb2, hcr.keep ks (fun y hy => by simp; intro e; subst e; exact hbT hy) (fun U hU y hy => ?_), (h.map.keep kp n2).keep ks (by simp; exact fun e => n3 e.symm), (h.wm.keep kp (fun y hy => (n4 y hy).1)).keep ks (fun y hy => by simpa using (n4 y hy).2.1), ?_, ?_, ?_, by simp [h.sb], by simp [h.sm], fun y hy => by simp [hy], ?_, fun y hy => by simp [h.sw y hy], ?_⟩, (kp.mono (fun y hy => .inl (h.st y hy))).trans ks (fun y hy => by simp at hy; subst hy; exact .inl h.sb), ?_⟩
  · simp; intro e; subst e
    rcases List.mem_append.1 hU with h1 | h1
    · obtain ⟨j, hj⟩ := List.mem_iff_getElem?.1 h1
      exact (n5 j U hj).1 hy
    · simp at h1; subst h1; cases hy
  · have := h.lt b h.sb; simp [this, h.cb]
  · have := h.lt bm h.sm; simp [this, h.cm]
  · intro y hy; have := h.lt y (h.sw y hy); simp [this, h.cw y hy]
  · intro U hU y hy
    rcases List.mem_append.1 hU with h1 | h1
    · simp [h.su U h1 y hy]
    · simp at h1; subst h1; cases hy
  · intro y hy
    have h1 := kp.size
    have h2 := ks.size
    rcases List.mem_append.1 hy with h3 | h3
    · have := h.lt y h3; omega
    · have := hr.lt y h3; omega
  · intro y hy
    rcases List.mem_append.1 hy with h3 | h3
    · exact .inl h3
    · rcases hn y h3 with h4 | h4
      · exact .inl (h.st y h4)
      · exact .inr h4
end
end Go.Proofs.Ytopkfhmdgheghaa
