/-
  The law ModelOrder: its plain part, and what its walk holds.
  Conditions: none.
-/
import Derived.Test.YtopkfhmdgheghaaModelA
namespace Go.Proofs.Ytopkfhmdgheghaa
open Go.RowKit
set_option linter.unusedVariables false
set_option linter.unusedSimpArgs false
set_option linter.unnecessarySimpa false

namespace Md
/-- one channel, and nobody waits -/
def lone (n : Int) (buf : List Int) (cl : Bool) : St := ⟨[⟨n, buf, cl⟩], fun _ => none⟩
def sendOp (v : Int) : Pn.Op := ⟨2, 1, 0, v, [], false⟩
def makeOp (n : Int) : Pn.Op := ⟨1, 0, n, 0, [], false⟩
def closeOp : Pn.Op := ⟨6, 1, 0, 0, [], false⟩
theorem lone_make (n g i : Int) : fire new g (makeOp n) i = (lone n [] false, some ⟨1, -1, 0, true, 1⟩) := by
  unfold fire fires makes new lone makeOp
  simp only [drops_none]
  rfl
theorem lone_send {n g : Int} {buf : List Int} {v : Int} (h : (buf.length : Int) < n) : fire (lone n buf false) g (sendOp v) (-1) = (lone n (buf ++ [v]) false, some ⟨1, -1, 0, true, 0⟩) := by
  have e : does [⟨n, buf, false⟩] (sendOp v) (-1) = ([⟨n, buf ++ [v], false⟩], some ⟨1, -1, 0, true, 0⟩) := by
    unfold does
    rw [show side (sendOp v) (-1) = some ⟨1, true, v⟩ from rfl]
    simp only
    rw [show chan [⟨n, buf, false⟩] 1 = some (⟨n, buf, false⟩ : Ch) from rfl]
    simp [h, putChan]
  unfold fire fires lone
  rw [if_neg (by simp [sendOp]), if_neg (by simp [sendOp]), if_neg (by simp [sendOp]), e, drops_none]
theorem lone_full {n g : Int} {buf : List Int} {v : Int} (h : ¬ (buf.length : Int) < n) : fire (lone n buf false) g (sendOp v) (-1) = (lone n buf false, none) := by
  have e : does [⟨n, buf, false⟩] (sendOp v) (-1) = ([⟨n, buf, false⟩], none) := by
    unfold does
    rw [show side (sendOp v) (-1) = some ⟨1, true, v⟩ from rfl]
    simp only
    rw [show chan [⟨n, buf, false⟩] 1 = some (⟨n, buf, false⟩ : Ch) from rfl]
    simp [h]
  unfold fire fires lone
  rw [if_neg (by simp [sendOp]), if_neg (by simp [sendOp]), if_neg (by simp [sendOp]), e]
theorem lone_recv {n g x : Int} {buf : List Int} {cl : Bool} : fire (lone n (x :: buf) cl) g rec1 (-1) = (lone n buf cl, some ⟨1, -1, x, true, 0⟩) := by
  have e : does [⟨n, x :: buf, cl⟩] rec1 (-1) = ([⟨n, buf, cl⟩], some ⟨1, -1, x, true, 0⟩) := by
    unfold does
    rw [show side rec1 (-1) = some ⟨1, false, 0⟩ from rfl]
    simp only
    rw [show chan [⟨n, x :: buf, cl⟩] 1 = some (⟨n, x :: buf, cl⟩ : Ch) from rfl]
    simp [putChan]
  unfold fire fires lone
  rw [if_neg (by decide), if_neg (by decide), if_neg (by decide), e, drops_none]
theorem lone_dry {n g : Int} : fire (lone n [] false) g rec1 (-1) = (lone n [] false, none) := by
  have e : does [⟨n, [], false⟩] rec1 (-1) = ([⟨n, [], false⟩], none) := by
    unfold does
    rw [show side rec1 (-1) = some ⟨1, false, 0⟩ from rfl]
    simp only
    rw [show chan [⟨n, [], false⟩] 1 = some (⟨n, [], false⟩ : Ch) from rfl]
    simp
  unfold fire fires lone
  rw [if_neg (by decide), if_neg (by decide), if_neg (by decide), e]
theorem lone_end {n g : Int} : fire (lone n [] true) g rec1 (-1) = (lone n [] true, some ⟨1, -1, 0, false, 0⟩) := by
  have e : does [⟨n, [], true⟩] rec1 (-1) = ([⟨n, [], true⟩], some ⟨1, -1, 0, false, 0⟩) := by
    unfold does
    rw [show side rec1 (-1) = some ⟨1, false, 0⟩ from rfl]
    simp only
    rw [show chan [⟨n, [], true⟩] 1 = some (⟨n, [], true⟩ : Ch) from rfl]
    simp
  unfold fire fires lone
  rw [if_neg (by decide), if_neg (by decide), if_neg (by decide), e, drops_none]
theorem lone_close {n g : Int} {buf : List Int} : fire (lone n buf false) g closeOp (-1) = (lone n buf true, some ⟨1, -1, 0, true, 0⟩) := by
  have e : closes [⟨n, buf, false⟩] 1 = ([⟨n, buf, true⟩], ⟨1, -1, 0, true, 0⟩) := by
    unfold closes
    rw [show chan [⟨n, buf, false⟩] 1 = some (⟨n, buf, false⟩ : Ch) from rfl]
    simp [putChan]
  unfold fire fires lone
  rw [if_neg (by decide), if_neg (by decide), if_pos (by rfl)]
  rw [show closeOp.ch = 1 from rfl, e, drops_none]
end Md

theorem col_old {n x c d : Nat} {col : Nat → Nat} (h : x < n) (hc : col x = c) : (fun x => if x < n then col x else d) x = c := by simp [h, hc]
theorem col_new {n x d : Nat} {col : Nat → Nat} (h : n ≤ x) : (fun x => if x < n then col x else d) x = d := by simp; omega
/-- the model, what went in and what came out, and the op that receives: blocks of their own, new since w -/
def OD (w : World) (B : Nat) (p : Value) (st : Md.St) (N : Nat) (vp : Value) (pu : List Int) (vg : Value) (go : List Int) (wr : World) : Prop :=
  ∃ S TP TG, ∃ col : Nat → Nat, Mo wr p st N S ∧ KR .i64 wr vp 2 pu TP ∧ KR .i64 wr vg 2 go TG ∧ Blk wr B [.int .i64 3, .int .i64 1, .int .i64 0, .int .i64 0, .slice none 0 0, .bool false] 33 ∧
    (∀ x ∈ S, col x = 0 ∧ w.heap.size ≤ x) ∧ (∀ x ∈ TP, col x = 1 ∧ w.heap.size ≤ x) ∧ (∀ x ∈ TG, col x = 2 ∧ w.heap.size ≤ x) ∧ (col B = 3 ∧ w.heap.size ≤ B) ∧ Keeps [] w wr
section
variable {w wr w' : World} {B : Nat} {p : Value} {st : Md.St} {N : Nat} {vp vg : Value} {pu go : List Int}
theorem OD.then (h : OD w B p st N vp pu vg go wr) (k : Keeps [] wr w') : OD w B p st N vp pu vg go w' := by
  obtain ⟨S, TP, TG, col, h1, h2, h3, h4, h5, h6, h7, h8, h9⟩ := h
  exact ⟨S, TP, TG, col, h1.then k, h2.then k, h3.then k, h4.keep k (by simp), h5, h6, h7, h8, h9.then k⟩
theorem OD.mo (h : OD w B p st N vp pu vg go wr) : ∃ S, Mo wr p st N S ∧ ∀ w' st' N', MoTo S wr w' p st' N' → OD w B p st' N' vp pu vg go w' := by
  obtain ⟨S, TP, TG, col, h1, h2, h3, h4, h5, h6, h7, h8, h9⟩ := h
  have l2 := h2.lt; have l3 := h3.lt; have l4 := h4.lt
  refine ⟨S, h1, fun w' st' N' ⟨S', m1, m2, m3⟩ => ⟨S', TP, TG, fun x => if x < wr.heap.size then col x else 0, m1, h2.keep m2 (fun x hx hm => ?_), h3.keep m2 (fun x hx hm => ?_), h4.keep m2 (fun hm => ?_), fun x hx => ?_, fun x hx => ?_, fun x hx => ?_, ?_, h9.trans m2 (fun x hx => .inr (h5 x hx).2)⟩⟩
  · have := (h6 x hx).1; have := (h5 x hm).1; omega
  · have := (h7 x hx).1; have := (h5 x hm).1; omega
  · have := h8.1; have := (h5 _ hm).1; omega
  · have hs := h9.size
    rcases m3 x hx with h | h
    · have := h5 x h; exact ⟨col_old (h1.lt x h) this.1, this.2⟩
    · exact ⟨col_new h, by omega⟩
  · have q := h6 x hx; have := l2 x hx; exact ⟨col_old this q.1, q.2⟩
  · have q := h7 x hx; have := l3 x hx; exact ⟨col_old this q.1, q.2⟩
  · exact ⟨col_old l4 h8.1, h8.2⟩
theorem OD.pput (h : OD w B p st N vp pu vg go wr) : ∃ TP, KR .i64 wr vp 2 pu TP ∧ ∀ w' vp' pu' TP', KR .i64 w' vp' 2 pu' TP' → Keeps TP wr w' → (∀ x ∈ TP', x ∈ TP ∨ wr.heap.size ≤ x) → OD w B p st N vp' pu' vg go w' := by
  obtain ⟨S, TP, TG, col, h1, h2, h3, h4, h5, h6, h7, h8, h9⟩ := h
  have l1 := h1.lt; have l3 := h3.lt; have l4 := h4.lt
  refine ⟨TP, h2, fun w' vp' pu' TP' m1 m2 m3 => ⟨S, TP', TG, fun x => if x < wr.heap.size then col x else 1, h1.keep m2 (fun x hx hm => ?_), m1, h3.keep m2 (fun x hx hm => ?_), h4.keep m2 (fun hm => ?_), fun x hx => ?_, fun x hx => ?_, fun x hx => ?_, ?_, h9.trans m2 (fun x hx => .inr (h6 x hx).2)⟩⟩
  · have := (h6 x hm).1; have := (h5 x hx).1; omega
  · have := (h7 x hx).1; have := (h6 x hm).1; omega
  · have := h8.1; have := (h6 _ hm).1; omega
  · have q := h5 x hx; have := l1 x hx; exact ⟨col_old this q.1, q.2⟩
  · have hs := h9.size
    rcases m3 x hx with h | h
    · have q := h6 x h; have := h2.lt x h; exact ⟨col_old this q.1, q.2⟩
    · exact ⟨col_new h, by omega⟩
  · have q := h7 x hx; have := l3 x hx; exact ⟨col_old this q.1, q.2⟩
  · exact ⟨col_old l4 h8.1, h8.2⟩
theorem OD.pgot (h : OD w B p st N vp pu vg go wr) : ∃ TG, KR .i64 wr vg 2 go TG ∧ ∀ w' vg' go' TG', KR .i64 w' vg' 2 go' TG' → Keeps TG wr w' → (∀ x ∈ TG', x ∈ TG ∨ wr.heap.size ≤ x) → OD w B p st N vp pu vg' go' w' := by
  obtain ⟨S, TP, TG, col, h1, h2, h3, h4, h5, h6, h7, h8, h9⟩ := h
  have l1 := h1.lt; have l2 := h2.lt; have l4 := h4.lt
  refine ⟨TG, h3, fun w' vg' go' TG' m1 m2 m3 => ⟨S, TP, TG', fun x => if x < wr.heap.size then col x else 2, h1.keep m2 (fun x hx hm => ?_), h2.keep m2 (fun x hx hm => ?_), m1, h4.keep m2 (fun hm => ?_), fun x hx => ?_, fun x hx => ?_, fun x hx => ?_, ?_, h9.trans m2 (fun x hx => .inr (h7 x hx).2)⟩⟩
  · have := (h7 x hm).1; have := (h5 x hx).1; omega
  · have := (h6 x hx).1; have := (h7 x hm).1; omega
  · have := h8.1; have := (h7 _ hm).1; omega
  · have q := h5 x hx; have := l1 x hx; exact ⟨col_old this q.1, q.2⟩
  · have q := h6 x hx; have := l2 x hx; exact ⟨col_old this q.1, q.2⟩
  · have hs := h9.size
    rcases m3 x hx with h | h
    · have q := h7 x h; have := h3.lt x h; exact ⟨col_old this q.1, q.2⟩
    · exact ⟨col_new h, by omega⟩
  · exact ⟨col_old l4 h8.1, h8.2⟩
theorem OD.keeps (h : OD w B p st N vp pu vg go wr) : Keeps [] w wr := by obtain ⟨S, TP, TG, col, _, _, _, _, _, _, _, _, h9⟩ := h; exact h9
theorem OD.box (h : OD w B p st N vp pu vg go wr) : Blk wr B [.int .i64 3, .int .i64 1, .int .i64 0, .int .i64 0, .slice none 0 0, .bool false] 33 := by obtain ⟨S, TP, TG, col, _, _, _, h4, _⟩ := h; exact h4
end
end Go.Proofs.Ytopkfhmdgheghaa
