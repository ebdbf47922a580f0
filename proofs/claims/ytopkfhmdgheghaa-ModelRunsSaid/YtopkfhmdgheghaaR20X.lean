/-
  The law ModelRuns: what it needs ahead of its walk.
  Conditions: none.
-/
import Derived.Test.YtopkfhmdgheghaaR20W
import Derived.Test.YtopkfhmdgheghaaR20L
import Derived.Test.YtopkfhmdgheghaaR20K
import Derived.Test.YtopkfhmdgheghaaModelY
import Derived.Test.YtopkfhmdgheghaaModelX
import Derived.Test.YtopkfhmdgheghaaModelA
import Derived.Laws.StructEq
namespace Go.Proofs.Ytopkfhmdgheghaa
open Go.RowKit
set_option linter.unusedVariables false
set_option linter.unusedSimpArgs false
set_option linter.unnecessarySimpa false

/-- an act's cells -/
def actC (a : ActD) (va vb : Value) : List Value := [.int .i64 a.kind, .int .i64 a.g, .int .i64 a.i, .int .i64 a.h, .int .i64 a.k, .int .i64 a.a.kind, .int .i64 a.a.ch, .int .i64 a.a.n, .int .i64 a.a.v, va, .bool a.a.els, .int .i64 a.b.kind, .int .i64 a.b.ch, .int .i64 a.b.n, .int .i64 a.b.v, vb, .bool a.b.els]
theorem GV.act {w : World} {ao : Option Addr} {m cap k : Nat} {S : List Nat} {l : List ActD} {a : ActD} (h : GV actE 17 w (.slice ao m cap) l S) (hk : l[k]? = some a) :
    ∃ g off va vb UA, ao = some ⟨g, off, none⟩ ∧ g < w.heap.size ∧ (w.cell? ⟨g, off + k * 17, none⟩ = some (.int .i64 a.kind) ∧ w.cell? ⟨g, off + k * 17 + 1, none⟩ = some (.int .i64 a.g) ∧ w.cell? ⟨g, off + k * 17 + 2, none⟩ = some (.int .i64 a.i) ∧ w.cell? ⟨g, off + k * 17 + 3, none⟩ = some (.int .i64 a.h) ∧ w.cell? ⟨g, off + k * 17 + 4, none⟩ = some (.int .i64 a.k) ∧ w.cell? ⟨g, off + k * 17 + 5, none⟩ = some (.int .i64 a.a.kind) ∧ w.cell? ⟨g, off + k * 17 + 6, none⟩ = some (.int .i64 a.a.ch) ∧ w.cell? ⟨g, off + k * 17 + 7, none⟩ = some (.int .i64 a.a.n) ∧ w.cell? ⟨g, off + k * 17 + 8, none⟩ = some (.int .i64 a.a.v) ∧ w.cell? ⟨g, off + k * 17 + 9, none⟩ = some (va) ∧ w.cell? ⟨g, off + k * 17 + 10, none⟩ = some (.bool a.a.els) ∧ w.cell? ⟨g, off + k * 17 + 11, none⟩ = some (.int .i64 a.b.kind) ∧ w.cell? ⟨g, off + k * 17 + 12, none⟩ = some (.int .i64 a.b.ch) ∧ w.cell? ⟨g, off + k * 17 + 13, none⟩ = some (.int .i64 a.b.n) ∧ w.cell? ⟨g, off + k * 17 + 14, none⟩ = some (.int .i64 a.b.v) ∧ w.cell? ⟨g, off + k * 17 + 15, none⟩ = some (vb) ∧ w.cell? ⟨g, off + k * 17 + 16, none⟩ = some (.bool a.b.els)) ∧ GV caseE 3 w va a.a.cases UA ∧ GV caseE 3 w vb a.b.cases UA ∧ (Lit.int .i64 a.g).wf = true ∧ (Lit.int .i64 a.h).wf = true := by
  obtain ⟨g, off, cs, U, h1, h2, h3, h4, h5, ⟨va, vb, rfl, h6, h7, h8, h9⟩, h10⟩ := h.get hk
  exact ⟨g, off, va, vb, U, h1, h3, ⟨h5 0 (by omega), h5 1 (by omega), h5 2 (by omega), h5 3 (by omega), h5 4 (by omega), h5 5 (by omega), h5 6 (by omega), h5 7 (by omega), h5 8 (by omega), h5 9 (by omega), h5 10 (by omega), h5 11 (by omega), h5 12 (by omega), h5 13 (by omega), h5 14 (by omega), h5 15 (by omega), h5 16 (by omega)⟩, h6, h7, h8, h9⟩
theorem Blk.act {w : World} {g : Nat} {a : ActD} {va vb : Value} {t : TypeId} (h : Blk w g (actC a va vb) t) : w.cell? ⟨g, 0, none⟩ = some (.int .i64 a.kind) ∧ w.cell? ⟨g, 1, none⟩ = some (.int .i64 a.g) ∧ w.cell? ⟨g, 2, none⟩ = some (.int .i64 a.i) ∧ w.cell? ⟨g, 3, none⟩ = some (.int .i64 a.h) ∧ w.cell? ⟨g, 4, none⟩ = some (.int .i64 a.k) ∧ w.cell? ⟨g, 5, none⟩ = some (.int .i64 a.a.kind) ∧ w.cell? ⟨g, 6, none⟩ = some (.int .i64 a.a.ch) ∧ w.cell? ⟨g, 7, none⟩ = some (.int .i64 a.a.n) ∧ w.cell? ⟨g, 8, none⟩ = some (.int .i64 a.a.v) ∧ w.cell? ⟨g, 9, none⟩ = some (va) ∧ w.cell? ⟨g, 10, none⟩ = some (.bool a.a.els) ∧ w.cell? ⟨g, 11, none⟩ = some (.int .i64 a.b.kind) ∧ w.cell? ⟨g, 12, none⟩ = some (.int .i64 a.b.ch) ∧ w.cell? ⟨g, 13, none⟩ = some (.int .i64 a.b.n) ∧ w.cell? ⟨g, 14, none⟩ = some (.int .i64 a.b.v) ∧ w.cell? ⟨g, 15, none⟩ = some (vb) ∧ w.cell? ⟨g, 16, none⟩ = some (.bool a.b.els) :=
  ⟨h.cell 0, h.cell 1, h.cell 2, h.cell 3, h.cell 4, h.cell 5, h.cell 6, h.cell 7, h.cell 8, h.cell 9, h.cell 10, h.cell 11, h.cell 12, h.cell 13, h.cell 14, h.cell 15, h.cell 16⟩

theorem resR_fields : Try.prog.underlying 28 = some (.struct (Try.prog.fieldsOf 28)) := by kernel_rfl
theorem resR_held : Try.prog.stoodInHeld 28 = false := by kernel_rfl
theorem resR_guard : Try.prog.eqGuardType Try.prog.depth 28 = false := by kernel_rfl
theorem resR_flds : ∃ f0 f1 f2 f3 f4 : Field, (Try.prog.fieldsOf 28).toList = [f0, f1, f2, f3, f4] ∧ (f0.name ≠ "_" ∧ f1.name ≠ "_" ∧ f2.name ≠ "_" ∧ f3.name ≠ "_" ∧ f4.name ≠ "_") ∧ (f0.type = 3 ∧ f1.type = 3 ∧ f2.type = 2 ∧ f3.type = 4 ∧ f4.type = 3) ∧ f0.offset = 0 ∧ f1.offset = 1 ∧ f2.offset = 2 ∧ f3.offset = 3 ∧ f4.offset = 4 := by
  unfold Program.fieldsOf
  rw [Try.underlying28]
  exact ⟨_, _, _, _, _, rfl, ⟨by decide, by decide, by decide, by decide, by decide⟩, ⟨rfl, rfl, rfl, rfl, rfl⟩, rfl, rfl, rfl, rfl, rfl⟩
theorem run_neq_res (w : World) (a b c e : Int) (d : Bool) : (binOp .neq 28 (.agg #[.int .i64 a, .int .i64 b, .int .i64 c, .bool d, .int .i64 e]) (.agg #[.int .i64 a, .int .i64 b, .int .i64 c, .bool d, .int .i64 e])).run Try.prog w = .ok (.bool false) w := by
  obtain ⟨f0, f1, f2, f3, f4, hf, ⟨n0, n1, n2, n3, n4⟩, ⟨t0, t1, t2, t3, t4⟩, o0, o1, o2, o3, o4⟩ := resR_flds
  rw [run_neq_struct, run_equalIn_struct _ _ _ _ _ resR_fields resR_held, hf]
  have hi := Try.underlying3
  have hi2 := Try.underlying2
  have hb := Try.underlying4
  simp [Op.eqFields, n0, n1, n2, n3, n4, t0, t1, t2, t3, t4, o0, o1, o2, o3, o4, go_sem, hi, hi2, hb]
namespace Md
theorem putChan_len (l : List Ch) (ch : Int) (c : Ch) : (putChan l ch c).length = l.length := by unfold putChan; simp
theorem fires_len {l : List Ch} {o : Pn.Op} {i : Int} (h : l.length ≤ 8) : (fires l o i).1.length ≤ 8 := by
  unfold fires
  split
  · unfold makes
    split
    · exact h
    · simp; omega
  · split
    · exact h
    · split
      · unfold closes
        split
        · exact h
        · split
          · exact h
          · simpa [putChan_len] using h
      · unfold does
        split
        · exact h
        · split
          · exact h
          · repeat' split
            all_goals first | exact h | (simpa [putChan_len] using h)
theorem fire_len {st : St} {g : Int} {o : Pn.Op} {i : Int} (h : st.chans.length ≤ 8) : (fire st g o i).1.chans.length ≤ 8 := by
  have := fires_len (o := o) (i := i) h
  unfold fire
  split
  · rename_i l r e; rw [e] at this; exact this
  · exact h
theorem wait_len {st : St} {g : Int} {o : Pn.Op} (h : st.chans.length ≤ 8) : (wait st g o).1.chans.length ≤ 8 := by
  unfold wait
  split <;> exact h
theorem meet_len {st : St} {g h : Int} {a b : Pn.Op} {i k : Int} (hl : st.chans.length ≤ 8) : (meet st g a i h b k).1.chans.length ≤ 8 := by
  unfold meet
  repeat' split
  all_goals exact hl
end Md
theorem Mo.bufs {w : World} {p : Value} {st : Md.St} {N : Nat} {S : List Nat} (h : Mo w p st N S) : ∀ c ∈ st.chans, c.buf.length ≤ N := by
  obtain ⟨b, bm, vc, T, Us, SW, f, col, _, h2⟩ := h
  obtain ⟨⟨xs, _, hp⟩, hl, _⟩ := h2.chans
  intro c hc
  obtain ⟨k, hk⟩ := List.mem_iff_getElem?.1 hc
  have hkl := (List.getElem?_eq_some_iff.1 hk).1
  obtain ⟨bv, _, _, _, _, x4⟩ := hp k c (Us[k]'(by omega)) hk (List.getElem?_eq_getElem (by omega))
  exact x4

/-- the program's model, the document's, the act's block -/
structure LB (w : World) (p : Value) (bw B : Nat) (cs : List Value) (st : Md.St) (N n : Nat) (S : List Nat) (r : Mr.St) (vc vw : Value) (SR : List Nat) (wr : World) : Prop where
  mo : Mo wr p st N S
  mb : Blk wr bw [vc, vw] 67
  mr : MR wr vc vw r SR
  rel : Mr.Rel st r
  wl : r.waits.length ≤ n
  cl : st.chans.length ≤ 8
  ab : Blk wr B cs 56
  dj : ∀ x ∈ SR, x ∉ S ∧ x ≠ bw
  bS : bw ∉ S
  BS : B ∉ S
  Bb : B ≠ bw
  kp : Keeps [] w wr
  hb : w.heap.size ≤ bw
  hB : w.heap.size ≤ B
  hS : ∀ x ∈ S, w.heap.size ≤ x
section
variable {w wr w' : World} {p : Value} {bw B : Nat} {cs : List Value} {st : Md.St} {N n : Nat} {S : List Nat} {r : Mr.St} {vc vw : Value} {SR : List Nat}
theorem LB.then (h : LB w p bw B cs st N n S r vc vw SR wr) (k : Keeps [] wr w') : LB w p bw B cs st N n S r vc vw SR w' :=
  ⟨h.mo.then k, h.mb.keep k (by simp), h.mr.then k, h.rel, h.wl, h.cl, h.ab.keep k (by simp), h.dj, h.bS, h.BS, h.Bb, h.kp.then k, h.hb, h.hB, h.hS⟩
theorem LB.ch (h : LB w p bw B cs st N n S r vc vw SR wr) : GV chE 3 wr vc r.chans SR := h.mr.1
theorem LB.ref (h : LB w p bw B cs st N n S r vc vw SR wr) : ∀ x ∈ SR, x ∉ S ∧ x ≠ bw := h.dj
end
/-- between the two: the document's model is ahead: it stands in its variable already -/
structure LM (w : World) (p : Value) (bw B : Nat) (cs : List Value) (st st' : Md.St) (N n : Nat) (S : List Nat) (r' : Mr.St) (vc vw : Value) (SR : List Nat) (wr : World) : Prop where
  mo : Mo wr p st N S
  mb : Blk wr bw [vc, vw] 67
  mr : MR wr vc vw r' SR
  rel : Mr.Rel st' r'
  wl : r'.waits.length ≤ n
  cl : st'.chans.length ≤ 8
  ab : Blk wr B cs 56
  dj : ∀ x ∈ SR, x ∉ S ∧ x ≠ bw
  bS : bw ∉ S
  BS : B ∉ S
  Bb : B ≠ bw
  kp : Keeps [] w wr
  hb : w.heap.size ≤ bw
  hB : w.heap.size ≤ B
  hS : ∀ x ∈ S, w.heap.size ≤ x
section
variable {w wr w' : World} {p : Value} {bw B : Nat} {cs : List Value} {st st' : Md.St} {N N' n m : Nat} {S : List Nat} {r r' : Mr.St} {vc vw vc' vw' : Value} {SR SR' : List Nat}
theorem LM.then (h : LM w p bw B cs st st' N n S r vc vw SR wr) (k : Keeps [] wr w') : LM w p bw B cs st st' N n S r vc vw SR w' :=
  ⟨h.mo.then k, h.mb.keep k (by simp), h.mr.then k, h.rel, h.wl, h.cl, h.ab.keep k (by simp), h.dj, h.bS, h.BS, h.Bb, h.kp.then k, h.hb, h.hB, h.hS⟩
/-- the document's function has answered; its model is stored -/
theorem LB.ahead (h : LB w p bw B cs st N n S r vc vw SR wr) (hr : Mr.Rel st' r') (hl : r'.waits.length ≤ m) (hc : st'.chans.length ≤ 8) (hm : MR w' vc' vw' r' SR') (k : Keeps [] wr w') (hS : ∀ x ∈ SR', (x ∉ S ∧ x ≠ bw) ∨ wr.heap.size ≤ x) {W : World} (kW : Keeps [] w' W) :
    LM w p bw B cs st st' N m S r' vc' vw' SR' ((W.setCell ⟨bw, 0, none⟩ vc').setCell ⟨bw, 1, none⟩ vw') := by
  have kk := k.then kW
  have k2 : Keeps [bw] W ((W.setCell ⟨bw, 0, none⟩ vc').setCell ⟨bw, 1, none⟩ vw') := ((Keeps.refl _ W).setCell (by simp) _).setCell (by simp) _
  have hd : ∀ x ∈ SR', x ∉ S ∧ x ≠ bw := fun x hx => by
    rcases hS x hx with h1 | h1
    · exact h1
    · exact ⟨fun hm => by have := h.mo.lt x hm; omega, fun e => by have := h.mb.lt; omega⟩
  refine ⟨(h.mo.then kk).keep k2 (fun x hx hm => by simp at hm; subst hm; exact h.bS hx), ((h.mb.keep kk (by simp)).set 0 vc').set 1 vw', (hm.then kW).keep k2 (fun x hx hm => by simp at hm; exact (hd x hx).2 hm), hr, hl, hc, (h.ab.keep kk (by simp)).keep k2 (by simpa using h.Bb), hd, h.bS, h.BS, h.Bb, (h.kp.then kk).trans k2 (fun x hx => by simp at hx; subst hx; exact .inr h.hb), h.hb, h.hB, h.hS⟩
/-- the program's function has answered -/
theorem LM.done (h : LM w p bw B cs st st' N n S r vc vw SR wr) (m : MoTo S wr w' p st' N') : ∃ S', LB w p bw B cs st' N' n S' r vc vw SR w' := by
  obtain ⟨S', h1, h2, h3⟩ := m
  have hn : ∀ y, y < wr.heap.size → y ∉ S → y ∉ S' := fun y hy hS hm => by
    rcases h3 y hm with h4 | h4
    · exact hS h4
    · omega
  refine ⟨S', h1, h.mb.keep h2 h.bS, h.mr.keep h2 (fun x hx => (h.dj x hx).1), h.rel, h.wl, h.cl, h.ab.keep h2 h.BS, fun x hx => ⟨hn x ?_ (h.dj x hx).1, (h.dj x hx).2⟩, hn _ h.mb.lt h.bS, hn _ h.ab.lt h.BS, h.Bb, h.kp.trans h2 (fun x hx => .inr (h.hS x hx)), h.hb, h.hB, fun x hx => ?_⟩
  · exact h.mr.lt x hx
  · rcases h3 x hx with h4 | h4
    · exact h.hS x h4
    · have := h.kp.size; omega
end
end Go.Proofs.Ytopkfhmdgheghaa
