/-
  Texts RdC of this claim, put together: what they show stands at their heads.
  Conditions: none but those that each theorem states.
-/
import Derived.Test.YtbjnbngpjdoejaaDoorQ16
namespace Go.Proofs.YtbjnbngpjdoejaaDoor
open Go.RowKit
set_option linter.unusedVariables false
set_option linter.unusedSimpArgs false
set_option linter.unnecessarySimpa false
namespace Fl
set_option maxRecDepth 100000
set_option maxHeartbeats 4000000
abbrev selO (x : List Pn.Cs × Bool) : Pn.Op := ⟨9, 0, 0, 0, x.1, x.2⟩
set_option maxHeartbeats 2000000 in
theorem c_cased (w : List Wr.W) (hw : Wr.small w) : Pure Tryd.prog 33 [.c (.r 1 (w.map eW))] (.tup [.agg (eOp (selO (Wr.csRun w [] false).1)), .c (bI (Wr.csRun w [] false).2)]) := by
  have US := Tryd.underlying9
  have hw1 := hw.1
  generalize hR : Wr.csRun w [] false = R
  refine Con.intro Tryd.func33 rfl rfl rfl (fun ok e => ?_)
  repeat (first
      | (refine K.store ?_; (refine JO.ld (Ld.storeW rfl rfl rfl (by exact rfl) (by exact rfl)) rfl (fun _ => ?_)))
      | (refine K.assign ?_; refine JO.q rfl rfl (Nat.le_of_ble_eq_true rfl) (Qt.assign rfl) ?_)
      | (refine JO.alloc rfl (Nat.le_of_ble_eq_true rfl) ?_; intro _)
      | (refine K.build ?_; refine JO.q rfl rfl (Nat.le_of_ble_eq_true rfl) (Qt.build rfl (by kernel_rfl)) ?_)
      | refine JO.nil ?_
      | refine J.seq ?_
      | refine J.region ?_
      | refine J.block ?_)
  rename_i b2 b4 _
  refine J.nilQ 33 3 ?_
  refine J.loop (ι := { q : (Nat × List Pn.Cs × Bool) × Value // q.1.1 ≤ w.length ∧ q.1.2.1.length ≤ q.1.1 ∧ Wr.csRun (w.drop q.1.1) q.1.2.1 q.1.2.2 = R }) (fun q => [(0, .c (.r 1 (w.map eW))), (2, .c (.v (.pointer (some ⟨b2, 0, none⟩)))), (4, .c (.v (.pointer (some ⟨b4, 0, none⟩)))), (5, .c (nI q.1.1.1))]) (fun q => [.row q.1.2 33 3 (q.1.1.2.1.map eCs), .box b4 36 [nI 9, nI 0, nI 0, nI 0, .v q.1.2, bI q.1.1.2.2], .box b2 36 [nI 0, nI 0, nI 0, nI 0, .v (.slice none 0 0), bI false]]) (fun q => w.length - q.1.1.1) ⟨((0, [], false), .slice none 0 0), by simpa using hR⟩ (fun X h => h.weak ⟨rfl, rfl, rfl, rfl, trivial⟩) (fun q ih => ?_)
  obtain ⟨⟨⟨k, cs, els⟩, v⟩, hI, hc, hE⟩ := q
  simp only at hI hc hE ih ⊢
  by_cases hk : k < w.length
  · have t1 : decide ((k : Int) < (w.length : Int)) = true := decide_eq_true (by omega)
    obtain ⟨x, hx⟩ : ∃ x, w[k]? = some x := ⟨_, List.getElem?_eq_getElem hk⟩
    have AX := at_m (enc := eW) hx
    repeat (first
        | (refine K.move ?_; refine JO.q rfl rfl (Nat.le_of_ble_eq_true rfl) (Qt.move rfl) ?_)
        | (refine K.assign ?_; refine JO.q rfl rfl (Nat.le_of_ble_eq_true rfl) (Qt.assign rfl) ?_)
        | (refine K.binOp ?_; first | refine JO.q rfl rfl (Nat.le_of_ble_eq_true rfl) (Qt.cmp rfl rfl (congrArg some t1)) ?_ | refine JO.q rfl rfl (Nat.le_of_ble_eq_true rfl) (Qt.ari rfl rfl rfl (w64 (by omega) (by omega))) ?_)
        | (refine K.bi ?_; (refine JO.q rfl rfl (Nat.le_of_ble_eq_true rfl) (Qt.lenM rfl) ?_))
        | refine JO.nil ?_
        | refine J.seq ?_
        | refine J.region ?_
        | refine J.block ?_
        | refine J.skip ?_
        | refine J.cond_t rfl ?_)
    refine J.loop (ι := { j : Nat // k + 1 ≤ j ∧ j ≤ w.length ∧ ∀ x ∈ (w.take j).drop (k + 1), Wr.nb x = true }) (fun q => [(0, .c (.r 1 (w.map eW))), (2, .c (.v (.pointer (some ⟨b2, 0, none⟩)))), (4, .c (.v (.pointer (some ⟨b4, 0, none⟩)))), (5, .c (nI k)), (6, .c (nI q.1))]) (fun q => [.row v 33 3 (cs.map eCs), .box b4 36 [nI 9, nI 0, nI 0, nI 0, .v v, bI els], .box b2 36 [nI 0, nI 0, nI 0, nI 0, .v (.slice none 0 0), bI false]]) (fun q => w.length - q.1) ⟨k + 1, Nat.le_refl _, hk, by simp⟩ (fun X h => h.weak ⟨rfl, rfl, rfl, rfl, rfl, trivial⟩) (fun q ih2 => ?_)
    obtain ⟨j, hj1, hj2, hj3⟩ := q
    simp only at hj1 hj2 hj3 ih2 ⊢
    by_cases hj : j < w.length ∧ w[j]? ≠ some Wr.barW
    · obtain ⟨hj, hn⟩ := hj
      have t2 : decide ((j : Int) < (w.length : Int)) = true := decide_eq_true (by omega)
      obtain ⟨y, hy⟩ : ∃ y, w[j]? = some y := ⟨_, List.getElem?_eq_getElem hj⟩
      have AY := at_m (enc := eW) hy
      have t3 : (y != [124]) = true := by rw [bne_iff_ne]; intro e; exact hn (by rw [hy, e]; rfl)
      repeat (first
          | (refine K.load ?_; (refine JO.q rfl rfl (Nat.le_of_ble_eq_true rfl) (Qt.load1 rfl .el rfl) ?_))
          | (refine K.move ?_; refine JO.q rfl rfl (Nat.le_of_ble_eq_true rfl) (Qt.move rfl) ?_)
          | (refine K.assign ?_; refine JO.q rfl rfl (Nat.le_of_ble_eq_true rfl) (Qt.assign rfl) ?_)
          | (refine K.indexAddr ?_; refine JO.q rfl rfl (Nat.le_of_ble_eq_true rfl) (Qt.indexR rfl rfl (by omega) (AY)) ?_)
          | (refine K.binOp ?_; first | refine JO.q rfl rfl (Nat.le_of_ble_eq_true rfl) (Qt.cmp rfl rfl (congrArg some t2)) ?_ | refine JO.q rfl rfl (Nat.le_of_ble_eq_true rfl) ((Qt.strN rfl rfl).eq (congrArg (fun z => D.c (.v (.bool z))) (t3))) ?_ | refine JO.q rfl rfl (Nat.le_of_ble_eq_true rfl) (Qt.ari rfl rfl rfl (w64 (by omega) (by omega))) ?_)
          | (refine K.bi ?_; (refine JO.q rfl rfl (Nat.le_of_ble_eq_true rfl) (Qt.lenM rfl) ?_))
          | (refine K.pick ?_; refine JO.q rfl rfl (Nat.le_of_ble_eq_true rfl) (Qt.pick rfl rfl) ?_)
          | refine JO.nil ?_
          | refine J.seq ?_
          | refine J.region ?_
          | refine J.block ?_
          | refine J.inBlock ?_
          | refine J.skip ?_
          | refine J.cond_t rfl ?_)
      refine (ih2 ⟨j + 1, by omega, by omega, fun z hz => ?_⟩ (by simp only; omega)).weak ⟨rfl, rfl, rfl, rfl, rfl, trivial⟩
      rw [List.take_add_one, hy, List.drop_append_of_le_length (by simp; omega)] at hz
      rcases List.mem_append.1 hz with h | h
      · exact hj3 z h
      · simp at h; subst h; exact t3
    · have hb : j < w.length → w[j]? = some Wr.barW := fun h => by
        by_cases h2 : w[j]? = some Wr.barW
        · exact h2
        · exact absurd ⟨h, h2⟩ hj
      obtain ⟨r1, r2⟩ := Wr.run_at (w := w) (at_ := k + 1) hj1 hj2 hj3 hb
      have hD : w.drop k = x :: w.drop (k + 1) := by
        obtain ⟨_, hx2⟩ := List.getElem?_eq_some_iff.1 hx
        rw [← hx2]; exact List.drop_eq_getElem_cons hk
      rw [hD, Wr.csRun, r1, r2] at hE
      clear hj3 ih2
      refine J.jn3 (ι := Unit) (fun _ => [(0, .c (.r 1 (w.map eW))), (2, .c (.v (.pointer (some ⟨b2, 0, none⟩)))), (4, .c (.v (.pointer (some ⟨b4, 0, none⟩)))), (5, .c (nI k)), (6, .c (nI j))]) (fun _ => [.row v 33 3 (cs.map eCs), .box b4 36 [nI 9, nI 0, nI 0, nI 0, .v v, bI els], .box b2 36 [nI 0, nI 0, nI 0, nI 0, .v (.slice none 0 0), bI false]]) (fun _ => ?_) (fun KK rest => ?_)
      · by_cases hxb : x = Wr.barW
        · have t4 : (x != [124]) = false := by rw [hxb]; rfl
          cases els with
          | true =>
            rw [if_pos (.inr rfl)] at hE
            subst hE
            refine J.frzB 0 1 4 rfl rfl rfl ?_
            simp only [List.set_cons_succ, List.set_cons_zero, List.eraseIdx_cons_zero]
            repeat (first
                | (refine K.fieldAddr ?_; refine JO.q rfl rfl (Nat.le_of_ble_eq_true rfl) (Qt.fieldAddr rfl rfl) ?_)
                | (refine K.load ?_; first | refine JO.q rfl rfl (Nat.le_of_ble_eq_true rfl) (Qt.load1 rfl .el rfl) ?_ | refine JO.q rfl rfl (Nat.le_of_ble_eq_true rfl) (Qt.load1b rfl (by exact rfl)) ?_ | refine JO.q rfl rfl (Nat.le_of_ble_eq_true rfl) (Qt.loadWb rfl (by exact rfl)) ?_)
                | (refine K.move ?_; refine JO.q rfl rfl (Nat.le_of_ble_eq_true rfl) (Qt.move rfl) ?_)
                | (refine K.store ?_; (refine JO.ld (Ld.storeW rfl rfl rfl (by exact rfl) (by exact rfl)) rfl (fun _ => ?_)))
                | (refine K.assign ?_; refine JO.q rfl rfl (Nat.le_of_ble_eq_true rfl) (Qt.assign rfl) ?_)
                | (refine K.indexAddr ?_; refine JO.q rfl rfl (Nat.le_of_ble_eq_true rfl) (Qt.indexR rfl rfl (by omega) (AX)) ?_)
                | (refine K.binOp ?_; (refine JO.q rfl rfl (Nat.le_of_ble_eq_true rfl) ((Qt.strN rfl rfl).eq (congrArg (fun z => D.c (.v (.bool z))) (t4))) ?_))
                | (refine K.pick ?_; refine JO.q rfl rfl (Nat.le_of_ble_eq_true rfl) (Qt.pick rfl rfl) ?_)
                | refine JO.nil ?_
                | refine J.seq ?_
                | refine J.region ?_
                | refine J.cond_t rfl ?_)
            (exact J.ret Tryd.func33 rfl (.cons (.cell 1 rfl rfl rfl) (.cons (.tmp rfl) .nil)) () (by (exact .refl)) [] .nil rfl rfl)
          | false =>
            rw [if_neg (by simp [hxb])] at hE
            have es : ((w.map eW).take (j : Int).toNat).drop ((k : Int) + 1).toNat = ((w.take j).drop (k + 1)).map eW := by
              rw [show ((k : Int) + 1).toNat = k + 1 by omega, Int.toNat_natCast, ← List.map_take, ← List.map_drop]
            have lm : (w.map eW).length = w.length := List.length_map ..
            by_cases he : (w.take j).drop (k + 1) = [Wr.elseW]
            · rw [if_pos he] at hE
              rw [he] at es
              repeat (first
                  | (refine K.fieldAddr ?_; refine JO.q rfl rfl (Nat.le_of_ble_eq_true rfl) (Qt.fieldAddr rfl rfl) ?_)
                  | (refine K.load ?_; first | refine JO.q rfl rfl (Nat.le_of_ble_eq_true rfl) (Qt.load1 rfl .el rfl) ?_ | refine JO.q rfl rfl (Nat.le_of_ble_eq_true rfl) (Qt.load1b rfl (by exact rfl)) ?_)
                  | (refine K.move ?_; refine JO.q rfl rfl (Nat.le_of_ble_eq_true rfl) (Qt.move rfl) ?_)
                  | (refine K.store ?_; (refine JO.ld (Ld.store1 rfl rfl (by exact rfl)) rfl (fun _ => ?_)))
                  | (refine K.assign ?_; refine JO.q rfl rfl (Nat.le_of_ble_eq_true rfl) (Qt.assign rfl) ?_)
                  | (refine K.indexAddr ?_; first | refine JO.q rfl rfl (Nat.le_of_ble_eq_true rfl) (Qt.indexR rfl rfl (by omega) (AX)) ?_ | refine JO.q rfl rfl (Nat.le_of_ble_eq_true rfl) (Qt.indexR rfl rfl (by omega) (rfl)) ?_)
                  | (refine K.binOp ?_; first | refine JO.q rfl rfl (Nat.le_of_ble_eq_true rfl) ((Qt.strN rfl rfl).eq (congrArg (fun z => D.c (.v (.bool z))) (t4))) ?_ | refine JO.q rfl rfl (Nat.le_of_ble_eq_true rfl) (Qt.ari rfl rfl rfl (w64 (by omega) (by omega))) ?_ | refine JO.q rfl rfl (Nat.le_of_ble_eq_true rfl) ((Qt.strE rfl rfl).eq (congrArg (fun z => D.c (.v (.bool z))) ((show (Wr.elseW == [101, 108, 115, 101]) = true from rfl)))) ?_ | refine JO.q rfl rfl (Nat.le_of_ble_eq_true rfl) (Qt.cmp rfl rfl rfl) ?_)
                  | (refine K.bi ?_; (refine JO.q rfl rfl (Nat.le_of_ble_eq_true rfl) (Qt.lenM rfl) ?_))
                  | (refine K.pick ?_; refine JO.q rfl rfl (Nat.le_of_ble_eq_true rfl) (Qt.pick rfl rfl) ?_)
                  | (refine K.slice ?_; refine JO.q rfl rfl (Nat.le_of_ble_eq_true rfl) (((Qt.sliceR rfl rfl rfl (by omega) (by omega) (by omega)).eq (congrArg (fun z => D.c (.r 1 z)) es))) ?_)
                  | refine JO.nil ?_
                  | refine J.seq ?_
                  | refine J.region ?_
                  | refine J.inBlock ?_
                  | refine J.skip ?_
                  | refine J.cond_t rfl ?_
                  | refine J.cond_f rfl ?_)
              exact (ih ⟨((j, cs, true), v), hj2, by simp only; omega, hE⟩ (by simp only; omega)).weak ⟨rfl, rfl, rfl, rfl, trivial⟩
            · rw [if_neg he] at hE
              have sp : Wr.small ((w.take j).drop (k + 1)) := ⟨by simp; omega, fun z hz => hw.2 z (List.mem_of_mem_take (List.mem_of_mem_drop hz))⟩
              have C1 := c_one ((w.take j).drop (k + 1)) sp
              have lc : (cs.map eCs).length = cs.length := List.length_map ..
              generalize hp : (w.take j).drop (k + 1) = p at *
              have t6 : (∃ y, p = [y] ∧ (y == [101, 108, 115, 101]) = false) ∨ ((p.length : Int) == 1) = false := by
                by_cases h1 : p.length = 1
                · left
                  obtain ⟨y, rfl⟩ := List.length_eq_one_iff.1 h1
                  exact ⟨y, rfl, by rw [beq_eq_false_iff_ne]; intro e; exact he (by rw [e]; rfl)⟩
                · right
                  rw [beq_eq_false_iff_ne]; omega
              unfold oneV oneB at C1
              cases ho : Wr.one p with
              | none =>
                rw [ho] at C1 hE
                simp only at hE
                subst hE
                refine J.frzB 0 1 4 rfl rfl rfl ?_
                simp only [List.set_cons_succ, List.set_cons_zero, List.eraseIdx_cons_zero]
                rcases t6 with ⟨y, rfl, t6⟩ | t6
                · repeat (first
                    | (refine K.fieldAddr ?_; refine JO.q rfl rfl (Nat.le_of_ble_eq_true rfl) (Qt.fieldAddr rfl rfl) ?_)
                    | (refine K.load ?_; first | refine JO.q rfl rfl (Nat.le_of_ble_eq_true rfl) (Qt.load1 rfl .el rfl) ?_ | refine JO.q rfl rfl (Nat.le_of_ble_eq_true rfl) (Qt.load1b rfl (by exact rfl)) ?_ | refine JO.q rfl rfl (Nat.le_of_ble_eq_true rfl) (Qt.loadWb rfl (by exact rfl)) ?_)
                    | (refine K.move ?_; refine JO.q rfl rfl (Nat.le_of_ble_eq_true rfl) (Qt.move rfl) ?_)
                    | (refine K.store ?_; (refine JO.ld (Ld.storeW rfl rfl rfl (by exact rfl) (by exact rfl)) rfl (fun _ => ?_)))
                    | (refine K.assign ?_; refine JO.q rfl rfl (Nat.le_of_ble_eq_true rfl) (Qt.assign rfl) ?_)
                    | (refine K.indexAddr ?_; first | refine JO.q rfl rfl (Nat.le_of_ble_eq_true rfl) (Qt.indexR rfl rfl (by omega) (AX)) ?_ | refine JO.q rfl rfl (Nat.le_of_ble_eq_true rfl) (Qt.indexR rfl rfl (by omega) (rfl)) ?_)
                    | (refine K.binOp ?_; first | refine JO.q rfl rfl (Nat.le_of_ble_eq_true rfl) ((Qt.strN rfl rfl).eq (congrArg (fun z => D.c (.v (.bool z))) (t4))) ?_ | refine JO.q rfl rfl (Nat.le_of_ble_eq_true rfl) (Qt.ari rfl rfl rfl (w64 (by omega) (by omega))) ?_ | refine JO.q rfl rfl (Nat.le_of_ble_eq_true rfl) ((Qt.strE rfl rfl).eq (congrArg (fun z => D.c (.v (.bool z))) (t6))) ?_ | refine JO.q rfl rfl (Nat.le_of_ble_eq_true rfl) (Qt.cmp rfl rfl rfl) ?_)
                    | (refine K.call ?_; (refine JO.pure (C1) rfl (Nat.le_of_ble_eq_true rfl) rfl ?_ ?_; focus ((repeat (first | exact LeDs.nil | refine LeDs.cons LeD.refl ?_)); done)))
                    | (refine K.unOp ?_; refine JO.q rfl rfl (Nat.le_of_ble_eq_true rfl) (Qt.not rfl) ?_)
                    | (refine K.bi ?_; (refine JO.q rfl rfl (Nat.le_of_ble_eq_true rfl) (Qt.lenM rfl) ?_))
                    | (refine K.extract ?_; refine JO.q rfl rfl (Nat.le_of_ble_eq_true rfl) (Qt.extract rfl rfl) ?_)
                    | (refine JO.alloc rfl (Nat.le_of_ble_eq_true rfl) ?_; intro _)
                    | (refine K.pick ?_; refine JO.q rfl rfl (Nat.le_of_ble_eq_true rfl) (Qt.pick rfl rfl) ?_)
                    | (refine K.slice ?_; refine JO.q rfl rfl (Nat.le_of_ble_eq_true rfl) (((Qt.sliceR rfl rfl rfl (by omega) (by omega) (by omega)).eq (congrArg (fun z => D.c (.r 1 z)) es))) ?_)
                    | refine JO.nil ?_
                    | refine J.seq ?_
                    | refine J.region ?_
                    | refine J.skip ?_
                    | refine J.cond_t rfl ?_
                    | refine J.cond_f rfl ?_)
                  (exact J.ret Tryd.func33 rfl (.cons (.cell 2 rfl rfl rfl) (.cons (.tmp rfl) .nil)) () (by (exact .refl)) [] .nil rfl rfl)
                · repeat (first
                    | (refine K.fieldAddr ?_; refine JO.q rfl rfl (Nat.le_of_ble_eq_true rfl) (Qt.fieldAddr rfl rfl) ?_)
                    | (refine K.load ?_; first | refine JO.q rfl rfl (Nat.le_of_ble_eq_true rfl) (Qt.load1 rfl .el rfl) ?_ | refine JO.q rfl rfl (Nat.le_of_ble_eq_true rfl) (Qt.load1b rfl (by exact rfl)) ?_ | refine JO.q rfl rfl (Nat.le_of_ble_eq_true rfl) (Qt.loadWb rfl (by exact rfl)) ?_)
                    | (refine K.move ?_; refine JO.q rfl rfl (Nat.le_of_ble_eq_true rfl) (Qt.move rfl) ?_)
                    | (refine K.store ?_; (refine JO.ld (Ld.storeW rfl rfl rfl (by exact rfl) (by exact rfl)) rfl (fun _ => ?_)))
                    | (refine K.assign ?_; refine JO.q rfl rfl (Nat.le_of_ble_eq_true rfl) (Qt.assign rfl) ?_)
                    | (refine K.indexAddr ?_; refine JO.q rfl rfl (Nat.le_of_ble_eq_true rfl) (Qt.indexR rfl rfl (by omega) (AX)) ?_)
                    | (refine K.binOp ?_; first | refine JO.q rfl rfl (Nat.le_of_ble_eq_true rfl) ((Qt.strN rfl rfl).eq (congrArg (fun z => D.c (.v (.bool z))) (t4))) ?_ | refine JO.q rfl rfl (Nat.le_of_ble_eq_true rfl) (Qt.ari rfl rfl rfl (w64 (by omega) (by omega))) ?_ | refine JO.q rfl rfl (Nat.le_of_ble_eq_true rfl) (Qt.cmp rfl rfl (congrArg some t6)) ?_)
                    | (refine K.call ?_; (refine JO.pure (C1) rfl (Nat.le_of_ble_eq_true rfl) rfl ?_ ?_; focus ((repeat (first | exact LeDs.nil | refine LeDs.cons LeD.refl ?_)); done)))
                    | (refine K.unOp ?_; refine JO.q rfl rfl (Nat.le_of_ble_eq_true rfl) (Qt.not rfl) ?_)
                    | (refine K.bi ?_; (refine JO.q rfl rfl (Nat.le_of_ble_eq_true rfl) (Qt.lenM rfl) ?_))
                    | (refine K.extract ?_; refine JO.q rfl rfl (Nat.le_of_ble_eq_true rfl) (Qt.extract rfl rfl) ?_)
                    | (refine JO.alloc rfl (Nat.le_of_ble_eq_true rfl) ?_; intro _)
                    | (refine K.pick ?_; refine JO.q rfl rfl (Nat.le_of_ble_eq_true rfl) (Qt.pick rfl rfl) ?_)
                    | (refine K.slice ?_; refine JO.q rfl rfl (Nat.le_of_ble_eq_true rfl) (((Qt.sliceR rfl rfl rfl (by omega) (by omega) (by omega)).eq (congrArg (fun z => D.c (.r 1 z)) es))) ?_)
                    | refine JO.nil ?_
                    | refine J.seq ?_
                    | refine J.region ?_
                    | refine J.skip ?_
                    | refine J.cond_t rfl ?_
                    | refine J.cond_f rfl ?_
                    | refine JO.no rfl rfl (Nat.le_of_ble_eq_true rfl) ?_)
                  (exact J.ret Tryd.func33 rfl (.cons (.cell 2 rfl rfl rfl) (.cons (.tmp rfl) .nil)) () (by (exact .refl)) [] .nil rfl rfl)
              | some cc =>
                rw [ho] at C1 hE
                simp only at hE
                rcases t6 with ⟨y, rfl, t6⟩ | t6
                · repeat (first
                    | (refine K.fieldAddr ?_; refine JO.q rfl rfl (Nat.le_of_ble_eq_true rfl) (Qt.fieldAddr rfl rfl) ?_)
                    | (refine K.load ?_; first | refine JO.q rfl rfl (Nat.le_of_ble_eq_true rfl) (Qt.load1 rfl .el rfl) ?_ | refine JO.q rfl rfl (Nat.le_of_ble_eq_true rfl) (Qt.load1b rfl (by exact rfl)) ?_ | refine JO.q rfl rfl (Nat.le_of_ble_eq_true rfl) (Qt.loadWb rfl (by exact rfl)) ?_)
                    | (refine K.move ?_; refine JO.q rfl rfl (Nat.le_of_ble_eq_true rfl) (Qt.move rfl) ?_)
                    | (refine K.store ?_; first | refine JO.ld (Ld.storeW rfl rfl rfl (by exact rfl) (by exact rfl)) rfl (fun _ => ?_) | refine JO.ld (Ld.store1 rfl rfl (by exact rfl)) rfl (fun _ => ?_))
                    | (refine K.assign ?_; refine JO.q rfl rfl (Nat.le_of_ble_eq_true rfl) (Qt.assign rfl) ?_)
                    | (refine K.indexAddr ?_; first | refine JO.q rfl rfl (Nat.le_of_ble_eq_true rfl) (Qt.indexR rfl rfl (by omega) (AX)) ?_ | refine JO.q rfl rfl (Nat.le_of_ble_eq_true rfl) (Qt.indexR rfl rfl (by omega) (rfl)) ?_)
                    | (refine K.binOp ?_; first | refine JO.q rfl rfl (Nat.le_of_ble_eq_true rfl) ((Qt.strN rfl rfl).eq (congrArg (fun z => D.c (.v (.bool z))) (t4))) ?_ | refine JO.q rfl rfl (Nat.le_of_ble_eq_true rfl) (Qt.ari rfl rfl rfl (w64 (by omega) (by omega))) ?_ | refine JO.q rfl rfl (Nat.le_of_ble_eq_true rfl) ((Qt.strE rfl rfl).eq (congrArg (fun z => D.c (.v (.bool z))) (t6))) ?_ | refine JO.q rfl rfl (Nat.le_of_ble_eq_true rfl) (Qt.cmp rfl rfl rfl) ?_)
                    | (refine K.call ?_; (refine JO.pure (C1) rfl (Nat.le_of_ble_eq_true rfl) rfl ?_ ?_; focus ((repeat (first | exact LeDs.nil | refine LeDs.cons LeD.refl ?_)); done)))
                    | (refine K.unOp ?_; refine JO.q rfl rfl (Nat.le_of_ble_eq_true rfl) (Qt.not rfl) ?_)
                    | (refine K.bi ?_; (refine JO.q rfl rfl (Nat.le_of_ble_eq_true rfl) (Qt.lenM rfl) ?_))
                    | (refine K.extract ?_; refine JO.q rfl rfl (Nat.le_of_ble_eq_true rfl) (Qt.extract rfl rfl) ?_)
                    | (refine JO.alloc rfl (Nat.le_of_ble_eq_true rfl) ?_; intro _)
                    | (refine K.pick ?_; refine JO.q rfl rfl (Nat.le_of_ble_eq_true rfl) (Qt.pick rfl rfl) ?_)
                    | (refine K.lit ?_; (refine JO.lit1 rfl (Nat.le_of_ble_eq_true rfl) rfl rfl rfl rfl rfl ?_; intro _))
                    | (refine K.slice ?_; refine JO.q rfl rfl (Nat.le_of_ble_eq_true rfl) (((Qt.sliceR rfl rfl rfl (by omega) (by omega) (by omega)).eq (congrArg (fun z => D.c (.r 1 z)) es))) ?_)
                    | (refine K.bi ?_; ((refine JO.ld (Ld.appOw (Nat.le_of_ble_eq_true rfl) rfl rfl .ownC (by (simp; omega))) rfl (fun _ => ?_))))
                    | refine JO.nil ?_
                    | refine J.seq ?_
                    | refine J.region ?_
                    | refine J.inBlock ?_
                    | refine J.skip ?_
                    | refine J.cond_f rfl ?_)
                  rename_i v2 _
                  refine J.drop 1 ?_
                  refine J.drop 1 ?_
                  simp only [List.eraseIdx_cons_succ, List.eraseIdx_cons_zero]
                  refine J.congL ?_ ((ih ⟨((j, cs ++ [cc], false), v2), hj2, by simp only [List.length_append, List.length_cons, List.length_nil]; omega, hE⟩ (by simp only; omega)).weak ⟨rfl, rfl, rfl, rfl, trivial⟩)
                  simp only [List.map_append]
                  rfl
                · repeat (first
                    | (refine K.fieldAddr ?_; refine JO.q rfl rfl (Nat.le_of_ble_eq_true rfl) (Qt.fieldAddr rfl rfl) ?_)
                    | (refine K.load ?_; first | refine JO.q rfl rfl (Nat.le_of_ble_eq_true rfl) (Qt.load1 rfl .el rfl) ?_ | refine JO.q rfl rfl (Nat.le_of_ble_eq_true rfl) (Qt.load1b rfl (by exact rfl)) ?_ | refine JO.q rfl rfl (Nat.le_of_ble_eq_true rfl) (Qt.loadWb rfl (by exact rfl)) ?_)
                    | (refine K.move ?_; refine JO.q rfl rfl (Nat.le_of_ble_eq_true rfl) (Qt.move rfl) ?_)
                    | (refine K.store ?_; first | refine JO.ld (Ld.storeW rfl rfl rfl (by exact rfl) (by exact rfl)) rfl (fun _ => ?_) | refine JO.ld (Ld.store1 rfl rfl (by exact rfl)) rfl (fun _ => ?_))
                    | (refine K.assign ?_; refine JO.q rfl rfl (Nat.le_of_ble_eq_true rfl) (Qt.assign rfl) ?_)
                    | (refine K.indexAddr ?_; refine JO.q rfl rfl (Nat.le_of_ble_eq_true rfl) (Qt.indexR rfl rfl (by omega) (AX)) ?_)
                    | (refine K.binOp ?_; first | refine JO.q rfl rfl (Nat.le_of_ble_eq_true rfl) ((Qt.strN rfl rfl).eq (congrArg (fun z => D.c (.v (.bool z))) (t4))) ?_ | refine JO.q rfl rfl (Nat.le_of_ble_eq_true rfl) (Qt.ari rfl rfl rfl (w64 (by omega) (by omega))) ?_ | refine JO.q rfl rfl (Nat.le_of_ble_eq_true rfl) (Qt.cmp rfl rfl (congrArg some t6)) ?_)
                    | (refine K.call ?_; (refine JO.pure (C1) rfl (Nat.le_of_ble_eq_true rfl) rfl ?_ ?_; focus ((repeat (first | exact LeDs.nil | refine LeDs.cons LeD.refl ?_)); done)))
                    | (refine K.unOp ?_; refine JO.q rfl rfl (Nat.le_of_ble_eq_true rfl) (Qt.not rfl) ?_)
                    | (refine K.bi ?_; (refine JO.q rfl rfl (Nat.le_of_ble_eq_true rfl) (Qt.lenM rfl) ?_))
                    | (refine K.extract ?_; refine JO.q rfl rfl (Nat.le_of_ble_eq_true rfl) (Qt.extract rfl rfl) ?_)
                    | (refine JO.alloc rfl (Nat.le_of_ble_eq_true rfl) ?_; intro _)
                    | (refine K.pick ?_; refine JO.q rfl rfl (Nat.le_of_ble_eq_true rfl) (Qt.pick rfl rfl) ?_)
                    | (refine K.lit ?_; (refine JO.lit1 rfl (Nat.le_of_ble_eq_true rfl) rfl rfl rfl rfl rfl ?_; intro _))
                    | (refine K.slice ?_; refine JO.q rfl rfl (Nat.le_of_ble_eq_true rfl) (((Qt.sliceR rfl rfl rfl (by omega) (by omega) (by omega)).eq (congrArg (fun z => D.c (.r 1 z)) es))) ?_)
                    | (refine K.bi ?_; ((refine JO.ld (Ld.appOw (Nat.le_of_ble_eq_true rfl) rfl rfl .ownC (by (simp; omega))) rfl (fun _ => ?_))))
                    | refine JO.nil ?_
                    | refine J.seq ?_
                    | refine J.region ?_
                    | refine J.inBlock ?_
                    | refine J.skip ?_
                    | refine J.cond_f rfl ?_
                    | refine JO.no rfl rfl (Nat.le_of_ble_eq_true rfl) ?_)
                  rename_i v2 _
                  refine J.drop 1 ?_
                  refine J.drop 1 ?_
                  simp only [List.eraseIdx_cons_succ, List.eraseIdx_cons_zero]
                  refine J.congL ?_ ((ih ⟨((j, cs ++ [cc], false), v2), hj2, by simp only [List.length_append, List.length_cons, List.length_nil]; omega, hE⟩ (by simp only; omega)).weak ⟨rfl, rfl, rfl, rfl, trivial⟩)
                  simp only [List.map_append]
                  rfl
        · have t4 : (x != [124]) = true := by rw [bne_iff_ne]; exact hxb
          rw [if_pos (.inl hxb)] at hE
          subst hE
          refine J.frzB 0 1 4 rfl rfl rfl ?_
          simp only [List.set_cons_succ, List.set_cons_zero, List.eraseIdx_cons_zero]
          repeat (first
              | (refine K.load ?_; first | refine JO.q rfl rfl (Nat.le_of_ble_eq_true rfl) (Qt.load1 rfl .el rfl) ?_ | refine JO.q rfl rfl (Nat.le_of_ble_eq_true rfl) (Qt.loadWb rfl (by exact rfl)) ?_)
              | (refine K.move ?_; refine JO.q rfl rfl (Nat.le_of_ble_eq_true rfl) (Qt.move rfl) ?_)
              | (refine K.store ?_; (refine JO.ld (Ld.storeW rfl rfl rfl (by exact rfl) (by exact rfl)) rfl (fun _ => ?_)))
              | (refine K.assign ?_; refine JO.q rfl rfl (Nat.le_of_ble_eq_true rfl) (Qt.assign rfl) ?_)
              | (refine K.indexAddr ?_; refine JO.q rfl rfl (Nat.le_of_ble_eq_true rfl) (Qt.indexR rfl rfl (by omega) (AX)) ?_)
              | (refine K.binOp ?_; (refine JO.q rfl rfl (Nat.le_of_ble_eq_true rfl) ((Qt.strN rfl rfl).eq (congrArg (fun z => D.c (.v (.bool z))) (t4))) ?_))
              | (refine K.pick ?_; refine JO.q rfl rfl (Nat.le_of_ble_eq_true rfl) (Qt.pick rfl rfl) ?_)
              | refine JO.nil ?_
              | refine J.seq ?_
              | refine J.region ?_
              | refine J.cond_t rfl ?_
              | refine JO.no rfl rfl (Nat.le_of_ble_eq_true rfl) ?_)
          (exact J.ret Tryd.func33 rfl (.cons (.cell 1 rfl rfl rfl) (.cons (.tmp rfl) .nil)) () (by (exact .refl)) [] .nil rfl rfl)
      · by_cases hj : j < w.length
        · have t2 : decide ((j : Int) < (w.length : Int)) = true := decide_eq_true (by omega)
          have AY := at_m (enc := eW) (hb hj)
          repeat (first
              | (refine K.load ?_; (refine JO.q rfl rfl (Nat.le_of_ble_eq_true rfl) (Qt.load1 rfl .el rfl) ?_))
              | (refine K.move ?_; refine JO.q rfl rfl (Nat.le_of_ble_eq_true rfl) (Qt.move rfl) ?_)
              | (refine K.indexAddr ?_; refine JO.q rfl rfl (Nat.le_of_ble_eq_true rfl) (Qt.indexR rfl rfl (by omega) (AY)) ?_)
              | (refine K.binOp ?_; first | refine JO.q rfl rfl (Nat.le_of_ble_eq_true rfl) (Qt.cmp rfl rfl (congrArg some t2)) ?_ | refine JO.q rfl rfl (Nat.le_of_ble_eq_true rfl) ((Qt.strN rfl rfl).eq (congrArg (fun z => D.c (.v (.bool z))) ((show (Wr.barW != [124]) = false from rfl)))) ?_)
              | (refine K.bi ?_; (refine JO.q rfl rfl (Nat.le_of_ble_eq_true rfl) (Qt.lenM rfl) ?_))
              | (refine K.pick ?_; refine JO.q rfl rfl (Nat.le_of_ble_eq_true rfl) (Qt.pick rfl rfl) ?_)
              | refine JO.nil ?_
              | refine J.seq ?_
              | refine J.region ?_
              | refine J.exit rfl ?_
              | refine J.cond_f rfl ?_)
          exact (rest ()).weak ⟨rfl, rfl, rfl, rfl, rfl, trivial⟩
        · have t2 : decide ((j : Int) < (w.length : Int)) = false := decide_eq_false (by omega)
          repeat (first
              | (refine K.move ?_; refine JO.q rfl rfl (Nat.le_of_ble_eq_true rfl) (Qt.move rfl) ?_)
              | (refine K.binOp ?_; (refine JO.q rfl rfl (Nat.le_of_ble_eq_true rfl) (Qt.cmp rfl rfl (congrArg some t2)) ?_))
              | (refine K.bi ?_; (refine JO.q rfl rfl (Nat.le_of_ble_eq_true rfl) (Qt.lenM rfl) ?_))
              | (refine K.pick ?_; refine JO.q rfl rfl (Nat.le_of_ble_eq_true rfl) (Qt.pick rfl rfl) ?_)
              | refine JO.nil ?_
              | refine J.seq ?_
              | refine J.region ?_
              | refine J.exit rfl ?_
              | refine J.cond_f rfl ?_
              | refine JO.no rfl rfl (Nat.le_of_ble_eq_true rfl) ?_)
          exact (rest ()).weak ⟨rfl, rfl, rfl, rfl, rfl, trivial⟩
  · obtain rfl : k = w.length := by omega
    have t1 : decide ((w.length : Int) < (w.length : Int)) = false := decide_eq_false (by omega)
    rw [List.drop_length, Wr.csRun] at hE
    subst hE
    refine J.frzB 0 1 4 rfl rfl rfl ?_
    simp only [List.set_cons_succ, List.set_cons_zero, List.eraseIdx_cons_zero]
    repeat (first
        | (refine K.load ?_; (refine JO.q rfl rfl (Nat.le_of_ble_eq_true rfl) (Qt.loadWb rfl (by exact rfl)) ?_))
        | (refine K.move ?_; refine JO.q rfl rfl (Nat.le_of_ble_eq_true rfl) (Qt.move rfl) ?_)
        | (refine K.store ?_; (refine JO.ld (Ld.storeW rfl rfl rfl (by exact rfl) (by exact rfl)) rfl (fun _ => ?_)))
        | (refine K.assign ?_; refine JO.q rfl rfl (Nat.le_of_ble_eq_true rfl) (Qt.assign rfl) ?_)
        | (refine K.binOp ?_; (refine JO.q rfl rfl (Nat.le_of_ble_eq_true rfl) (Qt.cmp rfl rfl (congrArg some t1)) ?_))
        | (refine K.bi ?_; (refine JO.q rfl rfl (Nat.le_of_ble_eq_true rfl) (Qt.lenM rfl) ?_))
        | refine JO.nil ?_
        | refine J.seq ?_
        | refine J.region ?_
        | refine J.exit rfl ?_
        | refine J.cond_f rfl ?_)
    (exact J.ret Tryd.func33 rfl (.cons (.cell 1 rfl rfl rfl) (.cons (.tmp rfl) .nil)) () (by (exact .refl)) [] .nil rfl rfl)
end Fl
end Go.Proofs.YtbjnbngpjdoejaaDoor
