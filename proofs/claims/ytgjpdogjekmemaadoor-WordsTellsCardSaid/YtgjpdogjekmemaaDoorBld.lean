/-
  strings.Builder: WriteString and String of a builder of one's own, with all that else lies kept.
  Conditions: none.
-/
import Derived.Test.YtgjpdogjekmemaaDoorWdN
import Derived.Test.YtgjpdogjekmemaaDoorWdL
import Derived.Test.YtgjpdogjekmemaaDoorTab
import Derived.Test.YtgjpdogjekmemaaDoorBun
import Derived.Lib.Builder
import Derived.Lib.UnsafeStr
import Derived.WalkKit
namespace Go.Proofs.YtgjpdogjekmemaaDoor
open Go.RowKit
set_option linter.unusedVariables false
set_option linter.unusedSimpArgs false
set_option linter.unnecessarySimpa false
namespace Fl
set_option maxRecDepth 100000
section
variable {P : Program}
/-- a text behind a row of bytes that is owned: where the row lies then -/
theorem ap_own (w : World) (t u ty e : TypeId) (i : TypeInfo) (ht : P.underlying t = some (.slice e)) (hu : P.underlying u = some .string) (hi : P.info? e = some i) (hz : i.zero = some (.int .u8 0)) (hsize : i.size = 1) (hby : i.bytes = 1)
    (v : Value) (n : Nat) (xs : List Value) (hown : w.ownsRow 0 e 1 v n xs) (s : ByteArray) (h63 : n + s.size ≤ maxLen) (hbytes : n + s.size ≤ 140737488355328) :
    ∃ v' w', (Builtin.append_ #[t, u] ty #[v, .string s]).run P w = .ok v' w' ∧ w'.ownsRow 0 e 1 v' (n + s.size) (xs ++ Lib.strCells s) ∧ w.grownBy w' v.ownBlock ∧ ∀ g, v'.ownBlock = some g → v.ownBlock = some g ∨ w.heap.size ≤ g := by
  obtain ⟨v', w', hr, h2, h3, -⟩ := Lib.run_append_own_string (P := P) w 0 t u ty e i ht hu hi hz hsize hby v n xs hown s h63 hbytes (Nat.zero_le _)
  refine ⟨v', w', hr, h2, h3, fun g hg => ?_⟩
  have hxl : xs.length = n := by simpa using hown.1
  rcases hown.2 with ⟨rfl, rfl⟩ | ⟨g0, cap, cur, rfl, _, hg0, hnc, hcm, hcs, htake⟩
  · have hx : xs = [] := List.eq_nil_of_length_eq_zero hxl
    subst hx
    obtain ⟨v2, w2, hr2, o2, -, -⟩ := Lib.run_append_own_string (P := P) w w.heap.size t u ty e i ht hu hi hz hsize hby _ 0 [] (World.ownsRow_nil w w.heap.size e 1) s h63 hbytes (Nat.le_refl _)
    rw [hr] at hr2
    simp only [Result.ok.injEq] at hr2
    obtain ⟨rfl, rfl⟩ := hr2
    rcases o2.2 with ⟨rfl, _⟩ | ⟨g1, _, _, rfl, hb, _⟩
    · simp [Value.ownBlock] at hg
    · simp [Value.ownBlock] at hg
      subst hg
      exact .inr hb
  · by_cases hroom : n + s.size ≤ cap
    · have hcs' : cur.size = cap := by simpa using hcs
      have hr2 := Lib.run_append_room_string (P := P) w t u ty e i ht hu hi hsize g0 n cap cur hg0 s hroom (by omega)
      rw [hr] at hr2
      simp only [Result.ok.injEq] at hr2
      obtain ⟨rfl, rfl⟩ := hr2
      simp [Value.ownBlock] at hg ⊢
      exact .inl hg
    · have holds : ∀ j u, xs[j]? = some u → w.cell? ((⟨g0, 0, none⟩ : Addr).add j) = some u := hown.cells (g := g0) rfl
      have hsmall : n + s.size ≤ 9223372036854775807 := by simp only [maxLen] at h63; omega
      have hr2 := Lib.run_append_grow_string (P := P) w t u ty e i (.int .u8 0) ht hu hi hz ⟨g0, 0, none⟩ n cap xs (by rw [hsize]; simpa using hxl) holds s (by omega) (by omega) (by rw [hby]; exact growslice_fits (by omega) (by omega))
      rw [hr] at hr2
      simp only [Result.ok.injEq] at hr2
      obtain ⟨rfl, rfl⟩ := hr2
      simp [Value.ownBlock] at hg
      exact .inr (by omega)
theorem wp_ap (w : World) {ops : Array Oper} {rest : List Oper} {o : Oper} {a : Act} {Q : Exit → Act → World → Prop} (hgd : o.guard = none) (sl x : Operand) (t u : TypeId) (ho : o.op = .call { callee := .builtin .append, args := #[sl, x], argTypes := #[t, u] })
    (e : TypeId) (i : TypeInfo) (ht : P.underlying t = some (.slice e)) (hu : P.underlying u = some .string) (hi : P.info? e = some i) (hz : i.zero = some (.int .u8 0)) (hsize : i.size = 1) (hby : i.bytes = 1)
    (v : Value) (n : Nat) (xs : List Value) (hs : a.eval sl = v) (hown : w.ownsRow 0 e 1 v n xs) (s : ByteArray) (hx : a.eval x = .string s) (h63 : n + s.size ≤ maxLen) (hbytes : n + s.size ≤ 140737488355328)
    (h : ∀ v' w', w'.ownsRow 0 e 1 v' (n + s.size) (xs ++ Lib.strCells s) → w.grownBy w' v.ownBlock → (∀ g, v'.ownBlock = some g → v.ownBlock = some g ∨ w.heap.size ≤ g) → wpList P ops Q rest (a.put o.dst v') w') : wpList P ops Q (o :: rest) a w := by
  refine wpList_plain hgd fun K hK => ?_
  obtain ⟨v', w', hr, h2, h3, h4⟩ := ap_own (P := P) w t u o.type e i ht hu hi hz hsize hby v n xs hown s h63 hbytes
  unfold Oper.wp execOp
  simp only [ho, resolve, invoke, builtin, Sem.run_bind, Sem.run_pure, Result.andThen_ok, List.map_toArray, List.map_cons, List.map_nil, hs, hx, hr]
  exact hK _ _ (h v' w' h2 h3 h4)
end
/-- a builder in block b that holds the bytes l; S: its blocks -/
def Bu (b : Nat) (l : List UInt8) (w : World) (S : List Nat) : Prop :=
  ∃ p v, (p = .pointer none ∨ p = .pointer (some ⟨b, 0, none⟩)) ∧ w.heap[b]? = some (.cells #[p, v] 45 (0, 0)) ∧ w.ownsRow 0 5 1 v l.length (Lib.byteCells l) ∧ v.ownBlock ≠ some b ∧ S = b :: v.ownBlock.toList
theorem bi_info : ∃ j, Tryd.prog.info? 45 = some j ∧ j.size = 2 := by
  have : (Tryd.prog.info? 45).map (·.size) = some 2 := by kernel_rfl
  exact Option.map_eq_some_iff.1 this
theorem bd_used (b : Nat) (w : World) (h0 : w.cell? ⟨b, 0, none⟩ = some (.pointer (some ⟨b, 0, none⟩))) :
    Calls Tryd.prog 35 #[.pointer (some ⟨b, 0, none⟩)] w fun e w' => e = .returned (.tuple #[]) ∧ w' = w := by
  obtain ⟨j, hj, _⟩ := bi_info
  go_enter Tryd.func35, Tryd.ntmps35
  go_wp2
  rw [Lib.run_neq_ptr_same w _ Tryd.underlying42 hj]
  go_wp2
  go_end0
  exact ⟨rfl, rfl⟩
theorem bd_fresh (b : Nat) (w : World) (h0 : w.cell? ⟨b, 0, none⟩ = some (.pointer none)) (hsh : w.shape? b = some (45, 2)) (hfz : w.frozen? ⟨b, 0, none⟩ = false) :
    Calls Tryd.prog 35 #[.pointer (some ⟨b, 0, none⟩)] w fun e w' => e = .returned (.tuple #[]) ∧ w' = w.setCell ⟨b, 0, none⟩ (.pointer (some ⟨b, 0, none⟩)) := by
  obtain ⟨j, hj, hjs⟩ := bi_info
  go_enter Tryd.func35, Tryd.ntmps35
  go_wp2
  rw [Lib.run_to_unsafe w ⟨b, 0, none⟩ Tryd.underlying42 Tryd.underlying84 hj (by rw [hjs]; decide) hsh (Nat.zero_lt_succ 1)]
  simp only [Result.andThen]
  rw [Oper.upon_value]
  go_wp2
  rw [run_callFunc_extern Tryd.func50 (by kernel_rfl) (by kernel_rfl) (by kernel_rfl) (e := Extern.AbiNoEscape.same) (by kernel_rfl)]
  rw [Lib.run_noEscape]
  simp only [Result.andThen]
  rw [Oper.upon_value]
  go_wp2
  rw [Lib.run_from_unsafe w ⟨b, 0, none⟩ Tryd.underlying84 Tryd.underlying42 hj hsh (by kernel_rfl)]
  simp only [Result.andThen]
  rw [Oper.upon_value]
  go_wp2
  go_end0
  exact ⟨rfl, rfl⟩
theorem bd_check (b : Nat) (p v : Value) (w : World) (hp : p = .pointer none ∨ p = .pointer (some ⟨b, 0, none⟩)) (hb : w.heap[b]? = some (.cells #[p, v] 45 (0, 0))) :
    Calls Tryd.prog 35 #[.pointer (some ⟨b, 0, none⟩)] w fun e w' => e = .returned (.tuple #[]) ∧ Keeps [b] w w' ∧ w'.heap[b]? = some (.cells #[.pointer (some ⟨b, 0, none⟩), v] 45 (0, 0)) := by
  have hlt : b < w.heap.size := by
    rcases Nat.lt_or_ge b w.heap.size with h' | h'
    · exact h'
    · rw [Array.getElem?_eq_none h'] at hb; cases hb
  rcases hp with rfl | rfl
  · refine (bd_fresh b w (by rw [Lib.cell_of_heap hb]; rfl) (by simp [World.shape?, hb]) (by simp [World.frozen?, hb])).mono ?_
    rintro e w' ⟨rfl, rfl⟩
    refine ⟨rfl, ⟨rfl, rfl, rfl, by simp [World.setCell], fun k _ hk => Below.heap_setCell _ _ _ _ (fun e => hk (by simp [e]))⟩, ?_⟩
    simp [World.setCell, Array.getElem?_modify, hb]
  · refine (bd_used b w (by rw [Lib.cell_of_heap hb]; rfl)).mono ?_
    rintro e w' ⟨rfl, rfl⟩
    exact ⟨rfl, Keeps.refl _ _, hb⟩
theorem by_info : ∃ i, Tryd.prog.info? 5 = some i ∧ i.zero = some (.int .u8 0) ∧ i.size = 1 ∧ i.bytes = 1 := by
  have : (Tryd.prog.info? 5).map (fun i => (i.zero, i.size, i.bytes)) = some (some (.int .u8 0), 1, 1) := by kernel_rfl
  obtain ⟨i, h1, h2⟩ := Option.map_eq_some_iff.1 this
  simp only [Prod.mk.injEq] at h2
  exact ⟨i, h1, h2.1, h2.2.1, h2.2.2⟩
theorem bd_write (b : Nat) (l s : List UInt8) (w : World) (S : List Nat) (h : Bu b l w S) (hlen : l.length + s.length ≤ 140737488355328) :
    Calls Tryd.prog 19 #[.pointer (some ⟨b, 0, none⟩), strV s] w fun e w' => e = .returned (.tuple #[.int .i64 s.length, .nilIface]) ∧ ∃ S', Bu b (l ++ s) w' S' ∧ Keeps S w w' ∧ ∀ y ∈ S', y ∈ S ∨ w.heap.size ≤ y := by
  obtain ⟨p, v, hp, hb, hown, hne, rfl⟩ := h
  obtain ⟨i0, hi, hz0, hz1, hz2⟩ := by_info
  have hlt : b < w.heap.size := by
    rcases Nat.lt_or_ge b w.heap.size with h' | h'
    · exact h'
    · rw [Array.getElem?_eq_none h'] at hb; cases hb
  have C := bd_check b p v w hp hb
  unfold strV
  go_enter Tryd.func19, Tryd.ntmps19
  go_wp2_with (go_at_call 35; refine C.mono ?_)
  rintro e w1 ⟨rfl, k1, hbk⟩
  have g1 : w.grownBy w1 (some b) := ⟨k1.os, k1.tape, k1.output, k1.size, fun k hk hn => k1.block k hk (by simpa using hn)⟩
  have hown1 : w1.ownsRow 0 5 1 v l.length (Lib.byteCells l) := hown.kept g1 (Or.inr hne)
  have c0 : w1.cell? ⟨b, 0, none⟩ = some (.pointer (some ⟨b, 0, none⟩)) := by rw [Lib.cell_of_heap hbk]; rfl
  have c1 : w1.cell? ⟨b, 1, none⟩ = some v := by rw [Lib.cell_of_heap hbk]; rfl
  go_wp2_with (at_builtin; refine wp_ap _ rfl _ _ 43 9 rfl 5 i0 Tryd.underlying43 Tryd.underlying9 hi hz0 hz1 hz2 _ _ _ rfl hown1 ⟨s.toArray⟩ rfl ?c3 ?c4 ?_)
  case c3 => unfold maxLen; simp [ByteArray.size]; omega
  case c4 => simp [ByteArray.size]; omega
  intro v' w2 hown' hgrow hwh
  have hlt1 : b < w1.heap.size := by have := k1.size; omega
  have hb2 : w2.heap[b]? = some (.cells #[.pointer (some ⟨b, 0, none⟩), v] 45 (0, 0)) := by
    rw [hgrow.block b hlt1 (fun e => hne e.symm)]
    exact hbk
  have d0 : w2.cell? ⟨b, 0, none⟩ = some (.pointer (some ⟨b, 0, none⟩)) := by rw [Lib.cell_of_heap hb2]; rfl
  have d1 : w2.cell? ⟨b, 1, none⟩ = some v := by rw [Lib.cell_of_heap hb2]; rfl
  have f1 : w2.frozen? ⟨b, 1, none⟩ = false := Lib.frozen_of_heap hb2 1
  obtain ⟨ao, n', cap, rfl⟩ : ∃ ao n' cap, v' = .slice ao n' cap := by
    rcases hown'.2 with ⟨hv, _⟩ | ⟨g, cap, cur, hv, _⟩
    · exact ⟨_, _, _, hv⟩
    · exact ⟨_, _, _, hv⟩
  go_wp2
  go_ret2
  have e1 : (⟨s.toArray⟩ : ByteArray).size = s.length := by simp [ByteArray.size]
  have hTe : (45 : Nat) ≠ 5 := by decide
  have e2 : Lib.byteCells l ++ Lib.strCells ⟨s.toArray⟩ = Lib.byteCells (l ++ s) := by rw [Lib.strCells_eq, ← Lib.byteCells_append]
  rw [e2] at hown'
  obtain ⟨-, v3, hb3, ho3, hn3⟩ := Lib.BuilderAt.put (T := 45) (e := 5) (Nat.zero_le b) hb2 (bs' := Lib.byteCells (l ++ s)) (by rw [Lib.byteCells_length, List.length_append]; exact hown') hTe
  rw [Lib.byteCells_length] at ho3
  have hv3 : v3 = .slice ao n' cap := by
    have h1 : (w2.setCell ⟨b, 1, none⟩ (.slice ao n' cap)).heap[b]? = some (.cells #[.pointer (some ⟨b, 0, none⟩), .slice ao n' cap] 45 (0, 0)) := by
      simp [World.setCell, Array.getElem?_modify, hb2]
    rw [hb3] at h1
    simpa using h1
  have K2 : Keeps (b :: v.ownBlock.toList) w w2 := ⟨hgrow.os.trans k1.os, hgrow.tape.trans k1.tape, hgrow.output.trans k1.output, Nat.le_trans k1.size hgrow.size, fun k hk hn =>
    (hgrow.block k (by have := k1.size; omega) (fun e => hn (by rw [← e]; simp))).trans (k1.block k hk (fun h => hn (by simp at h; simp [h])))⟩
  have K3 : Keeps [b] w2 (w2.setCell ⟨b, 1, none⟩ (.slice ao n' cap)) := ⟨rfl, rfl, rfl, by simp [World.setCell], fun k _ hk => Below.heap_setCell _ _ _ _ (fun e => hk (by simp [e]))⟩
  subst hv3
  refine ⟨by rfl, _, ⟨_, _, .inr rfl, hb3, ho3, hn3, rfl⟩, K2.trans K3 (by simp), fun y hy => ?_⟩
  rcases List.mem_cons.1 hy with rfl | hy
  · exact .inl (List.mem_cons_self ..)
  · rcases hwh y (by simpa using hy) with h | h
    · exact .inl (List.mem_cons_of_mem _ (by rw [h]; simp))
    · exact .inr (Nat.le_trans k1.size h)
set_option maxHeartbeats 2000000 in
theorem bd_string (b : Nat) (l : List UInt8) (w : World) (S : List Nat) (h : Bu b l w S) (h0 : l ≠ []) :
    Calls Tryd.prog 20 #[.pointer (some ⟨b, 0, none⟩)] w fun e w' => e = .returned (strV l) ∧ Keeps S w w' := by
  obtain ⟨p, v, hp, hb, hown, hne, rfl⟩ := h
  have hl0 : l.length ≠ 0 := by simpa using h0
  obtain ⟨g, cap, cur, rfl, hbg, hg, hnc, hcm, hcs, htake⟩ : ∃ g cap cur, v = .slice (some ⟨g, 0, none⟩) l.length cap ∧ 0 ≤ g ∧ w.heap[g]? = some (.cells cur 5 (0, 0)) ∧ l.length ≤ cap ∧ cap ≤ maxLen ∧ cur.size = cap * 1 ∧ cur.toList.take (l.length * 1) = Lib.byteCells l := by
    rcases hown.2 with ⟨_, hz⟩ | ⟨g, cap, cur, hv, r⟩
    · exact absurd hz hl0
    · exact ⟨g, cap, cur, hv, r⟩
  have c1 : w.drew.cell? ⟨b, 1, none⟩ = some (.slice (some ⟨g, 0, none⟩) l.length cap) := by
    have : w.drew.heap[b]? = some (.cells #[p, .slice (some ⟨g, 0, none⟩) l.length cap] 45 (0, 0)) := hb
    rw [Lib.cell_of_heap this]; rfl
  have hSD : (Builtin.unsafeSliceData_ #[43] 64 #[.slice (some ⟨g, 0, none⟩) l.length cap]).run Tryd.prog w.drew = .ok (.pointer (some ⟨g, 0, none⟩)) w.drew :=
    Lib.run_unsafeSliceData_row _ _ _ _ _ _ (by omega)
  have hUS : (Builtin.unsafeString_ #[64, 3] 9 #[.pointer (some ⟨g, 0, none⟩), .int .i64 l.length]).run Tryd.prog w.drew = .ok (.string ⟨l.toArray⟩) (w.drew.freeze ⟨g, 0, none⟩ l.length) := by
    refine Lib.run_unsafeString_row w.drew 64 3 9 5 Tryd.underlying64 (by kernel_rfl) g cur.size (by have hg' : w.drew.heap[g]? = some (.cells cur 5 (0, 0)) := hg; simp [World.shape?, hg']) l h0 (by omega) (by unfold maxLen at hcm; omega) ?_
    intro j x hx
    exact hown.cells (g := g) rfl j (.int .u8 x.toNat) (by simp [Lib.byteCells, hx])
  have KF : Keeps (b :: (Value.slice (some ⟨g, 0, none⟩) l.length cap).ownBlock.toList) w (w.drew.freeze ⟨g, 0, none⟩ l.length) := by
    unfold World.freeze
    split
    · exact (Keeps.refl _ w).drew
    · refine ⟨rfl, rfl, rfl, by simp, fun k hk hn => ?_⟩
      simp only [Array.getElem?_modify]
      rw [if_neg (fun e => hn (by simp [Value.ownBlock, e]))]
      rfl
  have mixed : Tryd.prog.follows .mixedOrders = true := by kernel_rfl
  clear hown hg htake hp hne hbg hnc hcm hcs h0 hl0
  go_enter Tryd.func20, Tryd.ntmps20
  go_wp2
  go_region_o
  all_goals (go_wp2; go_ret; exact ⟨rfl, KF⟩)
/-! ### in Fl's words -/
theorem Bu.ok {b : Nat} {l : List UInt8} : Thing (Bu b l) where
  lt := fun {w S} h => by
    obtain ⟨p, v, hp, hb, hown, hne, rfl⟩ := h
    intro x hx
    have hl : ∀ (k : Nat) (o : Obj), w.heap[k]? = some o → k < w.heap.size := fun k o h => (Array.getElem?_eq_some_iff.1 h).1
    rcases List.mem_cons.1 hx with rfl | hx
    · exact hl _ _ hb
    · rcases hown.2 with ⟨rfl, _⟩ | ⟨g, cap, cur, rfl, _, hg, _⟩
      · simp [Value.ownBlock] at hx
      · simp [Value.ownBlock] at hx
        subst hx
        exact hl _ _ hg
  keep := fun {w w' S T} h k hn => by
    obtain ⟨p, v, hp, hb, hown, hne, rfl⟩ := h
    have hl : ∀ (k : Nat) (o : Obj), w.heap[k]? = some o → k < w.heap.size := fun k o h => (Array.getElem?_eq_some_iff.1 h).1
    refine ⟨p, v, hp, by rw [k.block b (hl _ _ hb) (hn b (List.mem_cons_self ..))]; exact hb, ⟨hown.1, ?_⟩, hne, rfl⟩
    rcases hown.2 with h | ⟨g, cap, cur, rfl, h1, hg, h2⟩
    · exact .inl h
    · exact .inr ⟨g, cap, cur, rfl, h1, by rw [k.block g (hl _ _ hg) (hn g (by simp [Value.ownBlock]))]; exact hg, h2⟩
theorem J.toBu {P : Program} {c : Cx} {k : List Item} {f : Fm} {L : List Res} {b : Nat} (h : J P c k f (thing (Bu b []) [b] :: L)) : J P c k f (.box b 45 [.v (.pointer none), .v (.slice none 0 0)] :: L) := ⟨fun a w s => h.go a w ⟨s.kp, s.size, s.dfr, fun r hr => by
    rcases List.mem_cons.1 hr with rfl | hr
    · obtain ⟨vs, h1, h2⟩ := s.res _ (List.mem_cons_self ..)
      obtain ⟨y1, rfl, r1⟩ := RC.c1 (as_ := [.v (.slice none 0 0)]) h2
      obtain ⟨y2, rfl, r2⟩ := r1.c1
      have e3 := r2.n0
      subst e3
      exact (thing.holds Bu.ok).2 ⟨_, _, .inl rfl, h1, World.ownsRow_nil w 0 _ 1, by simp [Value.ownBlock], by simp [Value.ownBlock]⟩
    · exact s.res r (List.mem_cons_of_mem _ hr), s.frm, List.pairwise_cons.2 ⟨(List.pairwise_cons.1 s.ap).1, (List.pairwise_cons.1 s.ap).2⟩, s.fr⟩⟩
set_option maxHeartbeats 2000000 in
theorem c_bWrite (b : Nat) (l s : List UInt8) (S : List Nat) (hlen : l.length + s.length ≤ 140737488355328) :
    Con Tryd.prog 19 [.c (.v (.pointer (some ⟨b, 0, none⟩))), .c (sA s)] [thing (Bu b l) S] (fun S' : List Nat => (.tup [.c (nI s.length), .c (.v .nilIface)], [thing (Bu b (l ++ s)) S'])) := ⟨fun ok e xs hd hr _ _ => by
  obtain ⟨v, ys, rfl, r, h⟩ := hd.c
  obtain ⟨v2, ys2, rfl, r2, h2⟩ := h.c
  rw [h2.nil_]
  unfold RA at r r2
  rw [r.1, r2.1]
  have h1 := (thing.holds Bu.ok).1 (hr _ (List.mem_singleton.2 rfl))
  refine Calls.mono (bd_write b l s e S h1 hlen) ?_
  rintro en w' ⟨rfl, S', hb, kp, hs⟩
  refine ⟨S', _, rfl, by rw [foots_thing]; exact kp, by rw [foots_thing, foots_thing]; exact hs, List.pairwise_singleton _ _, fun r hr => ?_, ?_⟩
  · rw [List.mem_singleton.1 hr]; exact (thing.holds Bu.ok).2 hb
  · unfold RD
    exact ⟨[_, _], rfl, RDs.cons (RD.v rfl) (RDs.cons (RD.v rfl) RDs.nil)⟩⟩
set_option maxHeartbeats 2000000 in
theorem c_bString (b : Nat) (l : List UInt8) (S : List Nat) (h0 : l ≠ []) :
    Con Tryd.prog 20 [.c (.v (.pointer (some ⟨b, 0, none⟩)))] [thing (Bu b l) S] (fun _ : Unit => (.c (sA l), [])) := ⟨fun ok e xs hd hr _ _ => by
  obtain ⟨v, ys, rfl, r, h⟩ := hd.c
  rw [h.nil_]
  unfold RA at r
  rw [r.1]
  have h1 := (thing.holds Bu.ok).1 (hr _ (List.mem_singleton.2 rfl))
  refine Calls.mono (bd_string b l e S h1 h0) ?_
  rintro en w' ⟨rfl, kp⟩
  exact ⟨(), _, rfl, by rw [foots_thing]; exact kp, by simp [foots], List.Pairwise.nil, by simp, RD.v rfl⟩⟩
end Fl
end Go.Proofs.YtgjpdogjekmemaaDoor
