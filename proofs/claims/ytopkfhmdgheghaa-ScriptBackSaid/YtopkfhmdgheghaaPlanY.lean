/-
  plan.encodeOp: its contract.
  Conditions: none.
-/
import Derived.Test.YtopkfhmdgheghaaPlanX
import Derived.Test.YtopkfhmdgheghaaKinds
import Derived.Test.YtopkfhmdgheghaaPlanD
import Derived.Deep.DrawnRows
namespace Go.Proofs.Ytopkfhmdgheghaa
open Go.RowKit
set_option linter.unusedVariables false
set_option linter.unusedSimpArgs false
set_option linter.unnecessarySimpa false
attribute [local go_sem ↓] Go.wp_at_zero Go.wp_at_succ

theorem wrap_u8 {x : Int} (h0 : 0 ≤ x) (h1 : x ≤ 255) : IntKind.u8.wrap x = x := by
  simp [IntKind.wrap, IntKind.signed, IntKind.bits]; omega
theorem elemByte : Elem Try.prog 35 5 1 1 (.int .u8 0) := ⟨Try.underlying35, by kernel_rfl, rfl, by decide, by decide⟩
/-- while an op is written: what is written so far, l in v; the op in bx -/
def ES (w wr : World) (T : List Nat) (bx : Nat) (cs : List Value) (v : Value) (l : List Int) (Ti : List Nat) : Prop :=
  KR .u8 wr v 5 l Ti ∧ Keeps T w wr ∧ (∀ x ∈ Ti, x ∈ T ∨ w.heap.size ≤ x) ∧ Blk wr bx cs 33 ∧ bx ∉ Ti ∧ bx ∉ T ∧ w.heap.size ≤ bx
section
variable {w wr w' : World} {T : List Nat} {bx : Nat} {cs : List Value} {v : Value} {l : List Int} {Ti : List Nat}
theorem ES.next {v' : Value} {l' : List Int} {Ti' : List Nat} (h : ES w wr T bx cs v l Ti) (r : KR .u8 w' v' 5 l' Ti') (k : Keeps Ti wr w') (s : ∀ x ∈ Ti', x ∈ Ti ∨ wr.heap.size ≤ x) : ES w w' T bx cs v' l' Ti' := by
  obtain ⟨h1, h2, h3, h4, h5, h6, h7⟩ := h
  have hz := h2.size
  have hb := h4.lt
  refine ⟨r, h2.trans k h3, fun x hx => ?_, h4.keep k h5, fun hx => ?_, h6, h7⟩
  · rcases s x hx with h | h
    · exact h3 x h
    · right; omega
  · rcases s bx hx with h | h
    · exact h5 h
    · omega
theorem ES.then (h : ES w wr T bx cs v l Ti) (k : Keeps [] wr w') : ES w w' T bx cs v l Ti := by
  obtain ⟨h1, h2, h3, h4, h5, h6, h7⟩ := h
  exact ⟨h1.then k, h2.then k, h3, h4.keep k (by simp), h5, h6, h7⟩
theorem ES.six {a b c d e f : Value} (h : ES w wr T bx [a, b, c, d, e, f] v l Ti) : wr.cell? ⟨bx, 0, none⟩ = some a ∧ wr.cell? ⟨bx, 1, none⟩ = some b ∧ wr.cell? ⟨bx, 2, none⟩ = some c ∧ wr.cell? ⟨bx, 3, none⟩ = some d ∧ wr.cell? ⟨bx, 4, none⟩ = some e ∧ wr.cell? ⟨bx, 5, none⟩ = some f :=
  ⟨h.2.2.2.1.cell 0, h.2.2.2.1.cell 1, h.2.2.2.1.cell 2, h.2.2.2.1.cell 3, h.2.2.2.1.cell 4, h.2.2.2.1.cell 5⟩
end
/-- bytes, behind those that were there -/
def EncPost (l : List Int) (T : List Nat) (w : World) (e : Ending) (w' : World) : Prop := ∃ v T', e = .returned v ∧ KR .u8 w' v 5 l T' ∧ Keeps T w w' ∧ ∀ x ∈ T', x ∈ T ∨ w.heap.size ≤ x
theorem ES.ret {w wr : World} {T : List Nat} {bx : Nat} {cs : List Value} {v : Value} {l l2 : List Int} {Ti : List Nat} {e : Ending} (h : ES w wr T bx cs v l Ti) (hl : l = l2) (he : e = .returned v) : EncPost l2 T w e wr := by
  subst hl; exact ⟨v, Ti, he, h.1, h.2.1, h.2.2.1⟩
/-- the cases, one behind the other -/
def ELoop (w : World) (T : List Nat) (bx : Nat) (cs : List Value) (L0 : List Int) (C : List Pn.Cs) (k : Nat) (v : Value) (wr : World) : Prop :=
  ∃ Ti, ES w wr T bx cs v (L0 ++ (C.take k).flatMap Pn.encCs) Ti

theorem take_enc {C : List Pn.Cs} {k : Nat} {c : Pn.Cs} (h : C[k]? = some c) : (C.take (k + 1)).flatMap Pn.encCs = (C.take k).flatMap Pn.encCs ++ Pn.encCs c := by
  obtain ⟨hk, rfl⟩ := List.getElem?_eq_some_iff.1 h
  rw [List.take_succ_eq_append_getElem hk, List.flatMap_append]; simp
theorem encCs_len (c : Pn.Cs) : (Pn.encCs c).length ≤ 3 := by unfold Pn.encCs; split <;> simp
theorem take_len (C : List Pn.Cs) : ∀ k, ((C.take k).flatMap Pn.encCs).length ≤ 3 * k := by
  induction C with
  | nil => intro k; simp
  | cons c C ih =>
    intro k
    cases k with
    | zero => simp
    | succ k =>
      rw [List.take_succ_cons, List.flatMap_cons, List.length_append]
      have := ih k
      have := encCs_len c
      omega

set_option maxRecDepth 100000 in
set_option maxHeartbeats 3200000 in
theorem plan_encodeOp (w : World) (o : Pn.Op) (v va : Value) (l : List Int) (T SA : List Nat) (h : KR .u8 w v 5 l T) (ha : GV caseE 3 w va o.cases SA) (hd : ∀ x ∈ SA, x ∉ T) (hr : Pn.rightOp o = true) (hl : l.length ≤ 100000) :
    Calls Try.prog 79 #[v, .agg #[.int .i64 o.kind, .int .i64 o.ch, .int .i64 o.n, .int .i64 o.v, va, .bool o.els]] w (EncPost (l ++ Pn.encOp o) T w) := by
  obtain ⟨ao, cap, rfl⟩ := h.shape
  obtain ⟨ac, cc, rfl⟩ := ha.shape
  have HA := Lib.hid ha
  have HD := Lib.hid hd
  have HTL := Lib.hid h.lt
  unfold Pn.rightOp at hr
  rw [decide_eq_true_iff] at hr
  obtain ⟨a1, a2, a3, a4, a5, a6, a7, a8, a9, d1, d2, d3, d4, d5⟩ := hr
  have HE0 := Lib.hid h
  clear h ha hd
  obtain ⟨k, ch, n, vv, cs, els⟩ := o
  simp only at *
  have E0 : Hid (ES w (w.alloc (.cells #[.int .i64 k, .int .i64 ch, .int .i64 n, .int .i64 vv, .slice ac cs.length cc, .bool els] 33)) T w.heap.size [.int .i64 k, .int .i64 ch, .int .i64 n, .int .i64 vv, .slice ac cs.length cc, .bool els] (.slice ao l.length cap) l T) := Lib.hid
    ⟨HE0.out.then ((Keeps.refl [] w).alloc _), (Keeps.refl T w).alloc _, fun x hx => .inl hx, Blk.fresh w [.int .i64 k, .int .i64 ch, .int .i64 n, .int .i64 vv, .slice ac cs.length cc, .bool els] _ _ rfl, fun hx => by have := HTL.out _ hx; omega, fun hx => by have := HTL.out _ hx; omega, Nat.le_refl _⟩
  clear HE0
  by_cases c1 : k = 1
  · subst c1
    obtain ⟨rfl, rfl⟩ := d4 (by omega)
    have := d1 rfl; subst this
    have := d2 rfl; subst this
    clear d1 d2 d3 d4 d5
    have HQ : Hid (Pn.encOp ⟨1, 0, n, 0, [], false⟩ = [0, n]) := Lib.hid (by simp [Pn.encOp, Pn.hasCh, Pn.hasV])
    go_enter Try.func79, Try.ntmps79
    go_wp2_with (at_builtin; go_must (refine wp_appk1 elemByte E0.out.1 (by omega) ?_))
    intro ao1 cap1 w1 T1 r1 k1 s1
    obtain ⟨l1, hl1⟩ : ∃ z, l ++ [0] = z := ⟨_, rfl⟩
    have hb1 : l1.length ≤ l.length + 1 := by rw [← hl1]; simp
    rw [hl1] at r1
    have HL1 := Lib.hid hl1
    generalize Value.slice ao1 (l.length + 1) cap1 = v1 at *
    have E1 := Lib.hid (E0.out.next r1 k1 (fun x hx => by have := s1 x hx; simpa [World.setCell] using this))
    clear r1 k1 s1 hl1
    obtain ⟨b0, b1, b2, b3, b4, b5⟩ := E1.out.six
    go_wp2_with fail
    refine (plan_hasCh _ _).mono ?_
    rintro e w9 ⟨rfl, rfl⟩
    rw [show Pn.hasCh 1 = false from rfl]
    go_wp2_with (at_builtin; go_must (refine wp_appk1 elemByte E1.out.1 (by omega) ?_))
    intro ao2 cap2 w2 T2 r2 k2 s2
    obtain ⟨l2, hl2⟩ : ∃ z, l1 ++ [n] = z := ⟨_, rfl⟩
    have hb2 : l2.length ≤ l1.length + 1 := by rw [← hl2]; simp
    rw [hl2] at r2
    have HL2 := Lib.hid hl2
    generalize Value.slice ao2 (l1.length + 1) cap2 = v2 at *
    have E2 := Lib.hid (E1.out.next r2 k2 (fun x hx => by have := s2 x hx; simpa [World.setCell] using this))
    clear r2 k2 s2 hl2 b0 b1 b2 b3 b4 b5
    obtain ⟨b0, b1, b2, b3, b4, b5⟩ := E2.out.six
    go_wp2_with fail
    refine (plan_hasV _ _).mono ?_
    rintro e w9 ⟨rfl, rfl⟩
    rw [show Pn.hasV 1 = false from rfl]
    go_wp2_with fail
    go_ret
    exact E2.out.ret (by rw [← HL2.out, ← HL1.out]; rw [HQ.out]; simp) rfl
  by_cases c2 : k = 2 ∨ k = 4
  · obtain ⟨rfl, rfl⟩ := d4 (by omega)
    have := d3 (by omega); subst this
    have HC : Hid (Pn.hasCh k = true) := Lib.hid (by simp [Pn.hasCh]; omega)
    have HV : Hid (Pn.hasV k = true) := Lib.hid (by simp [Pn.hasV]; omega)
    have h9 : (k == 9) = false := by simp; omega
    have h9' : (k != 9) = true := by simp; omega
    have h1' : (k == 1) = false := by simp; omega
    have HQ : Hid (Pn.encOp ⟨k, ch, 0, vv, [], false⟩ = [k - 1, ch, vv]) := Lib.hid (by simp [Pn.encOp, HC.out, HV.out, h9, h1'])
    clear d1 d2 d3 d4 d5 c2
    go_enter Try.func79, Try.ntmps79
    go_wp2_with (at_builtin; go_must (refine wp_appk1 elemByte E0.out.1 (by omega) ?_))
    intro ao1 cap1 w1 T1 r1 k1 s1
    obtain ⟨l1, hl1⟩ : ∃ z, l ++ [k - 1] = z := ⟨_, rfl⟩
    have hb1 : l1.length ≤ l.length + 1 := by rw [← hl1]; simp
    rw [hl1] at r1
    have HL1 := Lib.hid hl1
    generalize Value.slice ao1 (l.length + 1) cap1 = v1 at *
    have E1 := Lib.hid (E0.out.next r1 k1 (fun x hx => by have := s1 x hx; simpa [World.setCell] using this))
    clear r1 k1 s1 hl1
    obtain ⟨b0, b1, b2, b3, b4, b5⟩ := E1.out.six
    go_wp2_with fail
    refine (plan_hasCh _ _).mono ?_
    rintro e w9 ⟨rfl, rfl⟩
    rw [HC.out]
    go_wp2_with (at_builtin; go_must (refine wp_appk1 elemByte E1.out.1 (by omega) ?_))
    intro ao2 cap2 w2 T2 r2 k2 s2
    obtain ⟨l2, hl2⟩ : ∃ z, l1 ++ [ch] = z := ⟨_, rfl⟩
    have hb2 : l2.length ≤ l1.length + 1 := by rw [← hl2]; simp
    rw [hl2] at r2
    have HL2 := Lib.hid hl2
    generalize Value.slice ao2 (l1.length + 1) cap2 = v2 at *
    have E2 := Lib.hid (E1.out.next r2 k2 (fun x hx => by have := s2 x hx; simpa [World.setCell] using this))
    clear r2 k2 s2 hl2 b0 b1 b2 b3 b4 b5
    obtain ⟨b0, b1, b2, b3, b4, b5⟩ := E2.out.six
    go_wp2_with fail
    refine (plan_hasV _ _).mono ?_
    rintro e w9 ⟨rfl, rfl⟩
    rw [HV.out]
    go_wp2_with (at_builtin; go_must (refine wp_appk1 elemByte E2.out.1 (by omega) ?_))
    intro ao3 cap3 w3 T3 r3 k3 s3
    obtain ⟨l3, hl3⟩ : ∃ z, l2 ++ [vv] = z := ⟨_, rfl⟩
    have hb3 : l3.length ≤ l2.length + 1 := by rw [← hl3]; simp
    rw [hl3] at r3
    have HL3 := Lib.hid hl3
    generalize Value.slice ao3 (l2.length + 1) cap3 = v3 at *
    have E3 := Lib.hid (E2.out.next r3 k3 (fun x hx => by have := s3 x hx; simpa [World.setCell] using this))
    clear r3 k3 s3 hl3 b0 b1 b2 b3 b4 b5
    obtain ⟨b0, b1, b2, b3, b4, b5⟩ := E3.out.six
    go_wp2_with fail
    go_ret
    exact E3.out.ret (by rw [← HL3.out, ← HL2.out, ← HL1.out]; rw [HQ.out]; simp) rfl
  by_cases c3 : k = 9
  · subst c3
    clear c1 c2
    have := d1 rfl; subst this
    have := d2 rfl; subst this
    have := d3 (by omega); subst this
    have HQ : Hid (Pn.encOp ⟨9, 0, 0, 0, cs, els⟩ = [8, (cs.length : Int), Pn.flag els] ++ cs.flatMap Pn.encCs) := Lib.hid (by simp [Pn.encOp, Pn.hasCh, Pn.hasV])
    have HRC := Lib.hid d5
    clear d1 d2 d3 d4 d5
    go_enter Try.func79, Try.ntmps79
    go_wp2_with (at_builtin; go_must (refine wp_appk1 elemByte E0.out.1 (by omega) ?_))
    intro ao1 cap1 w1 T1 r1 k1 s1
    obtain ⟨l1, hl1⟩ : ∃ z, l ++ [8] = z := ⟨_, rfl⟩
    have hb1 : l1.length ≤ l.length + 1 := by rw [← hl1]; simp
    rw [hl1] at r1
    have HL1 := Lib.hid hl1
    generalize Value.slice ao1 (l.length + 1) cap1 = v1 at *
    have E1 := Lib.hid (E0.out.next r1 k1 (fun x hx => by have := s1 x hx; simpa [World.setCell] using this))
    clear r1 k1 s1 hl1
    obtain ⟨b0, b1, b2, b3, b4, b5⟩ := E1.out.six
    go_wp2_with fail
    refine (plan_hasCh _ _).mono ?_
    rintro e w9 ⟨rfl, rfl⟩
    rw [show Pn.hasCh 9 = false from rfl]
    go_wp2_with fail
    refine (plan_hasV _ _).mono ?_
    rintro e w9 ⟨rfl, rfl⟩
    rw [show Pn.hasV 9 = false from rfl]
    have hbT2 : w.heap.size ∉ T1 := E1.out.2.2.2.2.1
    have hwr : IntKind.u8.wrap (cs.length : Int) = (cs.length : Int) := wrap_u8 (by omega) (by omega)
    go_wp2_with fail
    go_region_held3 (fun w' => w'.cell? ⟨w.heap.size, 4, none⟩ = some (.slice ac cs.length cc) ∧ w'.cell? ⟨w.heap.size, 5, none⟩ = some (.bool els))
      (first
        | (with_reducible exact ⟨b4, b5⟩)
        | (with_reducible exact ⟨K2.out.cell b4 hbT2, K2.out.cell b5 hbT2⟩)
        | go_keep)
      (first
        | (go_at_call 100; (with_reducible refine (plan_flag _ _).mono ?_); rintro e w9 ⟨rfl, rfl⟩)
        | (refine step_appk2 elemByte (KR.then E1.out.1 (Keeps.refl [] _).drew) (by omega) ?_; intro ao2 cap2 w2 T2 r2 k2 s2; have K2 : Hid (Keeps T1 w1 w2) := Lib.hid (((Keeps.refl _ _).drew).trans k2 (fun x hx => .inl hx)); have R2 := Lib.hid r2; have S2 := Lib.hid s2; clear r2 k2 s2)
        | fail)
    obtain ⟨l2, hl2⟩ : ∃ z, l1 ++ [(cs.length : Int), Pn.flag els] = z := ⟨_, rfl⟩
    have hb2 : l2.length ≤ l1.length + 2 := by rw [← hl2]; simp
    have R2b := R2.out
    rw [hl2] at R2b
    have HL2 := Lib.hid hl2
    have E2 := Lib.hid (E1.out.next R2b K2.out (fun x hx => by have := S2.out x hx; simpa using this))
    clear R2b R2 S2 hl2
    try clear hwr
    try clear hwx
    generalize Value.slice ao2 (l1.length + 2) cap2 = v2 at *
    clear b0 b1 b2 b3 b4 b5
    obtain ⟨b0, b1, b2, b3, b4, b5⟩ := E2.out.six
    have D0 : Hid (ELoop w T w.heap.size [.int .i64 9, .int .i64 0, .int .i64 0, .int .i64 0, .slice ac cs.length cc, .bool els] l2 cs 0 v2 w2) := Lib.hid ⟨T2, by simpa using E2.out⟩
    go_wp2_with fail
    clear b0 b1 b2 b3 b4 b5
    go_loopw [60, 0] (fun u v wr => ∃ k : Nat, k ≤ cs.length ∧ u = .int .i64 k ∧ ELoop w T w.heap.size [.int .i64 9, .int .i64 0, .int .i64 0, .int .i64 0, .slice ac cs.length cc, .bool els] l2 cs k v wr) (fun u _ _ => cs.length - (intOf u).toNat)
    case atStart => exact ⟨0, Nat.zero_le _, rfl, D0.out⟩
    case round =>
      obtain ⟨k, hk, rfl, Ti, hes⟩ := hrel
      obtain ⟨wo, rfl⟩ : ∃ wo : World, wo = wr := ⟨_, rfl⟩
      have htl := take_len cs k
      obtain ⟨lk, hlk⟩ : ∃ z, l2 ++ (cs.take k).flatMap Pn.encCs = z := ⟨_, rfl⟩
      have hblk : lk.length ≤ 200000 := by rw [← hlk, List.length_append]; omega
      rw [hlk] at hes
      obtain ⟨ak, ck, rfl⟩ := hes.1.shape
      have HLK := Lib.hid hlk
      have HES := Lib.hid hes
      clear hes hlk D0 htl
      by_cases hlt : k < cs.length
      · obtain ⟨x, hx⟩ : ∃ x, cs[k]? = some x := ⟨_, List.getElem?_eq_getElem hlt⟩
        obtain ⟨g1, off1, rfl, _, hg1, z0, z1, z2⟩ := (HA.out.keep caseE_kept HES.out.2.1 HD.out).case hx
        have hrc := HRC.out x (List.mem_of_getElem? hx)
        unfold Pn.rightCs at hrc
        rw [decide_eq_true_iff] at hrc
        obtain ⟨p1, p2, p3, p4, _⟩ := hrc
        have HX := Lib.hid hx
        clear hx
        obtain ⟨xs, xc, xv⟩ := x
        simp only at z0 z1 z2 p1 p2 p3 p4
        have ER : Hid (ES w (wo.alloc (.cells #[.bool xs, .int .i64 xc, .int .i64 xv] 131)) T w.heap.size [.int .i64 9, .int .i64 0, .int .i64 0, .int .i64 0, .slice (some ⟨g1, off1, none⟩) cs.length cc, .bool els] (.slice ak lk.length ck) lk Ti) := Lib.hid (HES.out.then ((Keeps.refl [] wo).alloc _))
        have BC := Blk.fresh wo [.bool xs, .int .i64 xc, .int .i64 xv] 131 _ rfl
        obtain ⟨⟨c0, c1, c2⟩, _⟩ := BC.three
        have hwx : IntKind.u8.wrap xc = xc := wrap_u8 (by omega) (by omega)
        have HBC := Lib.hid BC
        have hbT5 : wo.heap.size ∉ Ti := fun hm => by have := HES.out.1.lt _ hm; omega
        clear BC
        go_wp2_with fail
        go_region_held3 (fun w' => w'.cell? ⟨wo.heap.size, 0, none⟩ = some (.bool xs) ∧ w'.cell? ⟨wo.heap.size, 1, none⟩ = some (.int .i64 xc))
          (first
            | (with_reducible exact ⟨c0, c1⟩)
            | (with_reducible exact ⟨K5.out.cell c0 hbT5, K5.out.cell c1 hbT5⟩)
            | go_keep)
          (first
            | (go_at_call 100; (with_reducible refine (plan_flag _ _).mono ?_); rintro e w9 ⟨rfl, rfl⟩)
            | (refine step_appk2 elemByte (KR.then ER.out.1 (Keeps.refl [] _).drew) (by omega) ?_; intro ao5 cap5 w5 T5 r5 k5 s5; have K5 : Hid (Keeps Ti (wo.alloc (.cells #[.bool xs, .int .i64 xc, .int .i64 xv] 131)) w5) := Lib.hid (((Keeps.refl _ _).drew).trans k5 (fun x hx => .inl hx)); have R5 := Lib.hid r5; have S5 := Lib.hid s5; clear r5 k5 s5)
            | fail)
        obtain ⟨l5, hl5⟩ : ∃ z, lk ++ [Pn.flag xs, xc] = z := ⟨_, rfl⟩
        have hb5 : l5.length ≤ lk.length + 2 := by rw [← hl5]; simp
        have R5b := R5.out
        rw [hl5] at R5b
        have HL5 := Lib.hid hl5
        have E5 := Lib.hid (ER.out.next R5b K5.out (fun x hx => by have := S5.out x hx; simpa using this))
        clear R5b R5 S5 hl5
        try clear hwr
        try clear hwx
        generalize Value.slice ao5 (lk.length + 2) cap5 = v5 at *
        have HBC5 := Lib.hid (HBC.out.keep K5.out hbT5)
        clear c0 c1 c2
        obtain ⟨⟨c0, c1, c2⟩, _⟩ := HBC5.out.three
        cases xs with
        | true =>
          go_wp2_with (at_builtin; go_must (refine wp_appk1 elemByte E5.out.1 (by omega) ?_))
          intro ao6 cap6 w6 T6 r6 k6 s6
          obtain ⟨l6, hl6⟩ : ∃ z, l5 ++ [xv] = z := ⟨_, rfl⟩
          have hb6 : l6.length ≤ l5.length + 1 := by rw [← hl6]; simp
          rw [hl6] at r6
          have HL6 := Lib.hid hl6
          generalize Value.slice ao6 (l5.length + 1) cap6 = v6 at *
          have E6 := Lib.hid (E5.out.next r6 k6 (fun x hx => by have := s6 x hx; simpa [World.setCell] using this))
          clear r6 k6 s6 hl6
          have HN : Hid (ELoop w T w.heap.size [.int .i64 9, .int .i64 0, .int .i64 0, .int .i64 0, .slice (some ⟨g1, off1, none⟩) cs.length cc, .bool els] l2 cs (k + 1) v6 w6) := Lib.hid ⟨T6, (show ES w w6 T w.heap.size [.int .i64 9, .int .i64 0, .int .i64 0, .int .i64 0, .slice (some ⟨g1, off1, none⟩) cs.length cc, .bool els] v6 (l2 ++ (cs.take (k + 1)).flatMap Pn.encCs) T6 from by
            have e : l6 = l2 ++ (cs.take (k + 1)).flatMap Pn.encCs := by rw [← HL6.out, ← HL5.out, ← HLK.out, take_enc HX.out]; simp only [List.append_assoc]; rfl
            rw [← e]; exact E6.out)⟩
          go_wp2_with fail
          go_roundw
          case rel => exact ⟨k + 1, by omega, by go_num, HN.out⟩
          case measure => simp [intOf]; omega
        | false =>
          have HN : Hid (ELoop w T w.heap.size [.int .i64 9, .int .i64 0, .int .i64 0, .int .i64 0, .slice (some ⟨g1, off1, none⟩) cs.length cc, .bool els] l2 cs (k + 1) v5 w5) := Lib.hid ⟨T5, (show ES w w5 T w.heap.size [.int .i64 9, .int .i64 0, .int .i64 0, .int .i64 0, .slice (some ⟨g1, off1, none⟩) cs.length cc, .bool els] v5 (l2 ++ (cs.take (k + 1)).flatMap Pn.encCs) T5 from by
            have e : l5 = l2 ++ (cs.take (k + 1)).flatMap Pn.encCs := by rw [← HL5.out, ← HLK.out, take_enc HX.out]; simp only [List.append_assoc]; rfl
            rw [← e]; exact E5.out)⟩
          go_wp2_with fail
          go_roundw
          case rel => exact ⟨k + 1, by omega, by go_num, HN.out⟩
          case measure => simp [intOf]; omega
      · obtain rfl : k = cs.length := by omega
        go_wp2_with fail
        go_ret
        exact HES.out.ret (by rw [← HLK.out, ← HL2.out, ← HL1.out, HQ.out, List.take_length]; simp) rfl
  · obtain ⟨rfl, rfl⟩ := d4 (by omega)
    have := d3 (by omega); subst this
    have HC : Hid (Pn.hasCh k = true) := Lib.hid (by simp [Pn.hasCh]; omega)
    have HV : Hid (Pn.hasV k = false) := Lib.hid (by simp [Pn.hasV]; omega)
    have := d2 HV.out; subst this
    have h9 : (k == 9) = false := by simp; omega
    have h9' : (k != 9) = true := by simp; omega
    have h1' : (k == 1) = false := by simp; omega
    have HQ : Hid (Pn.encOp ⟨k, ch, 0, 0, [], false⟩ = [k - 1, ch]) := Lib.hid (by simp [Pn.encOp, HC.out, HV.out, h9, h1'])
    clear d1 d2 d3 d4 d5 c2 c3
    go_enter Try.func79, Try.ntmps79
    go_wp2_with (at_builtin; go_must (refine wp_appk1 elemByte E0.out.1 (by omega) ?_))
    intro ao1 cap1 w1 T1 r1 k1 s1
    obtain ⟨l1, hl1⟩ : ∃ z, l ++ [k - 1] = z := ⟨_, rfl⟩
    have hb1 : l1.length ≤ l.length + 1 := by rw [← hl1]; simp
    rw [hl1] at r1
    have HL1 := Lib.hid hl1
    generalize Value.slice ao1 (l.length + 1) cap1 = v1 at *
    have E1 := Lib.hid (E0.out.next r1 k1 (fun x hx => by have := s1 x hx; simpa [World.setCell] using this))
    clear r1 k1 s1 hl1
    obtain ⟨b0, b1, b2, b3, b4, b5⟩ := E1.out.six
    go_wp2_with fail
    refine (plan_hasCh _ _).mono ?_
    rintro e w9 ⟨rfl, rfl⟩
    rw [HC.out]
    go_wp2_with (at_builtin; go_must (refine wp_appk1 elemByte E1.out.1 (by omega) ?_))
    intro ao2 cap2 w2 T2 r2 k2 s2
    obtain ⟨l2, hl2⟩ : ∃ z, l1 ++ [ch] = z := ⟨_, rfl⟩
    have hb2 : l2.length ≤ l1.length + 1 := by rw [← hl2]; simp
    rw [hl2] at r2
    have HL2 := Lib.hid hl2
    generalize Value.slice ao2 (l1.length + 1) cap2 = v2 at *
    have E2 := Lib.hid (E1.out.next r2 k2 (fun x hx => by have := s2 x hx; simpa [World.setCell] using this))
    clear r2 k2 s2 hl2 b0 b1 b2 b3 b4 b5
    obtain ⟨b0, b1, b2, b3, b4, b5⟩ := E2.out.six
    go_wp2_with fail
    refine (plan_hasV _ _).mono ?_
    rintro e w9 ⟨rfl, rfl⟩
    rw [HV.out]
    go_wp2_with fail
    go_ret
    exact E2.out.ret (by rw [← HL2.out, ← HL1.out]; rw [HQ.out]; simp) rfl
end Go.Proofs.Ytopkfhmdgheghaa
