/-
  script.Read: its contract.
  Conditions: none.
-/
import Derived.Test.YtopkfhmdgheghaaScriptE
import Derived.Test.YtopkfhmdgheghaaPlanF
namespace Go.Proofs.Ytopkfhmdgheghaa
open Go.RowKit
set_option linter.unusedVariables false
set_option linter.unusedSimpArgs false
set_option linter.unnecessarySimpa false

/-- while the script is read: its block, the result's, and the source -/
def SJ (l : List Int) (w : World) (cs : List Value) (j : Nat) (wr : World) : Prop :=
  Keeps [] w wr ∧ Blk wr w.heap.size ZS 47 ∧ RowAt w.heap.size wr (w.heap.size + 2) l j ∧ Blk wr (w.heap.size + 1) cs 47 ∧ w.heap.size + 3 ≤ wr.heap.size
section
variable {l : List Int} {w wr w' : World} {cs : List Value} {j : Nat}
theorem SJ.keep {T : List Nat} (h : SJ l w cs j wr) (k : Keeps T wr w') (hT : ∀ x ∈ T, w.heap.size + 3 ≤ x) : SJ l w cs j w' := by
  obtain ⟨h1, h2, h3, h4, h5⟩ := h
  exact ⟨h1.trans k (fun x hx => .inr (by have := hT x hx; omega)), h2.keep k (fun hm => by have := hT _ hm; omega), h3.keep k (fun x hx => by have := hT x hx; omega), h4.keep k (fun hm => by have := hT _ hm; omega), Nat.le_trans h5 k.size⟩
theorem SJ.set (h : SJ l w cs j wr) (i : Nat) (v : Value) : SJ l w (cs.set i v) j (wr.setCell ⟨w.heap.size + 1, i, none⟩ v) := by
  obtain ⟨h1, h2, h3, h4, h5⟩ := h
  have k : Keeps [w.heap.size + 1] wr (wr.setCell ⟨w.heap.size + 1, i, none⟩ v) := (Keeps.refl _ wr).setCell (by simp) v
  exact ⟨h1.trans k (by simp), h2.keep k (by simp), h3.keep k (by simp), h4.set i v, Nat.le_trans h5 k.size⟩
theorem SJ.next (h : SJ l w cs j wr) (r : RowAt w.heap.size w' (w.heap.size + 2) l (j + 1)) (k : Keeps [w.heap.size + 2] wr w') : SJ l w cs (j + 1) w' := by
  obtain ⟨h1, h2, h3, h4, h5⟩ := h
  exact ⟨h1.trans k (by simp), h2.keep k (by simp), r, h4.keep k (by simp), Nat.le_trans h5 k.size⟩
end
def SI (l : List Int) (w : World) (a b : Int) (k : Nat) (wr : World) : Prop :=
  ∃ vd T, SJ l w [.slice none 0 0, .int .i64 a, .int .i64 b, vd, .slice none 0 0] (3 + 2 * k) wr ∧ KR .u16 wr vd 112 ((List.range k).map (Sn.draw l)) T ∧ ∀ x ∈ T, w.heap.size + 3 ≤ x

def SK (l : List Int) (w w9 : World) (vp vd : Value) (a b : Int) (j : Nat) (tl : List Int) (k : Nat) (wr : World) : Prop :=
  ∃ vk T, Keeps [w.heap.size + 1] w9 wr ∧ SJ l w [vp, .int .i64 a, .int .i64 b, vd, vk] j wr ∧ KR .i64 wr vk 3 (tl.take k) T ∧ ∀ x ∈ T, w9.heap.size ≤ x

theorem sn_read {l rs tl : List Int} {x0 x1 : Int} {us k : Nat} {P : List (List Pn.Op)} {ld : List Int} (h0 : Pn.byte l 0 = x0) (h1 : Pn.byte l 1 = x1) (h2 : Sn.rest l = rs) (h3 : Sn.used l = us) (h4 : rs.drop us = tl) (h5 : (Pn.dec rs).1 = P) (h6 : Sn.cnt l = k) (h7 : (List.range k).map (Sn.draw l) = ld) :
    Sn.read l = ⟨P, x0 % 65, x1 % 16 + 1, ld, tl⟩ := by
  subst h0 h1 h2 h3 h4 h5 h6 h7; rfl
theorem draws_wf {l : List Int} (h : ∀ x ∈ l, 0 ≤ x ∧ x ≤ 255) (k : Nat) : ∀ x ∈ (List.range k).map (Sn.draw l), (Lit.int .u16 x).wf = true := fun x hx => by
  obtain ⟨i, _, rfl⟩ := List.mem_map.1 hx
  have a := Pn.byte_range h (3 + 2 * i)
  have c := Pn.byte_range h (4 + 2 * i)
  exact wf_u16 (by unfold Sn.draw; omega)
theorem sc_fin {w w9 wi W : World} {vp vd vk : Value} {P : List (List Pn.Op)} {ld tl : List Int} {SP T T2 : List Nat} {s : Sn.Sc} {a b : Int} (hs : s = ⟨P, a, b, ld, tl⟩)
    (g1 : GV opsE 1 w9 vp P SP) (g2 : KR .u16 w9 vd 112 ld T) (g3 : KR .i64 wi vk 3 tl T2) (q : Keeps [w.heap.size + 1] w9 wi) (kI : Keeps [w.heap.size] wi W) (kW : Keeps [] w W)
    (h1 : ∀ x ∈ SP, w.heap.size + 3 ≤ x) (h2 : ∀ x ∈ T, w.heap.size + 3 ≤ x) (h3 : ∀ x ∈ T2, w.heap.size + 3 ≤ x) (hd : ∀ x ∈ ld, (Lit.int .u16 x).wf = true) (hp : ∀ x ∈ tl, 0 ≤ x ∧ x ≤ 255) :
    ScPost s w (.returned (.agg #[vp, .int .i64 a, .int .i64 b, vd, vk])) W := by
  subst hs
  have e1 := (g1.keep opsE_kept q (fun x hx hm => by simp at hm; have := h1 x hx; omega)).keep opsE_kept kI (fun x hx hm => by simp at hm; have := h1 x hx; omega)
  have e2 := ((g2.keep q (fun x hx hm => by simp at hm; have := h2 x hx; omega)).keep kI (fun x hx hm => by simp at hm; have := h2 x hx; omega)).gv hd
  have e3 := (g3.keep kI (fun x hx hm => by simp at hm; have := h3 x hx; omega)).gv (fun x hx => wf_i64 (by have := hp x hx; omega))
  have hlt : ∀ x ∈ (SP ++ T) ++ T2, x < W.heap.size := fun x hx => by
    rcases List.mem_append.1 hx with h | h
    · rcases List.mem_append.1 h with h | h
      · exact e1.lt x h
      · exact e2.lt x h
    · exact e3.lt x h
  exact ⟨_, (SP ++ T) ++ T2, rfl, ⟨vp, vd, vk, rfl, e1.mono (fun x hx => by simp [hx]) hlt, e2.mono (fun x hx => by simp [hx]) hlt, e3.mono (fun x hx => by simp [hx]) hlt⟩, kW⟩

set_option maxHeartbeats 3200000 in
theorem script_read (w : World) (v : Value) (l : List Int) (S : List Nat) (h : GV (numE .u8) 1 w v l S) (hb : l.length ≤ 100000) :
    Calls Try.prog 17 #[v] w (ScPost (Sn.read l) w) := by
  have hrg : ∀ x ∈ l, 0 ≤ x ∧ x ≤ 255 := fun x hx => wf8 (h.wf x hx)
  have HR := Lib.hid hrg
  have HS := Lib.hid h
  have HLB := Lib.hid hb
  obtain ⟨aob, capb, rfl⟩ := h.shape
  have HJ0 : Hid (SJ l w ZS 0 (((w.alloc (.cells ZS.toArray 47)).alloc (.cells ZS.toArray 47)).alloc (.cells #[.slice aob l.length capb] 118))) := Lib.hid (by
    have hlt := h.lt
    refine ⟨(((Keeps.refl [] w).alloc _).alloc _).alloc _, ((Blk.fresh w ZS _ _ rfl).alloc _).alloc _, ⟨⟨_, S, Blk.fresh _ [.slice aob l.length capb] _ _ (by simp), ?_, hlt⟩, by omega⟩, (Blk.fresh _ ZS _ _ (by simp)).alloc _, by simp⟩
    rw [List.drop_zero]
    exact h.then (numE_kept _) ((((Keeps.refl [] w).alloc _).alloc _).alloc _))
  have p0 := Pn.byte_range hrg 0
  have p1 := Pn.byte_range hrg 1
  have p2 := Pn.byte_range hrg 2
  clear h hrg hb
  go_enter Try.func17, Try.ntmps17
  go_wp2_with fail
  refine (row_next w.heap.size _ _ l 0 HJ0.out.2.2.1).mono ?_
  rintro e w1 ⟨rfl, r1, k1⟩
  have HJ1 := Lib.hid (HJ0.out.next r1 k1)
  obtain ⟨⟨c0, c1, c2, c3, c4⟩, f0, f1, f2, f3, f4⟩ := Blk.five HJ1.out.2.2.2.1
  clear k1 r1 HJ0
  obtain ⟨x0, hx0⟩ : ∃ x, Pn.byte l 0 = x := ⟨_, rfl⟩
  have HX0 := Lib.hid hx0
  rw [hx0] at p0
  rw [hx0]
  clear hx0
  obtain ⟨q0, q1⟩ := p0
  go_wp2_with fail
  have HJ2 := Lib.hid (HJ1.out.set 1 (.int .i64 (x0 % 65)))
  refine (row_next w.heap.size _ _ l 1 HJ2.out.2.2.1).mono ?_
  rintro e w2 ⟨rfl, r1, k1⟩
  have HJ3 := Lib.hid (HJ2.out.next r1 k1)
  clear c0 c1 c2 c3 c4 f0 f1 f2 f3 f4 k1 r1 HJ1 HJ2
  obtain ⟨⟨c0, c1, c2, c3, c4⟩, f0, f1, f2, f3, f4⟩ := Blk.five HJ3.out.2.2.2.1
  obtain ⟨x1, hx1⟩ : ∃ x, Pn.byte l 1 = x := ⟨_, rfl⟩
  have HX1 := Lib.hid hx1
  rw [hx1] at p1
  rw [hx1]
  clear hx1
  obtain ⟨q2, q3⟩ := p1
  go_wp2_with fail
  have HJ4 := Lib.hid (HJ3.out.set 2 (.int .i64 (x1 % 16 + 1)))
  refine (row_next w.heap.size _ _ l 2 HJ4.out.2.2.1).mono ?_
  rintro e w3 ⟨rfl, r1, k1⟩
  have HJ5 := Lib.hid (HJ4.out.next r1 k1)
  clear c0 c1 c2 c3 c4 f0 f1 f2 f3 f4 k1 r1 HJ3 HJ4
  obtain ⟨cnt, hcnt⟩ : ∃ cnt : Nat, Pn.byte l 2 = (cnt : Int) := ⟨(Pn.byte l 2).toNat, by omega⟩
  have HC : Hid (Sn.cnt l = cnt) := Lib.hid (by unfold Sn.cnt; omega)
  have hc255 : cnt ≤ 255 := by omega
  rw [hcnt]
  clear hcnt p2
  have HI0 : Hid (SI l w (x0 % 65) (x1 % 16 + 1) 0 w3) := Lib.hid ⟨.slice none 0 0, [], HJ5.out, KR.nil _ _ _, by simp⟩
  clear HJ5
  go_wp2_with fail
  go_loopw [25] (fun u wr => ∃ k : Nat, k ≤ cnt ∧ u = .int .i64 k ∧ Hid (SI l w (x0 % 65) (x1 % 16 + 1) k wr)) (fun u _ => cnt - (intOf u).toNat)
  case atStart => exact ⟨0, Nat.zero_le _, rfl, HI0⟩
  case round =>
    obtain ⟨k, hk, rfl, HI⟩ := hrel
    obtain ⟨vd, T, HJ, HK, HT⟩ := HI.out
    have HJ := Lib.hid HJ
    have HK := Lib.hid HK
    have HT := Lib.hid HT
    obtain ⟨wo, rfl⟩ : ∃ wo : World, wo = wr := ⟨_, rfl⟩
    obtain ⟨ld, hld⟩ : ∃ ld, (List.range k).map (Sn.draw l) = ld := ⟨_, rfl⟩
    have hldl : ld.length = k := by rw [← hld]; simp
    have HLD := Lib.hid hld
    have HLDL := Lib.hid hldl
    clear hldl
    rw [hld] at HK
    clear hld HI0
    obtain ⟨ao, cap, rfl⟩ := HK.out.shape
    by_cases hlt : k < cnt
    · go_wp2_with fail
      refine (row_next w.heap.size _ _ l (3 + 2 * k) HJ.out.2.2.1).mono ?_
      rintro e w4 ⟨rfl, r1, k1⟩
      have HJ2 := Lib.hid (HJ.out.next r1 k1)
      have HK2 := Lib.hid (HK.out.keep k1 (fun x hx hm => by simp at hm; have := HT.out x hx; omega))
      clear k1 r1
      go_wp2_with fail
      refine (row_next w.heap.size _ _ l (3 + 2 * k + 1) HJ2.out.2.2.1).mono ?_
      rintro e w5 ⟨rfl, r1, k1⟩
      have HJ3 := Lib.hid (HJ2.out.next r1 k1)
      have HK3 := Lib.hid (HK2.out.keep k1 (fun x hx hm => by simp at hm; have := HT.out x hx; omega))
      clear k1 r1 HJ2 HK2
      obtain ⟨⟨c0, c1, c2, c3, c4⟩, f0, f1, f2, f3, f4⟩ := Blk.five HJ3.out.2.2.2.1
      have p4 := Pn.byte_range HR.out (3 + 2 * k)
      have p5 := Pn.byte_range HR.out (3 + 2 * k + 1)
      obtain ⟨x, hx⟩ : ∃ x, Pn.byte l (3 + 2 * k) = x := ⟨_, rfl⟩
      obtain ⟨y, hy⟩ : ∃ y, Pn.byte l (3 + 2 * k + 1) = y := ⟨_, rfl⟩
      have HX : Hid (Sn.draw l k = x * 256 + y) := Lib.hid (by unfold Sn.draw; rw [hx, show 4 + 2 * k = 3 + 2 * k + 1 by omega, hy])
      rw [hx] at p4
      rw [hy] at p5
      rw [hx, hy]
      clear hx hy
      have hor := or_byte p4 p5
      obtain ⟨y0, y1⟩ := p4
      obtain ⟨y2, y3⟩ := p5
      go_wp2_with (at_builtin; go_must (refine wp_appk1 elemU16 HK3.out (by have := HLDL.out; omega) ?_))
      intro ao7 cap7 w7 T7 r7 k7 s7
      have HJ7 := Lib.hid (HJ3.out.keep k7 HT.out)
      have HT7 : Hid (∀ x ∈ T7, w.heap.size + 3 ≤ x) := Lib.hid (fun x hx => by
        rcases s7 x hx with h | h
        · exact HT.out x h
        · have := HJ3.out.2.2.2.2; omega)
      have HE : Hid (ld ++ [x * 256 + y] = (List.range (k + 1)).map (Sn.draw l)) := Lib.hid (by rw [List.range_succ, List.map_append, HLD.out, List.map_singleton, HX.out])
      have HK7 := Lib.hid r7
      clear r7 k7 s7 c0 c1 c2 c3 c4 f0 f1 f2 f3 f4 hor
      obtain ⟨⟨c0, c1, c2, c3, c4⟩, f0, f1, f2, f3, f4⟩ := Blk.five HJ7.out.2.2.2.1
      go_wp2_with fail
      go_roundw
      case rel => exact ⟨k + 1, by omega, by go_num, Lib.hid ⟨_, T7, HJ7.out.set 3 (.slice ao7 (ld.length + 1) cap7), by rw [← HE.out]; exact HK7.out.keep (T := [w.heap.size + 1]) ((Keeps.refl _ w7).setCell (by simp) _) (fun x hx hm => by simp at hm; have := HT7.out x hx; omega), HT7.out⟩⟩
      case measure => simp [intOf]; omega
    · obtain rfl : k = cnt := by omega
      obtain ⟨⟨vr, S2, hb, hg, hS2⟩, _⟩ := HJ.out.2.2.1
      have HG := Lib.hid hg
      have HS2 := Lib.hid hS2
      have hgl := hg.le
      unfold maxLen at hgl
      obtain ⟨ar, cr, rfl⟩ := hg.shape
      obtain ⟨_, hcr, hcr2⟩ := hg.cap_le
      unfold maxLen at hcr2
      have HRS : Hid (Sn.rest l = l.drop (3 + 2 * k)) := Lib.hid (by unfold Sn.rest; rw [HC.out])
      have HSU : Hid (Sn.used l = min (Pn.dec (l.drop (3 + 2 * k))).2 (l.drop (3 + 2 * k)).length) := Lib.hid (by unfold Sn.used; rw [HRS.out])
      obtain ⟨rs, hrs⟩ : ∃ rs, l.drop (3 + 2 * k) = rs := ⟨_, rfl⟩
      have HRB : Hid (rs.length ≤ 100000) := Lib.hid (by have := HLB.out; rw [← hrs, List.length_drop]; omega)
      rw [hrs] at HG HRS HSU hgl hcr hb
      have cb : wo.cell? ⟨w.heap.size + 1 + 1, 0, none⟩ = some (.slice ar rs.length cr) := hb.cell 0
      have HB := Lib.hid hb
      clear hg hS2 hb hrs HI
      go_wp2_with fail
      refine (plan_decode _ _ _ _ HG.out).mono ?_
      rintro e w8 ⟨vp, SP, rfl, gp, sp, kp⟩
      have HJ8 := Lib.hid (HJ.out.keep kp (by simp))
      have HG8 := Lib.hid (HG.out.then (numE_kept _) kp)
      have HK8 := Lib.hid (HK.out.then kp)
      have cb8 := kp.cell cb (by simp)
      have HGP := Lib.hid gp
      obtain ⟨ap, cp, rfl⟩ := gp.shape
      obtain ⟨us, hus⟩ : ∃ us, min (Pn.dec rs).2 rs.length = us := ⟨_, rfl⟩
      have husl : us ≤ rs.length := by omega
      rw [hus] at HSU
      rw [hus]
      obtain ⟨P, hP⟩ : ∃ P, (Pn.dec rs).1 = P := ⟨_, rfl⟩
      have HP := Lib.hid hP
      rw [hP] at HGP
      rw [hP]
      have HSP := Lib.hid sp
      clear gp kp sp hus hP cb
      obtain ⟨⟨c0, c1, c2, c3, c4⟩, f0, f1, f2, f3, f4⟩ := Blk.five HJ8.out.2.2.2.1
      have hI1 : (us : Int) ≤ (rs.length : Int) := by omega
      have hI2 : (rs.length : Int) ≤ (cr : Int) := by omega
      have hI3 : us ≤ cr := by omega
      have HDX : Hid (∀ ao2 c2, (∀ g off, us < rs.length → ar = some ⟨g, off, none⟩ → ao2 = some ⟨g, off + us, none⟩) → c2 = cr - us → ∃ S3, GV (numE .u8) 1 w8 (.slice ao2 (rs.length - us) c2) (rs.drop us) S3 ∧ ∀ x ∈ S3, x ∈ S2) := Lib.hid (fun ao2 c2 h1 h2 => by rw [h2]; exact HG8.out.dropx us husl ao2 h1)
      have HI9 : Hid (SK l w (w8.setCell ⟨w.heap.size + 1, 0, none⟩ (.slice ap P.length cp)) (.slice ap P.length cp) (.slice ao ld.length cap) (x0 % 65) (x1 % 16 + 1) (3 + 2 * k) (rs.drop us) 0 (w8.setCell ⟨w.heap.size + 1, 0, none⟩ (.slice ap P.length cp))) := Lib.hid
        ⟨.slice none 0 0, [], Keeps.refl _ _, HJ8.out.set 0 _, KR.nil _ _ _, by simp⟩
      have HGP9 : Hid (GV opsE 1 (w8.setCell ⟨w.heap.size + 1, 0, none⟩ (.slice ap P.length cp)) (.slice ap P.length cp) P SP) := Lib.hid (HGP.out.keep opsE_kept (T := [w.heap.size + 1]) ((Keeps.refl _ w8).setCell (by simp) _) (fun x hx hm => by simp at hm; have := HSP.out x hx; have := HJ.out.2.2.2.2; omega))
      have HK9 : Hid (KR .u16 (w8.setCell ⟨w.heap.size + 1, 0, none⟩ (.slice ap P.length cp)) (.slice ao ld.length cap) 112 ld T) := Lib.hid (HK8.out.keep (T := [w.heap.size + 1]) ((Keeps.refl _ w8).setCell (by simp) _) (fun x hx hm => by simp at hm; have := HT.out x hx; omega))
      have HSN : Hid (∀ x ∈ SP ++ T, x ≠ w.heap.size + 1) := Lib.hid (fun x hx e => by
        rcases List.mem_append.1 hx with h | h
        · have := HSP.out x h; have := HJ.out.2.2.2.2; omega
        · have := HT.out x h; omega)
      go_wp2_with fail
      all_goals
        first
          | (have hz := HDX.out ar 0 (by intros; omega) (by omega)
             clear HDX HG8 HB HG
             generalize ar = ao2 at *)
          | (have hz := HDX.out (Option.map (fun x => x.add us) ar) (cr - us) (by rintro g off _ rfl; simp [Addr.add]) rfl
             clear HDX HG8 HB HG
             generalize Option.map (fun x => x.add us) ar = ao2 at *)
        obtain ⟨S3, hz1, hz2⟩ := hz
        have HZ := Lib.hid (hz1.keep (numE_kept _) (T := [w.heap.size + 1]) ((Keeps.refl _ w8).setCell (p := ⟨w.heap.size + 1, 0, none⟩) (by simp) (.slice ap P.length cp)) (fun x hx hm => by simp at hm; have := HS2.out x (hz2 x hx); omega))
        have HS3 : Hid (∀ x ∈ S3, x ≠ w.heap.size + 1) := Lib.hid (fun x hx e => by have := HS2.out x (hz2 x hx); omega)
        have htl : (rs.drop us).length = rs.length - us := by simp
        clear hz1 hz2 cb8 c0 c1 c2 c3 c4 f0 f1 f2 f3 f4
        obtain ⟨tl, htq⟩ : ∃ tl, rs.drop us = tl := ⟨_, rfl⟩
        have HTQ := Lib.hid htq
        rw [htq] at htl HZ HI9
        have HTB : Hid (tl.length ≤ 100000) := Lib.hid (by have := HRB.out; omega)
        rw [← htl]
        rw [← htl] at HZ
        clear htq htl
        obtain ⟨w9, hw9⟩ : ∃ w9, w8.setCell ⟨w.heap.size + 1, 0, none⟩ (.slice ap P.length cp) = w9 := ⟨_, rfl⟩
        have HW9 : Hid (w.heap.size + 3 ≤ w9.heap.size) := Lib.hid (by rw [← hw9]; exact Nat.le_trans HJ8.out.2.2.2.2 (by simp))
        rw [hw9] at HZ HI9 HGP9 HK9
        rw [hw9]
        clear hw9
        have htm := HZ.out.le
        unfold maxLen at htm
        go_loopw [53] (fun u wr => ∃ k2 : Nat, k2 ≤ tl.length ∧ u = .int .i64 k2 ∧ Hid (SK l w w9 (.slice ap P.length cp) (.slice ao ld.length cap) (x0 % 65) (x1 % 16 + 1) (3 + 2 * k) tl k2 wr)) (fun u _ => tl.length - (intOf u).toNat)
        case atStart => exact ⟨0, Nat.zero_le _, rfl, HI9⟩
        case round =>
          obtain ⟨k2, hk2, rfl, HI2⟩ := hrel
          obtain ⟨vk, T2, q1, q2, q3, q4⟩ := HI2.out
          have HQ1 := Lib.hid q1
          have HQ2 := Lib.hid q2
          have HQ4 := Lib.hid q4
          obtain ⟨wi, rfl⟩ : ∃ wi : World, wi = wr := ⟨_, rfl⟩
          obtain ⟨lk, hlk⟩ : ∃ lk, tl.take k2 = lk := ⟨_, rfl⟩
          have HLK := Lib.hid hlk
          have HLKL : Hid (lk.length = k2) := Lib.hid (by rw [← hlk]; simp; omega)
          rw [hlk] at q3
          have HQ3 := Lib.hid q3
          obtain ⟨ak, ck, rfl⟩ := q3.shape
          obtain ⟨⟨c0, c1, c2, c3, c4⟩, f0, f1, f2, f3, f4⟩ := Blk.five q2.2.2.2.1
          clear HI9 HI2 hlk q3 q4
          by_cases hlt2 : k2 < tl.length
          · have hzi := HZ.out.keep (numE_kept _) q1 (fun x hx hm => by simp at hm; exact HS3.out x hx hm)
            obtain ⟨g, off, rfl, _, _, hc⟩ := hzi.num hlt2
            have hr := wf8 (hzi.wf _ (List.getElem_mem hlt2))
            obtain ⟨x, hx⟩ : ∃ x, tl[k2] = x := ⟨_, rfl⟩
            have HX : Hid (tl.take (k2 + 1) = lk ++ [x]) := Lib.hid (by rw [List.take_succ_eq_append_getElem hlt2, HLK.out, hx])
            rw [show tl.getD k2 0 = x by simp [List.getD, hlt2, hx]] at hc
            rw [hx] at hr
            obtain ⟨r0, r1⟩ := hr
            clear q1 q2 hzi hx
            go_wp2_with (at_builtin; go_must (refine wp_appk1 elemInt HQ3.out (by have := HLKL.out; have := HTB.out; omega) ?_))
            intro ao7 cap7 w7 T7 r7 k7 s7
            have HJ7 := Lib.hid (HQ2.out.keep k7 (fun x hx => by have := HQ4.out x hx; have := HW9.out; omega))
            have HT7 : Hid (∀ x ∈ T7, w9.heap.size ≤ x) := Lib.hid (fun x hx => by
              rcases s7 x hx with h | h
              · exact HQ4.out x h
              · have := HQ1.out.size; omega)
            have HK7 := Lib.hid r7
            have HQ7 := Lib.hid (HQ1.out.trans k7 (fun x hx => .inr (HQ4.out x hx)))
            clear r7 k7 s7 c0 c1 c2 c3 c4 f0 f1 f2 f3 f4
            obtain ⟨⟨c0, c1, c2, c3, c4⟩, f0, f1, f2, f3, f4⟩ := Blk.five HJ7.out.2.2.2.1
            go_wp2_with fail
            go_roundw
            case rel => exact ⟨k2 + 1, by omega, by go_num, Lib.hid ⟨_, T7, HQ7.out.setCell (by simp) _, HJ7.out.set 4 (.slice ao7 (lk.length + 1) cap7), by rw [HX.out]; exact HK7.out.keep (T := [w.heap.size + 1]) ((Keeps.refl _ w7).setCell (by simp) _) (fun x hx hm => by simp at hm; have := HT7.out x hx; have := HW9.out; omega), HT7.out⟩⟩
            case measure => simp [intOf]; omega
          · obtain rfl : k2 = tl.length := by omega
            rw [List.take_length] at HLK
            have hz0 := q2.2.1
            unfold ZS at hz0
            have hk1 := q2.1
            have e0 := hz0.free 0
            have e1 := hz0.free 1
            have e2 := hz0.free 2
            have e3 := hz0.free 3
            have e4 := hz0.free 4
            have d0 := hz0.cell 0
            have d1 := hz0.cell 1
            have d2 := hz0.cell 2
            have d3 := hz0.cell 3
            have d4 := hz0.cell 4
            simp at d0 d1 d2 d3 d4
            have hzz := ((((hz0.set 0 (.slice ap P.length cp)).set 1 (.int .i64 (x0 % 65))).set 2 (.int .i64 (x1 % 16 + 1))).set 3 (.slice ao ld.length cap)).set 4 (.slice ak lk.length ck)
            simp only [List.set_cons_succ, List.set_cons_zero] at hzz
            have HZZ := Lib.hid hzz
            have HKW := Lib.hid (((((hk1.setCell (p := ⟨w.heap.size, 0, none⟩) (by simp) (.slice ap P.length cp)).setCell (p := ⟨w.heap.size, 1, none⟩) (by simp) (.int .i64 (x0 % 65))).setCell (p := ⟨w.heap.size, 2, none⟩) (by simp) (.int .i64 (x1 % 16 + 1))).setCell (p := ⟨w.heap.size, 3, none⟩) (by simp) (.slice ao ld.length cap)).setCell (p := ⟨w.heap.size, 4, none⟩) (by simp) (.slice ak lk.length ck))
            have HKI := Lib.hid ((((((Keeps.refl [w.heap.size] wi).setCell (p := ⟨w.heap.size, 0, none⟩) (by simp) (.slice ap P.length cp)).setCell (p := ⟨w.heap.size, 1, none⟩) (by simp) (.int .i64 (x0 % 65))).setCell (p := ⟨w.heap.size, 2, none⟩) (by simp) (.int .i64 (x1 % 16 + 1))).setCell (p := ⟨w.heap.size, 3, none⟩) (by simp) (.slice ao ld.length cap)).setCell (p := ⟨w.heap.size, 4, none⟩) (by simp) (.slice ak lk.length ck))
            clear q1 q2 hz0 hk1 hzz
            go_wp2_with fail
            obtain ⟨⟨z0, z1, z2, z3, z4⟩, _⟩ := Blk.five HZZ.out
            refine bodyPost_ret (v := .agg #[.slice ap P.length cp, .int .i64 (x0 % 65), .int .i64 (x1 % 16 + 1), .slice ao ld.length cap, .slice ak lk.length ck]) (by simp [results, Try.results17, go_sem, z0, z1, z2, z3, z4]) rfl ?_
            have HQ5 : Hid (KR .i64 wi (.slice ak lk.length ck) 3 tl T2) := Lib.hid (by rw [HLK.out]; exact HQ3.out)
            have HPK : Hid (∀ x ∈ tl, 0 ≤ x ∧ x ≤ 255) := Lib.hid (fun x hx => wf8 (HZ.out.wf x hx))
            have HE5 : Hid (Sn.read l = ⟨P, x0 % 65, x1 % 16 + 1, ld, tl⟩) := Lib.hid (sn_read HX0.out HX1.out HRS.out HSU.out HTQ.out HP.out HC.out HLD.out)
            have hs1 := HJ.out.2.2.2.2
            exact sc_fin HE5.out HGP9.out HK9.out HQ5.out HQ1.out HKI.out HKW.out (fun x hx => Nat.le_trans hs1 (HSP.out x hx)) HT.out (fun x hx => Nat.le_trans HW9.out (HQ4.out x hx)) (by rw [← HLD.out]; exact draws_wf HR.out _) HPK.out
end Go.Proofs.Ytopkfhmdgheghaa
