/-
  handoffref24.Read: its contract.
  Conditions: a row no longer than 100000.
-/
import Derived.Test.YtopkfhmdgheghaaScriptR
import Derived.Test.YtopkfhmdgheghaaPlanG
import Derived.Deep.DrawnRows
namespace Go.Proofs.Ytopkfhmdgheghaa
open Go.RowKit
set_option linter.unusedVariables false
set_option linter.unusedSimpArgs false
set_option linter.unnecessarySimpa false

/-- while the script is read: the result's block and its own -/
def SL (w : World) (cs : List Value) (wr : World) : Prop :=
  Keeps [] w wr ∧ Blk wr w.heap.size ZS 42 ∧ Blk wr (w.heap.size + 1) cs 42 ∧ w.heap.size + 2 ≤ wr.heap.size
section
variable {l : List Int} {w wr w' : World} {cs : List Value} {j : Nat}
theorem SL.keep {T : List Nat} (h : SL w cs wr) (k : Keeps T wr w') (hT : ∀ x ∈ T, w.heap.size + 2 ≤ x) : SL w cs w' := by
  obtain ⟨h1, h2, h4, h5⟩ := h
  exact ⟨h1.trans k (fun x hx => .inr (by have := hT x hx; omega)), h2.keep k (fun hm => by have := hT _ hm; omega), h4.keep k (fun hm => by have := hT _ hm; omega), Nat.le_trans h5 k.size⟩
theorem SL.set (h : SL w cs wr) (i : Nat) (v : Value) : SL w (cs.set i v) (wr.setCell ⟨w.heap.size + 1, i, none⟩ v) := by
  obtain ⟨h1, h2, h4, h5⟩ := h
  have k : Keeps [w.heap.size + 1] wr (wr.setCell ⟨w.heap.size + 1, i, none⟩ v) := (Keeps.refl _ wr).setCell (by simp) v
  exact ⟨h1.trans k (by simp), h2.keep k (by simp), h4.set i v, Nat.le_trans h5 k.size⟩
end
def SM (l : List Int) (w : World) (a b : Int) (k : Nat) (wr : World) : Prop :=
  ∃ vd T, SL w [.slice none 0 0, .int .i64 a, .int .i64 b, vd, .slice none 0 0] wr ∧ KR .u16 wr vd 112 ((List.range k).map (Sn.draw l)) T ∧ ∀ x ∈ T, w.heap.size + 2 ≤ x

/-- the bytes left, put into a row of their own, so far -/
def SR (wo : World) (rs : List Int) (k : Nat) (v : Value) (wr : World) : Prop := ∃ T, Keeps [] wo wr ∧ KR .u8 wr v 5 (rs.take k) T ∧ ∀ x ∈ T, wo.heap.size ≤ x

def SKK (w w9 : World) (vp vd : Value) (a b : Int) (tl : List Int) (k : Nat) (wr : World) : Prop :=
  ∃ vk T, Keeps [w.heap.size + 1] w9 wr ∧ SL w [vp, .int .i64 a, .int .i64 b, vd, vk] wr ∧ KR .i64 wr vk 3 (tl.take k) T ∧ ∀ x ∈ T, w9.heap.size ≤ x
theorem sc_fin2 {w w9 wi W : World} {vp vd vk : Value} {P : List (List Pn.Op)} {ld tl : List Int} {SP T T2 : List Nat} {s : Sn.Sc} {a b : Int} (hs : s = ⟨P, a, b, ld, tl⟩)
    (g1 : GV opsE 1 w9 vp P SP) (g2 : KR .u16 w9 vd 112 ld T) (g3 : KR .i64 wi vk 3 tl T2) (q : Keeps [w.heap.size + 1] w9 wi) (kI : Keeps [w.heap.size] wi W) (kW : Keeps [] w W)
    (h1 : ∀ x ∈ SP, w.heap.size + 2 ≤ x) (h2 : ∀ x ∈ T, w.heap.size + 2 ≤ x) (h3 : ∀ x ∈ T2, w.heap.size + 2 ≤ x) (hd : ∀ x ∈ ld, (Lit.int .u16 x).wf = true) (hp : ∀ x ∈ tl, 0 ≤ x ∧ x ≤ 255) :
    ScPost s w (.returned (.agg #[vp, .int .i64 a, .int .i64 b, vd, vk])) W := by
  subst hs
  have e1 := (g1.keep opsE_kept q (fun x hx hm => by simp at hm; have := h1 x hx; omega)).keep opsE_kept kI (fun x hx hm => by simp at hm; have := h1 x hx; omega)
  have e2 := ((g2.keep q (fun x hx hm => by simp at hm; have := h2 x hx; omega)).keep kI (fun x hx hm => by simp at hm; have := h2 x hx; omega)).gv hd
  have e3 := (g3.keep kI (fun x hx hm => by simp at hm; have := h3 x hx; omega)).gv (fun x hx => wf_i64 (by have := hp x hx; omega))
  have hlt : ∀ x ∈ (SP ++ T) ++ T2, x < W.heap.size := fun x hx => by
    rcases List.mem_append.1 hx with h | h
    · rcases List.mem_append.1 h with h | h
      · exact e1.lt x h
      · exact e2.lt x h
    · exact e3.lt x h
  exact ⟨_, (SP ++ T) ++ T2, rfl, ⟨vp, vd, vk, rfl, e1.mono (fun x hx => by simp [hx]) hlt, e2.mono (fun x hx => by simp [hx]) hlt, e3.mono (fun x hx => by simp [hx]) hlt⟩, kW⟩

set_option maxRecDepth 100000 in
set_option maxHeartbeats 3200000 in
theorem ref24_read (w : World) (v : Value) (l : List Int) (S : List Nat) (h : GV (numE .u8) 1 w v l S) (hb : l.length ≤ 100000) :
    Calls Try.prog 18 #[v] w (ScPost (Sn.read l) w) := by
  have hrg : ∀ x ∈ l, 0 ≤ x ∧ x ≤ 255 := fun x hx => wf8 (h.wf x hx)
  have HR := Lib.hid hrg
  have HS := Lib.hid h
  have HLB := Lib.hid hb
  have HSL := Lib.hid h.lt
  obtain ⟨aob, capb, rfl⟩ := h.shape
  have p0 := Pn.byte_range hrg 0
  have p1 := Pn.byte_range hrg 1
  have p2 := Pn.byte_range hrg 2
  clear h hrg hb
  go_enter Try.func18, Try.ntmps18
  go_wp2_with fail
  refine (ref24_at_of _ _ l S _ 0 rfl (HS.out.then (numE_kept _) ((Keeps.refl [] w).alloc _))).mono ?_
  rintro e w1 ⟨rfl, rfl⟩
  obtain ⟨x0, hx0⟩ : ∃ x, Pn.byte l 0 = x := ⟨_, rfl⟩
  have HX0 := Lib.hid hx0
  rw [hx0] at p0
  rw [hx0]
  clear hx0
  obtain ⟨q0, q1⟩ := p0
  go_wp2_with fail
  refine (ref24_at_of _ _ l S _ 1 rfl (HS.out.then (numE_kept _) ((Keeps.refl [] w).alloc _))).mono ?_
  rintro e w1 ⟨rfl, rfl⟩
  obtain ⟨x1, hx1⟩ : ∃ x, Pn.byte l 1 = x := ⟨_, rfl⟩
  have HX1 := Lib.hid hx1
  rw [hx1] at p1
  rw [hx1]
  clear hx1
  obtain ⟨q2, q3⟩ := p1
  have HM0 : Hid (SM l w (x0 % 65) (x1 % 16 + 1) 0 ((w.alloc (.cells ZS.toArray 42)).alloc (.cells #[.slice none 0 0, .int .i64 (x0 % 65), .int .i64 (x1 % 16 + 1), .slice none 0 0, .slice none 0 0] 42))) := Lib.hid
    ⟨.slice none 0 0, [], ⟨((Keeps.refl [] w).alloc _).alloc _, (Blk.fresh w ZS _ _ rfl).alloc _, Blk.fresh _ [.slice none 0 0, .int .i64 (x0 % 65), .int .i64 (x1 % 16 + 1), .slice none 0 0, .slice none 0 0] _ _ (by simp), by simp⟩, KR.nil _ _ _, by simp⟩
  obtain ⟨cnt, hcnt⟩ : ∃ cnt : Nat, Pn.byte l 2 = (cnt : Int) := ⟨(Pn.byte l 2).toNat, by omega⟩
  have HC : Hid (Sn.cnt l = cnt) := Lib.hid (by unfold Sn.cnt; omega)
  have hc255 : cnt ≤ 255 := by omega
  have HCN := Lib.hid hcnt
  clear hcnt p2
  go_wp2_with fail
  go_loopw [5, 4] (fun u iv wr => ∃ (k : Nat) (j : Int), k ≤ cnt ∧ u = .int .i64 k ∧ iv = .int .i64 j ∧ 0 ≤ j ∧ j ≤ 600 ∧ Hid (j = 3 + 2 * (k : Int) ∧ SM l w (x0 % 65) (x1 % 16 + 1) k wr)) (fun u _ _ => cnt - (intOf u).toNat)
  case atStart => exact ⟨0, 3, Nat.zero_le _, rfl, rfl, by omega, by omega, Lib.hid ⟨rfl, HM0.out⟩⟩
  case round =>
    obtain ⟨k, j, hk, rfl, rfl, hj0, hj6, HI⟩ := hrel
    obtain ⟨hj, vd, T, HJ, HK, HT⟩ := HI.out
    have HJJ := Lib.hid hj
    have HJ := Lib.hid HJ
    have HK := Lib.hid HK
    have HT := Lib.hid HT
    obtain ⟨wo, rfl⟩ : ∃ wo : World, wo = wr := ⟨_, rfl⟩
    obtain ⟨ld, hld⟩ : ∃ ld, (List.range k).map (Sn.draw l) = ld := ⟨_, rfl⟩
    have HLDL : Hid (ld.length = k) := Lib.hid (by rw [← hld]; simp)
    have HLD := Lib.hid hld
    rw [hld] at HK
    have hx : Pn.byte l j.toNat = Pn.byte l (3 + 2 * k) := by rw [show j.toNat = 3 + 2 * k by omega]
    have hy : Pn.byte l (j + 1).toNat = Pn.byte l (4 + 2 * k) := by rw [show (j + 1).toNat = 4 + 2 * k by omega]
    clear hld HM0 hj
    obtain ⟨ao, cap, rfl⟩ := HK.out.shape
    have HV := Lib.hid (HS.out.then (numE_kept _) HJ.out.1)
    go_wp2_with fail
    refine (ref24_at_of _ _ l S _ 2 rfl HV.out).mono ?_
    rintro e w2 ⟨rfl, rfl⟩
    rw [HCN.out]
    by_cases hlt : k < cnt
    · obtain ⟨⟨c0, c1, c2, c3, c4⟩, f0, f1, f2, f3, f4⟩ := Blk.five HJ.out.2.2.1
      have p4 := Pn.byte_range HR.out (3 + 2 * k)
      have p5 := Pn.byte_range HR.out (4 + 2 * k)
      obtain ⟨x, hxx⟩ : ∃ x, Pn.byte l (3 + 2 * k) = x := ⟨_, rfl⟩
      obtain ⟨y, hyy⟩ : ∃ y, Pn.byte l (4 + 2 * k) = y := ⟨_, rfl⟩
      have HX : Hid (Sn.draw l k = x * 256 + y) := Lib.hid (by unfold Sn.draw; rw [hxx, hyy])
      rw [hxx] at p4 hx
      rw [hyy] at p5 hy
      have HXX := Lib.hid hx
      have HYY := Lib.hid hy
      clear hxx hyy hx hy
      have hwr : IntKind.u16.wrap (x * 256 + y) = x * 256 + y := wrap_u16 (by omega) (by omega)
      have hw1 : IntKind.i64.wrap (j + 1) = j + 1 := by rw [IntKind.wrap_i64]; omega
      have hw2 : IntKind.i64.wrap (x * 256) = x * 256 := by rw [IntKind.wrap_i64]; omega
      have hw3 : IntKind.i64.wrap (x * 256 + y) = x * 256 + y := by rw [IntKind.wrap_i64]; omega
      obtain ⟨y0, y1⟩ := p4
      obtain ⟨y2, y3⟩ := p5
      have HK' := Lib.hid (HK.out.then (Keeps.refl [] wo).drew)
      have HBd := Lib.hid (Blk.drew HJ.out.2.2.1)
      have hbA := (HJ.out.2.2.1.alloc (.cells #[.int .u16 (x * 256 + y)] 112)).drew
      have cA : ((wo.alloc (.cells #[.int .u16 (x * 256 + y)] 112)).drew).cell? ⟨w.heap.size + 1, 3, none⟩ = some (.slice ao ld.length cap) := hbA.cell 3
      have fA : ((wo.alloc (.cells #[.int .u16 (x * 256 + y)] 112)).drew).frozen? ⟨w.heap.size + 1, 3, none⟩ = false := hbA.free 3
      have HTN : Hid (w.heap.size + 1 ∉ T) := Lib.hid (fun hm => by have := HT.out _ hm; omega)
      clear hbA
      go_upto_region 6 with fail
      go_region_law
        (first
          | (go_simp; go_at_call 55; (with_reducible refine (ref24_at_nat _ _ l S j hj0 (HV.out.then (numE_kept _) (Keeps.refl [] wo).drew)).mono ?_); rintro e w8 ⟨rfl, rfl⟩; rw [HXX.out])
          | (go_simp; go_at_call 55; (with_reducible refine (ref24_at_nat _ _ l S (j + 1) (by omega) (HV.out.then (numE_kept _) (Keeps.refl [] wo).drew)).mono ?_); rintro e w8 ⟨rfl, rfl⟩; rw [HYY.out])
          | (refine step_appk1 elemU16 HK'.out (by have := HLDL.out; omega) ?_; intro ao7 cap7 w7 T7 r7 k7 s7; have HB7 := Lib.hid (HBd.out.keep k7 HTN.out); have c7 : w7.cell? ⟨w.heap.size + 1, 3, none⟩ = some (.slice ao ld.length cap) := HB7.out.cell 3; have f7 : w7.frozen? ⟨w.heap.size + 1, 3, none⟩ = false := HB7.out.free 3; have HK7 := Lib.hid r7; have K7 := Lib.hid k7; have S7 := Lib.hid s7; clear r7 k7 s7)
          | fail)
      all_goals
        have HS7 := Lib.hid (HJ.out.keep (((Keeps.refl T wo).drew).trans K7.out (fun x hx => .inl hx)) HT.out)
        have HT7 : Hid (∀ x ∈ T7, w.heap.size + 2 ≤ x) := Lib.hid (fun x hx => by
          rcases S7.out x hx with h | h
          · exact HT.out x h
          · have h1 := HJ.out.2.2.2; have h2 : wo.heap.size ≤ x := h; omega)
        have HE : Hid (ld ++ [x * 256 + y] = (List.range (k + 1)).map (Sn.draw l)) := Lib.hid (by rw [List.range_succ, List.map_append, HLD.out, List.map_singleton, HX.out])
        go_wp2_with fail
        go_roundw
        case rel => exact ⟨k + 1, j + 2, by omega, by go_num, rfl, by omega, by have := HJJ.out; omega, Lib.hid ⟨by have := HJJ.out; omega, _, T7, HS7.out.set 3 (.slice ao7 (ld.length + 1) cap7), by rw [← HE.out]; exact HK7.out.keep (T := [w.heap.size + 1]) ((Keeps.refl _ w7).setCell (by simp) _) (fun x hx hm => by simp at hm; have := HT7.out x hx; omega), HT7.out⟩⟩
        case measure => simp [intOf]; omega
    · obtain rfl : k = cnt := by omega
      obtain ⟨n3, hn3⟩ : ∃ n3, 3 + 2 * k = n3 := ⟨_, rfl⟩
      have HN3 := Lib.hid hn3
      obtain rfl : j = (n3 : Int) := by have := HJJ.out; omega
      obtain ⟨rs, hrs⟩ : ∃ rs, l.drop n3 = rs := ⟨_, rfl⟩
      have HRS := Lib.hid hrs
      have HRL : Hid (rs.length = l.length - n3) := Lib.hid (by rw [← hrs]; simp)
      have HR0 : Hid (SR wo rs 0 (.slice (some ⟨wo.heap.size, 0, none⟩) 0 0) (wo.alloc (.cells #[] 5))) := Lib.hid ⟨[wo.heap.size], (Keeps.refl [] wo).alloc _, KR.lit .u8 wo [] _ _ rfl (by simp), by simp⟩
      clear hn3 hrs hx hy HI
      go_wp2_with fail
      go_loopw [7, 6] (fun u v wr => ∃ k2 : Nat, k2 ≤ rs.length ∧ u = .int .i64 ((n3 + k2 : Nat) : Int) ∧ SR wo rs k2 v wr) (fun u _ _ => l.length - (intOf u).toNat)
      case atStart => exact ⟨0, Nat.zero_le _, rfl, HR0.out⟩
      case round =>
        obtain ⟨k2, hk2, rfl, T2, kp, g2, t2⟩ := hrel
        obtain ⟨wi, rfl⟩ : ∃ wi : World, wi = wr := ⟨_, rfl⟩
        obtain ⟨lk, hlk⟩ : ∃ lk, rs.take k2 = lk := ⟨_, rfl⟩
        have HLK := Lib.hid hlk
        have HLKL : Hid (lk.length = k2) := Lib.hid (by rw [← hlk]; simp; omega)
        rw [hlk] at g2
        have KP := Lib.hid kp
        have G2 := Lib.hid g2
        have T2' := Lib.hid t2
        obtain ⟨ak, ck, rfl⟩ := g2.shape
        have hv := HV.out.then (numE_kept _) kp
        clear hlk kp g2 t2 HR0
        by_cases hlt2 : n3 + k2 < l.length
        · have HLT := Lib.hid hlt2
          have hlim : n3 + k2 < 9223372036854775807 := by have := HLB.out; omega
          obtain ⟨g, off, rfl, _, _, hc⟩ := hv.num hlt2
          obtain ⟨x, hx⟩ : ∃ x, l.getD (n3 + k2) 0 = x := ⟨_, rfl⟩
          have HX : Hid (rs.take (k2 + 1) = lk ++ [x]) := Lib.hid (by
            have hk3 : k2 < rs.length := by have := HRL.out; omega
            rw [List.take_succ_eq_append_getElem hk3, HLK.out, ← hx]
            congr 2
            simp [← HRS.out, List.getD, hlt2])
          rw [hx] at hc
          clear hx hv
          go_wp2_with (at_builtin; go_must (refine wp_appk1 elemByte G2.out (by have := HLKL.out; have := HLB.out; omega) ?_))
          intro ao7 cap7 w7 T7 r7 k7 s7
          have HK3 : Hid (k2 + 1 ≤ rs.length ∧ l.length - (n3 + (k2 + 1)) < l.length - (n3 + k2)) := Lib.hid (by have := HRL.out; have := HLT.out; omega)
          have HN : Hid (SR wo rs (k2 + 1) (.slice ao7 (lk.length + 1) cap7) w7) := Lib.hid ⟨T7, KP.out.trans k7 (fun x hx => .inr (T2'.out x hx)), by rw [HX.out]; exact r7, fun x hx => by
            rcases s7 x hx with h | h
            · exact T2'.out x h
            · have := KP.out.size; omega⟩
          clear r7 k7 s7
          go_wp2_with fail
          go_roundw
          case rel => exact ⟨k2 + 1, HK3.out.1, by go_num, HN.out⟩
          case measure =>
            have := HK3.out.2
            simp [intOf]
            omega
        · obtain rfl : k2 = rs.length := by have := HRL.out; omega
          have e : lk = rs := by have := HLK.out; rw [List.take_length] at this; exact this.symm
          subst e
          have HG := Lib.hid (G2.out.gv (fun x hx => wf_u8 (HR.out x (by rw [← HRS.out] at hx; exact List.mem_of_mem_drop hx))))
          have HRB : Hid (lk.length ≤ 100000) := Lib.hid (by have := HLB.out; have := HRL.out; omega)
          have HRST : Hid (Sn.rest l = lk) := Lib.hid (by unfold Sn.rest; rw [HC.out, HN3.out, HRS.out])
          have HSU : Hid (Sn.used l = min (Pn.dec lk).2 lk.length) := Lib.hid (by unfold Sn.used; rw [HRST.out])
          have hgl := HG.out.le
          unfold maxLen at hgl
          obtain ⟨_, hcr, hcr2⟩ := HG.out.cap_le
          unfold maxLen at hcr2
          clear hv
          go_wp2_with fail
          refine (ref10_decode _ _ _ _ HG.out).mono ?_
          rintro e w8 ⟨vp, SP, rfl, gp, sp, kp⟩
          have HJ8 := Lib.hid ((HJ.out.keep KP.out (by simp)).keep kp (by simp))
          have HG8 := Lib.hid (HG.out.then (numE_kept _) kp)
          have HK8 := Lib.hid ((HK.out.then KP.out).then kp)
          have HGP := Lib.hid gp
          have HSZ : Hid (w.heap.size + 2 ≤ wo.heap.size ∧ wo.heap.size ≤ wi.heap.size) := Lib.hid ⟨HJ.out.2.2.2, KP.out.size⟩
          obtain ⟨ap, cp, rfl⟩ := gp.shape
          obtain ⟨us, hus⟩ : ∃ us, min (Pn.dec lk).2 lk.length = us := ⟨_, rfl⟩
          have husl : us ≤ lk.length := by omega
          rw [hus] at HSU
          rw [hus]
          obtain ⟨P, hP⟩ : ∃ P, (Pn.dec lk).1 = P := ⟨_, rfl⟩
          have HP := Lib.hid hP
          rw [hP] at HGP
          rw [hP]
          have HSP := Lib.hid sp
          clear gp kp sp hus hP
          obtain ⟨⟨c0, c1, c2, c3, c4⟩, f0, f1, f2, f3, f4⟩ := Blk.five HJ8.out.2.2.1
          have hI1 : (us : Int) ≤ (lk.length : Int) := by omega
          have hI2 : (lk.length : Int) ≤ (ck : Int) := by omega
          have hI3 : us ≤ ck := by omega
          have HDX : Hid (∀ ao2 c2, (∀ g off, us < lk.length → ak = some ⟨g, off, none⟩ → ao2 = some ⟨g, off + us, none⟩) → c2 = ck - us → ∃ S3, GV (numE .u8) 1 w8 (.slice ao2 (lk.length - us) c2) (lk.drop us) S3 ∧ ∀ x ∈ S3, x ∈ T2) := Lib.hid (fun ao2 c2 h1 h2 => by rw [h2]; exact HG8.out.dropx us husl ao2 h1)
          have HI9 : Hid (SKK w (w8.setCell ⟨w.heap.size + 1, 0, none⟩ (.slice ap P.length cp)) (.slice ap P.length cp) (.slice ao ld.length cap) (x0 % 65) (x1 % 16 + 1) (lk.drop us) 0 (w8.setCell ⟨w.heap.size + 1, 0, none⟩ (.slice ap P.length cp))) := Lib.hid
            ⟨.slice none 0 0, [], Keeps.refl _ _, HJ8.out.set 0 _, KR.nil _ _ _, by simp⟩
          have HGP9 : Hid (GV opsE 1 (w8.setCell ⟨w.heap.size + 1, 0, none⟩ (.slice ap P.length cp)) (.slice ap P.length cp) P SP) := Lib.hid (HGP.out.keep opsE_kept (T := [w.heap.size + 1]) ((Keeps.refl _ w8).setCell (by simp) _) (fun x hx hm => by simp at hm; have := HSP.out x hx; have := HSZ.out; omega))
          have HK9 : Hid (KR .u16 (w8.setCell ⟨w.heap.size + 1, 0, none⟩ (.slice ap P.length cp)) (.slice ao ld.length cap) 112 ld T) := Lib.hid (HK8.out.keep (T := [w.heap.size + 1]) ((Keeps.refl _ w8).setCell (by simp) _) (fun x hx hm => by simp at hm; have := HT.out x hx; omega))
          go_wp2_with fail
          all_goals
            first
              | (have hz := HDX.out ak 0 (by intros; omega) (by omega)
                 clear HDX HG8 HG
                 generalize ak = ao2 at *)
              | (have hz := HDX.out (Option.map (fun x => x.add us) ak) (ck - us) (by rintro g off _ rfl; simp [Addr.add]) rfl
                 clear HDX HG8 HG
                 generalize Option.map (fun x => x.add us) ak = ao2 at *)
            obtain ⟨S3, hz1, hz2⟩ := hz
            have HZ := Lib.hid (hz1.keep (numE_kept _) (T := [w.heap.size + 1]) ((Keeps.refl _ w8).setCell (p := ⟨w.heap.size + 1, 0, none⟩) (by simp) (.slice ap P.length cp)) (fun x hx hm => by simp at hm; have := T2'.out x (hz2 x hx); have := HSZ.out; omega))
            have HS3 : Hid (∀ x ∈ S3, x ≠ w.heap.size + 1) := Lib.hid (fun x hx e => by have := T2'.out x (hz2 x hx); have := HSZ.out; omega)
            have htl : (lk.drop us).length = lk.length - us := by simp
            clear hz1 hz2 c0 c1 c2 c3 c4 f0 f1 f2 f3 f4
            obtain ⟨tl, htq⟩ : ∃ tl, lk.drop us = tl := ⟨_, rfl⟩
            have HTQ := Lib.hid htq
            rw [htq] at htl HZ HI9
            have HTB : Hid (tl.length ≤ 100000) := Lib.hid (by have := HRB.out; omega)
            rw [← htl]
            rw [← htl] at HZ
            clear htq htl
            obtain ⟨w9, hw9⟩ : ∃ w9, w8.setCell ⟨w.heap.size + 1, 0, none⟩ (.slice ap P.length cp) = w9 := ⟨_, rfl⟩
            have HW9 : Hid (w.heap.size + 2 ≤ w9.heap.size) := Lib.hid (by rw [← hw9]; exact Nat.le_trans HJ8.out.2.2.2 (by simp))
            rw [hw9] at HZ HI9 HGP9 HK9
            rw [hw9]
            clear hw9
            have htm := HZ.out.le
            unfold maxLen at htm
            go_loopw [70] (fun u wr => ∃ k2 : Nat, k2 ≤ tl.length ∧ u = .int .i64 k2 ∧ Hid (SKK w w9 (.slice ap P.length cp) (.slice ao ld.length cap) (x0 % 65) (x1 % 16 + 1) tl k2 wr)) (fun u _ => tl.length - (intOf u).toNat)
            case atStart => exact ⟨0, Nat.zero_le _, rfl, HI9⟩
            case round =>
              obtain ⟨k2, hk2, rfl, HI2⟩ := hrel
              obtain ⟨vk, T3, q1, q2, q3, q4⟩ := HI2.out
              have HQ1 := Lib.hid q1
              have HQ2 := Lib.hid q2
              have HQ4 := Lib.hid q4
              obtain ⟨wj, rfl⟩ : ∃ wj : World, wj = wr := ⟨_, rfl⟩
              obtain ⟨lj, hlj⟩ : ∃ lj, tl.take k2 = lj := ⟨_, rfl⟩
              have HLJ := Lib.hid hlj
              have HLJL : Hid (lj.length = k2) := Lib.hid (by rw [← hlj]; simp; omega)
              rw [hlj] at q3
              have HQ3 := Lib.hid q3
              obtain ⟨aj, cj, rfl⟩ := q3.shape
              obtain ⟨⟨c0, c1, c2, c3, c4⟩, f0, f1, f2, f3, f4⟩ := Blk.five q2.2.2.1
              clear HI9 HI2 hlj q3 q4
              by_cases hlt3 : k2 < tl.length
              · have hzi := HZ.out.keep (numE_kept _) q1 (fun x hx hm => by simp at hm; exact HS3.out x hx hm)
                obtain ⟨g, off, rfl, _, _, hc⟩ := hzi.num hlt3
                have hr := wf8 (hzi.wf _ (List.getElem_mem hlt3))
                obtain ⟨x, hx⟩ : ∃ x, tl[k2] = x := ⟨_, rfl⟩
                have HX : Hid (tl.take (k2 + 1) = lj ++ [x]) := Lib.hid (by rw [List.take_succ_eq_append_getElem hlt3, HLJ.out, hx])
                rw [show tl.getD k2 0 = x by simp [List.getD, hlt3, hx]] at hc
                rw [hx] at hr
                obtain ⟨r0, r1⟩ := hr
                clear q1 q2 hzi hx
                go_wp2_with (at_builtin; go_must (refine wp_appk1 elemInt HQ3.out (by have := HLJL.out; have := HTB.out; omega) ?_))
                intro ao7 cap7 w7 T7 r7 k7 s7
                have HJ7 := Lib.hid (HQ2.out.keep k7 (fun x hx => by have := HQ4.out x hx; have := HW9.out; omega))
                have HT7 : Hid (∀ x ∈ T7, w9.heap.size ≤ x) := Lib.hid (fun x hx => by
                  rcases s7 x hx with h | h
                  · exact HQ4.out x h
                  · have := HQ1.out.size; omega)
                have HK7 := Lib.hid r7
                have HQ7 := Lib.hid (HQ1.out.trans k7 (fun x hx => .inr (HQ4.out x hx)))
                clear r7 k7 s7 c0 c1 c2 c3 c4 f0 f1 f2 f3 f4
                obtain ⟨⟨c0, c1, c2, c3, c4⟩, f0, f1, f2, f3, f4⟩ := Blk.five HJ7.out.2.2.1
                go_wp2_with fail
                go_roundw
                case rel => exact ⟨k2 + 1, by omega, by go_num, Lib.hid ⟨_, T7, HQ7.out.setCell (by simp) _, HJ7.out.set 4 (.slice ao7 (lj.length + 1) cap7), by rw [HX.out]; exact HK7.out.keep (T := [w.heap.size + 1]) ((Keeps.refl _ w7).setCell (by simp) _) (fun x hx hm => by simp at hm; have := HT7.out x hx; have := HW9.out; omega), HT7.out⟩⟩
                case measure => simp [intOf]; omega
              · obtain rfl : k2 = tl.length := by omega
                rw [List.take_length] at HLJ
                have hz0 := q2.2.1
                unfold ZS at hz0
                have hk1 := q2.1
                have e0 := hz0.free 0
                have e1 := hz0.free 1
                have e2 := hz0.free 2
                have e3 := hz0.free 3
                have e4 := hz0.free 4
                have d0 := hz0.cell 0
                have d1 := hz0.cell 1
                have d2 := hz0.cell 2
                have d3 := hz0.cell 3
                have d4 := hz0.cell 4
                simp at d0 d1 d2 d3 d4
                have hzz := ((((hz0.set 0 (.slice ap P.length cp)).set 1 (.int .i64 (x0 % 65))).set 2 (.int .i64 (x1 % 16 + 1))).set 3 (.slice ao ld.length cap)).set 4 (.slice aj lj.length cj)
                simp only [List.set_cons_succ, List.set_cons_zero] at hzz
                have HZZ := Lib.hid hzz
                have HKW := Lib.hid (((((hk1.setCell (p := ⟨w.heap.size, 0, none⟩) (by simp) (.slice ap P.length cp)).setCell (p := ⟨w.heap.size, 1, none⟩) (by simp) (.int .i64 (x0 % 65))).setCell (p := ⟨w.heap.size, 2, none⟩) (by simp) (.int .i64 (x1 % 16 + 1))).setCell (p := ⟨w.heap.size, 3, none⟩) (by simp) (.slice ao ld.length cap)).setCell (p := ⟨w.heap.size, 4, none⟩) (by simp) (.slice aj lj.length cj))
                have HKI := Lib.hid ((((((Keeps.refl [w.heap.size] wj).setCell (p := ⟨w.heap.size, 0, none⟩) (by simp) (.slice ap P.length cp)).setCell (p := ⟨w.heap.size, 1, none⟩) (by simp) (.int .i64 (x0 % 65))).setCell (p := ⟨w.heap.size, 2, none⟩) (by simp) (.int .i64 (x1 % 16 + 1))).setCell (p := ⟨w.heap.size, 3, none⟩) (by simp) (.slice ao ld.length cap)).setCell (p := ⟨w.heap.size, 4, none⟩) (by simp) (.slice aj lj.length cj))
                clear q1 q2 hz0 hk1 hzz
                go_wp2_with fail
                obtain ⟨⟨z0, z1, z2, z3, z4⟩, _⟩ := Blk.five HZZ.out
                refine bodyPost_ret (v := .agg #[.slice ap P.length cp, .int .i64 (x0 % 65), .int .i64 (x1 % 16 + 1), .slice ao ld.length cap, .slice aj lj.length cj]) (by simp [results, Try.results18, go_sem, z0, z1, z2, z3, z4]) rfl ?_
                have HQ5 : Hid (KR .i64 wj (.slice aj lj.length cj) 3 tl T3) := Lib.hid (by rw [HLJ.out]; exact HQ3.out)
                have HPK : Hid (∀ x ∈ tl, 0 ≤ x ∧ x ≤ 255) := Lib.hid (fun x hx => wf8 (HZ.out.wf x hx))
                have HE5 : Hid (Sn.read l = ⟨P, x0 % 65, x1 % 16 + 1, ld, tl⟩) := Lib.hid (sn_read HX0.out HX1.out HRST.out HSU.out HTQ.out HP.out HC.out HLD.out)
                exact sc_fin2 HE5.out HGP9.out HK9.out HQ5.out HQ1.out HKI.out HKW.out (fun x hx => by have := HSP.out x hx; have := HSZ.out; omega) HT.out (fun x hx => Nat.le_trans HW9.out (HQ4.out x hx)) (by rw [← HLD.out]; exact draws_wf HR.out _) HPK.out
end Go.Proofs.Ytopkfhmdgheghaa
