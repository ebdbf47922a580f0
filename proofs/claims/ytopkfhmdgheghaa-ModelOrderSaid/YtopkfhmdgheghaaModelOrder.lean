/-
  The law ModelOrder: its walk.
  Conditions: none.
-/
import Derived.Test.YtopkfhmdgheghaaModelS
import Derived.Laws.StructEq
import Derived.BigQuiet
namespace Go.Proofs.Ytopkfhmdgheghaa
open Go.RowKit Go.ChangeShapes Go.WideShapes Go.Deep
set_option linter.unusedVariables false
set_option linter.unusedSimpArgs false
set_option linter.unnecessarySimpa false

theorem opens_i64s : Opens Try.prog 22 (rowE (numE .i64) 1) 1 := opens_row Try.underlying22 (by kernel_rfl) opens_int64
theorem opens_bools : Opens Try.prog 23 (rowE bitE 1) 1 := opens_row Try.underlying23 (by kernel_rfl) opens_bool
theorem res_fields : Try.prog.underlying 28 = some (.struct (Try.prog.fieldsOf 28)) := by kernel_rfl
theorem res_held : Try.prog.stoodInHeld 28 = false := by kernel_rfl
theorem res_guard : Try.prog.eqGuardType Try.prog.depth 28 = false := by kernel_rfl
theorem res_flds : ∃ f0 f1 f2 f3 f4 : Field, (Try.prog.fieldsOf 28).toList = [f0, f1, f2, f3, f4] ∧ (f0.name ≠ "_" ∧ f1.name ≠ "_" ∧ f2.name ≠ "_" ∧ f3.name ≠ "_" ∧ f4.name ≠ "_") ∧ (f0.type = 3 ∧ f1.type = 3 ∧ f2.type = 2 ∧ f3.type = 4 ∧ f4.type = 3) ∧ f0.offset = 0 ∧ f1.offset = 1 ∧ f2.offset = 2 ∧ f3.offset = 3 ∧ f4.offset = 4 := by
  unfold Program.fieldsOf
  rw [Try.underlying28]
  exact ⟨_, _, _, _, _, rfl, ⟨by decide, by decide, by decide, by decide, by decide⟩, ⟨rfl, rfl, rfl, rfl, rfl⟩, rfl, rfl, rfl, rfl, rfl⟩
theorem run_eql_end (w : World) : (binOp .eql 28 (.agg #[.int .i64 1, .int .i64 (-1), .int .i64 0, .bool false, .int .i64 0]) (.agg #[.int .i64 1, .int .i64 (-1), .int .i64 0, .bool false, .int .i64 0])).run Try.prog w = .ok (.bool true) w := by
  obtain ⟨f0, f1, f2, f3, f4, hf, ⟨n0, n1, n2, n3, n4⟩, ⟨t0, t1, t2, t3, t4⟩, o0, o1, o2, o3, o4⟩ := res_flds
  rw [run_eql_struct, run_equalIn_struct _ _ _ _ _ res_fields res_held, hf]
  have hi := Try.underlying3
  have hi2 := Try.underlying2
  have hb := Try.underlying4
  simp [Op.eqFields, n0, n1, n2, n3, n4, t0, t1, t2, t3, t4, o0, o1, o2, o3, o4, go_sem, hi, hi2, hb]

theorem od_start {w w2 : World} {S : List Nat} {p : Value} {st : Md.St} {N : Nat} (hm : Mo w2 p st N S) (hS : ∀ x ∈ S, w.heap.size ≤ x) (k : Keeps [] w w2) :
    OD w (w2.heap.size + 2) p st N (.slice (some ⟨w2.heap.size, 0, none⟩) 0 0) [] (.slice (some ⟨w2.heap.size + 1, 0, none⟩) 0 0) [] (((w2.alloc (.cells #[] 2)).alloc (.cells #[] 2)).alloc (.cells #[.int .i64 3, .int .i64 1, .int .i64 0, .int .i64 0, .slice none 0 0, .bool false] 33)) := by
  have hs := k.size
  have k1 : Keeps [] (w2.alloc (.cells #[] 2)) ((w2.alloc (.cells #[] 2)).alloc (.cells #[] 2)) := (Keeps.refl [] _).alloc _
  refine ⟨S, [w2.heap.size], [w2.heap.size + 1], fun x => if x < w2.heap.size then 0 else if x = w2.heap.size then 1 else if x = w2.heap.size + 1 then 2 else 3, hm.then ((((Keeps.refl [] w2).alloc _).alloc _).alloc _), (KR.lit .i64 w2 [] 2 _ rfl (by simp)).then (k1.alloc _), (KR.lit .i64 (w2.alloc (.cells #[] 2)) [] 2 _ (by simp) (by simp)).then ((Keeps.refl [] _).alloc _), Blk.fresh _ [.int .i64 3, .int .i64 1, .int .i64 0, .int .i64 0, .slice none 0 0, .bool false] _ _ (by simp), fun x hx => ⟨?_, hS x hx⟩, fun x hx => ?_, fun x hx => ?_, ⟨?_, by omega⟩, ((k.alloc _).alloc _).alloc _⟩
  · have := hm.lt x hx; simp [this]
  · simp at hx; subst hx; simp; omega
  · simp at hx; subst hx; simp; omega
  · first | (simp; done) | (simp; omega)

set_option maxRecDepth 100000 in
set_option maxHeartbeats 6400000 in
theorem modelOrder_walk (w : World) (r : Int) (hr : (Lit.int .u8 r).wf = true) (vi : Value) (li : List Int) (SI : List Nat) (hi : GV (numE .i64) 1 w vi li SI) (vb : Value) (lb : List Bool) (SB : List Nat) (hb : GV bitE 1 w vb lb SB) :
    Calls Try.prog 3 #[.int .u8 r, vi, vb] w fun e w' => e = .returned (.bool true) ∧ Keeps [] w w' := by
  obtain ⟨q0, q1⟩ := wf8 hr
  have HI := Lib.hid hi
  have HB := Lib.hid hb
  have hli := hi.le
  have hlb := hb.le
  unfold maxLen at hli hlb
  obtain ⟨ai, ci, rfl⟩ := hi.shape
  obtain ⟨ab, cb, rfl⟩ := hb.shape
  clear hi hb hr
  go_enter Try.func3, Try.ntmps3
  go_wp2_with fail
  refine (model_alive _).mono ?_
  rintro e w1 ⟨rfl, k1⟩
  have K1 := Lib.hid k1
  clear k1
  cases hq1 : decide (200 < (li.length : Int)) with
  | true =>
    go_wp2_with fail
    go_ret
    exact ⟨rfl, K1.out⟩
  | false =>
    have HL : Hid (li.length ≤ 200) := Lib.hid (by simp at hq1; omega)
    go_wp2_with fail
    refine (model_new _).mono ?_
    rintro e w2 ⟨b, S1, rfl, hm1, k2, s1⟩
    have HM1 := Lib.hid hm1
    have K2 := Lib.hid (K1.out.then k2)
    have HS1 : Hid (∀ x ∈ S1, w.heap.size ≤ x) := Lib.hid (fun x hx => by have := s1 x hx; have := K1.out.size; omega)
    clear hm1 k2 s1 hq1
    go_wp2_with fail
    obtain ⟨n, hn⟩ : ∃ n, 1 + r % 4 = n := ⟨_, rfl⟩
    have hn1 : 1 ≤ n := by omega
    have hn4 : n ≤ 4 := by omega
    rw [hn]
    clear hn q0 q1
    refine (model_fire _ _ Md.new 0 S1 0 (Md.makeOp n) (.slice none 0 0) [] (-1) HM1.out (GV.nil _ _ _) (by omega) (by unfold wf64L; decide)).mono ?_
    rw [Md.lone_make]
    rintro e w3 ⟨rfl, S3, hm3, k3, s3⟩
    have HO0 := Lib.hid (od_start (w := w) hm3 (fun x hx => by
      rcases s3 x hx with h | h
      · exact HS1.out x h
      · have := K2.out.size; omega) (K2.out.trans k3 (fun x hx => .inr (HS1.out x hx))))
    clear hm3 k3 s3
    unfold optV resV
    simp only [Option.getD_some, Option.isSome_some]
    go_wp2_with fail
    go_loopw [46, 9, 10] (fun u vp vg wr => ∃ (k : Nat) (pu go buf : List Int) (N : Nat), k ≤ li.length ∧ u = .int .i64 k ∧ Hid (pu = go ++ buf ∧ (buf.length : Int) ≤ n ∧ pu.length ≤ k ∧ N ≤ 1 + 2 * k ∧ OD w (w3.heap.size + 2) (.pointer (some ⟨b, 0, none⟩)) (Md.lone n buf false) N vp pu vg go wr)) (fun u _ _ _ => li.length - (intOf u).toNat)
    case atStart => exact ⟨0, [], [], [], 0 + 1, Nat.zero_le _, rfl, Lib.hid ⟨rfl, by simp; omega, by simp, by omega, HO0.out⟩⟩
    case round =>
      obtain ⟨k, pu, go, buf, N, hk, rfl, HR⟩ := hrel
      obtain ⟨wo, rfl⟩ : ∃ wo : World, wo = wr := ⟨_, rfl⟩
      have HO := Lib.hid HR.out.2.2.2.2
      obtain ⟨S, hmo, fmo⟩ := HO.out.mo
      have HMO := Lib.hid hmo
      have FMO := Lib.hid fmo
      obtain ⟨TP, htp, _⟩ := HO.out.pput
      obtain ⟨ap, cp, rfl⟩ := htp.shape
      obtain ⟨TG, htg, _⟩ := HO.out.pgot
      obtain ⟨ag, cg, rfl⟩ := htg.shape
      have HPB : Hid (pu.length ≤ 200 ∧ go.length ≤ pu.length ∧ pu.length = go.length + buf.length ∧ N ≤ 1000) := Lib.hid (by
        have h1 := HR.out.1; have h2 := HR.out.2.2.1; have h3 := HL.out; have h4 := HR.out.2.2.2.1
        have h5 : pu.length = go.length + buf.length := by rw [h1, List.length_append]
        omega)
      have hd : (pu.length : Int) - (go.length : Int) = (buf.length : Int) := by have := HPB.out; omega
      have hwr : IntKind.i64.wrap ((pu.length : Int) - (go.length : Int)) = (buf.length : Int) := by have := HPB.out; rw [hd, IntKind.wrap_i64]; omega
      clear hmo fmo htp htg HO0
      by_cases hlt : k < li.length
      · have hv := HI.out.then (numE_kept _) HO.out.keeps
        obtain ⟨g, off, rfl, _, _, hc⟩ := hv.num hlt
        obtain ⟨x, hx⟩ : ∃ x, li.getD k 0 = x := ⟨_, rfl⟩
        rw [hx] at hc
        have HLT := Lib.hid hlt
        clear hv hx
        by_cases hfull : (buf.length : Int) < n
        · have HF := Lib.hid hfull
          go_wp2_with fail
          refine (model_fire _ _ (Md.lone n buf false) N S 0 (Md.sendOp x) (.slice none 0 0) [] (-1) HMO.out (GV.nil _ _ _) (by have := HPB.out; omega) (by unfold wf64L; decide)).mono ?_
          rw [Md.lone_send HF.out]
          rintro e w4 ⟨rfl, hm4⟩
          have HO4 := Lib.hid ((FMO.out _ _ _ hm4).then ((Keeps.refl [] w4).alloc (.cells #[.int .i64 1, .int .i64 (-1), .int .i64 0, .bool true, .int .i64 0] 28)))
          obtain ⟨TP4, htp4, ftp4⟩ := HO4.out.pput
          have HTP4 := Lib.hid htp4
          have FTP4 := Lib.hid ftp4
          clear hm4 hc htp4 ftp4
          unfold optV resV
          simp only [Option.getD_some, Option.isSome_some]
          go_wp2_with (at_builtin; go_must (refine wp_appk1 elemI64 HTP4.out (by have := HPB.out; omega) ?_))
          intro ao7 cap7 w7 T7 r7 k7 s7
          have HO7 := Lib.hid (FTP4.out _ _ _ _ r7 k7 (fun y hy => by have := s7 y hy; simpa using this))
          have HEQ : Hid (pu ++ [x] = go ++ (buf ++ [x])) := Lib.hid (by rw [HR.out.1, List.append_assoc])
          clear r7 k7 s7
          obtain ⟨bA, hbA⟩ : ∃ z, buf ++ [x] = z := ⟨_, rfl⟩
          have HBL : Hid ((bA.length : Int) ≤ n) := Lib.hid (by rw [← hbA]; exact (by have := HF.out; simp; omega))
          have HBA := Lib.hid hbA
          rw [hbA] at HO7 HEQ
          clear hbA
          by_cases hgl : k < lb.length
          · obtain ⟨y, hy⟩ : ∃ y, lb[k]? = some y := ⟨_, List.getElem?_eq_getElem hgl⟩
            obtain ⟨gb, ob, v, _, rfl, _, hgb, hcb, ⟨hcv, _⟩, _⟩ := (HB.out.then bitE_kept HO7.out.keeps).one hy
            obtain rfl : v = .bool y := by simpa using hcv
            have HGL := Lib.hid hgl
            clear hcv hy
            cases y with
            | false =>
              go_wp2_with fail
              go_roundw
              case rel => exact ⟨k + 1, pu ++ [x], go, bA, _, by have := HLT.out; omega, by go_num, Lib.hid ⟨HEQ.out, HBL.out, by have := HR.out.2.2.1; simp; omega, by have := HR.out.2.2.2.1; omega, HO7.out⟩⟩
              case measure => have := HLT.out; simp [intOf]; omega
            | true =>
              obtain ⟨⟨b0, b1, b2, b3, b4, b5⟩, _⟩ := Blk.six HO7.out.box
              obtain ⟨S7, hmo7, fmo7⟩ := HO7.out.mo
              have HMO7 := Lib.hid hmo7
              have FMO7 := Lib.hid fmo7
              clear hmo7 fmo7
              cases bA with
              | nil =>
                exact absurd HBA.out (by simp)
              | cons z bB =>
                have hgt : (go.length : Int) < ((pu.length + 1 : Nat) : Int) := by have h := congrArg List.length HEQ.out; simp at h; omega
                have hgt2 : go.length < pu.length + 1 := by omega
                have hgt3 : (go.length : Int) < (pu.length : Int) + 1 := by omega
                go_wp2_with fail
                refine (model_fire _ _ (Md.lone n (z :: bB) false) _ S7 1 Md.rec1 (.slice none 0 0) [] (-1) HMO7.out (GV.nil _ _ _) (by have := HPB.out; omega) (by unfold wf64L; decide)).mono ?_
                rw [Md.lone_recv]
                rintro e w8 ⟨rfl, hm8⟩
                have HO8 := Lib.hid ((FMO7.out _ _ _ hm8).then ((Keeps.refl [] w8).alloc (.cells #[.int .i64 1, .int .i64 (-1), .int .i64 z, .bool true, .int .i64 0] 28)))
                obtain ⟨TG8, htg8, ftg8⟩ := HO8.out.pgot
                have HTG8 := Lib.hid htg8
                have FTG8 := Lib.hid ftg8
                clear hm8 htg8 ftg8 b0 b1 b2 b3 b4 b5 hcb
                unfold optV resV
                simp only [Option.getD_some, Option.isSome_some]
                go_wp2_with (at_builtin; go_must (refine wp_appk1 elemI64 HTG8.out (by have := HPB.out; omega) ?_))
                intro ao9 cap9 w9 T9 r9 k9 s9
                have HO9 := Lib.hid (FTG8.out _ _ _ _ r9 k9 (fun y hy => by have := s9 y hy; simpa using this))
                have HEQ2 : Hid (pu ++ [x] = (go ++ [z]) ++ bB) := Lib.hid (by rw [HEQ.out]; simp)
                clear r9 k9 s9 hgt hgt2 hgt3
                go_wp2_with fail
                go_roundw
                case rel => exact ⟨k + 1, pu ++ [x], (go ++ [z]), bB, _, by have := HLT.out; omega, by go_num, Lib.hid ⟨HEQ2.out, by have := HBL.out; simp at this; omega, by have := HR.out.2.2.1; simp; omega, by have := HR.out.2.2.2.1; omega, HO9.out⟩⟩
                case measure => have := HLT.out; simp [intOf]; omega
          · have hgl' : ¬ ((k : Int) < (lb.length : Int)) := by omega
            go_wp2_with fail
            go_roundw
            case rel => exact ⟨k + 1, pu ++ [x], go, bA, _, by have := HLT.out; omega, by go_num, Lib.hid ⟨HEQ.out, HBL.out, by have := HR.out.2.2.1; simp; omega, by have := HR.out.2.2.2.1; omega, HO7.out⟩⟩
            case measure => have := HLT.out; simp [intOf]; omega
        · have HF := Lib.hid hfull
          have hfb : decide ((buf.length : Int) < n) = false := decide_eq_false hfull
          clear hfull
          go_wp2_with fail
          refine (model_fire _ _ (Md.lone n buf false) N S 0 (Md.sendOp x) (.slice none 0 0) [] (-1) HMO.out (GV.nil _ _ _) (by have := HPB.out; omega) (by unfold wf64L; decide)).mono ?_
          have hf2 : ¬ ((buf.length : Int) < n) := by have := HF.out; omega
          rw [Md.lone_full (n := n) (g := 0) (buf := buf) (v := x) hf2]
          clear hf2
          rintro e w4 ⟨rfl, hm4⟩
          have HO7 := Lib.hid ((FMO.out _ _ _ hm4).then ((Keeps.refl [] w4).alloc (.cells #[.int .i64 0, .int .i64 0, .int .i64 0, .bool false, .int .i64 0] 28)))
          have HEQ : Hid (pu = go ++ buf) := Lib.hid HR.out.1
          clear hm4 hc
          unfold optV resV Md.noRes
          simp only [Option.getD_none, Option.isSome_none]
          clear hd hn1 hn4
          have hbb : (false != decide ((buf.length : Int) < n)) = false := by rw [hfb]; rfl
          obtain ⟨bA, hbA⟩ : ∃ z, buf = z := ⟨_, rfl⟩
          have HBL : Hid ((bA.length : Int) ≤ n) := Lib.hid (by rw [← hbA]; exact (HR.out.2.1))
          have HBA := Lib.hid hbA
          rw [hbA] at HO7 HEQ
          clear hbA
          by_cases hgl : k < lb.length
          · obtain ⟨y, hy⟩ : ∃ y, lb[k]? = some y := ⟨_, List.getElem?_eq_getElem hgl⟩
            obtain ⟨gb, ob, v, _, rfl, _, hgb, hcb, ⟨hcv, _⟩, _⟩ := (HB.out.then bitE_kept HO7.out.keeps).one hy
            obtain rfl : v = .bool y := by simpa using hcv
            have HGL := Lib.hid hgl
            clear hcv hy
            cases y with
            | false =>
              go_wp2_with fail
              go_roundw
              case rel => exact ⟨k + 1, pu, go, bA, _, by have := HLT.out; omega, by go_num, Lib.hid ⟨HEQ.out, HBL.out, by have := HR.out.2.2.1; omega, by have := HR.out.2.2.2.1; omega, HO7.out⟩⟩
              case measure => have := HLT.out; simp [intOf]; omega
            | true =>
              obtain ⟨⟨b0, b1, b2, b3, b4, b5⟩, _⟩ := Blk.six HO7.out.box
              obtain ⟨S7, hmo7, fmo7⟩ := HO7.out.mo
              have HMO7 := Lib.hid hmo7
              have FMO7 := Lib.hid fmo7
              clear hmo7 fmo7
              cases bA with
              | nil =>
                have hgt : ¬ ((go.length : Int) < (pu.length : Int)) := by have h := congrArg List.length HEQ.out; simp at h; omega
                go_wp2_with fail
                refine (model_fire _ _ (Md.lone n [] false) _ S7 1 Md.rec1 (.slice none 0 0) [] (-1) HMO7.out (GV.nil _ _ _) (by have := HPB.out; omega) (by unfold wf64L; decide)).mono ?_
                rw [Md.lone_dry]
                rintro e w8 ⟨rfl, hm8⟩
                have HO8 := Lib.hid ((FMO7.out _ _ _ hm8).then ((Keeps.refl [] w8).alloc (.cells #[.int .i64 0, .int .i64 0, .int .i64 0, .bool false, .int .i64 0] 28)))
                clear hm8 b0 b1 b2 b3 b4 b5 hcb
                unfold optV resV Md.noRes
                simp only [Option.getD_none, Option.isSome_none]
                go_wp2_with fail
                go_roundw
                case rel => exact ⟨k + 1, pu, go, [], _, by have := HLT.out; omega, by go_num, Lib.hid ⟨HEQ.out, HBL.out, by have := HR.out.2.2.1; omega, by have := HR.out.2.2.2.1; omega, HO8.out⟩⟩
                case measure => have := HLT.out; simp [intOf]; omega
              | cons z bB =>
                have hgt : (go.length : Int) < ((pu.length : Nat) : Int) := by have h := congrArg List.length HEQ.out; simp at h; omega
                have hgt2 : go.length < pu.length := by omega
                have hgt3 : (go.length : Int) < (pu.length : Int) := by omega
                go_wp2_with fail
                refine (model_fire _ _ (Md.lone n (z :: bB) false) _ S7 1 Md.rec1 (.slice none 0 0) [] (-1) HMO7.out (GV.nil _ _ _) (by have := HPB.out; omega) (by unfold wf64L; decide)).mono ?_
                rw [Md.lone_recv]
                rintro e w8 ⟨rfl, hm8⟩
                have HO8 := Lib.hid ((FMO7.out _ _ _ hm8).then ((Keeps.refl [] w8).alloc (.cells #[.int .i64 1, .int .i64 (-1), .int .i64 z, .bool true, .int .i64 0] 28)))
                obtain ⟨TG8, htg8, ftg8⟩ := HO8.out.pgot
                have HTG8 := Lib.hid htg8
                have FTG8 := Lib.hid ftg8
                clear hm8 htg8 ftg8 b0 b1 b2 b3 b4 b5 hcb
                unfold optV resV
                simp only [Option.getD_some, Option.isSome_some]
                go_wp2_with (at_builtin; go_must (refine wp_appk1 elemI64 HTG8.out (by have := HPB.out; omega) ?_))
                intro ao9 cap9 w9 T9 r9 k9 s9
                have HO9 := Lib.hid (FTG8.out _ _ _ _ r9 k9 (fun y hy => by have := s9 y hy; simpa using this))
                have HEQ2 : Hid (pu = (go ++ [z]) ++ bB) := Lib.hid (by rw [HEQ.out]; simp)
                clear r9 k9 s9 hgt hgt2 hgt3
                go_wp2_with fail
                go_roundw
                case rel => exact ⟨k + 1, pu, (go ++ [z]), bB, _, by have := HLT.out; omega, by go_num, Lib.hid ⟨HEQ2.out, by have := HBL.out; simp at this; omega, by have := HR.out.2.2.1; omega, by have := HR.out.2.2.2.1; omega, HO9.out⟩⟩
                case measure => have := HLT.out; simp [intOf]; omega
          · have hgl' : ¬ ((k : Int) < (lb.length : Int)) := by omega
            go_wp2_with fail
            go_roundw
            case rel => exact ⟨k + 1, pu, go, bA, _, by have := HLT.out; omega, by go_num, Lib.hid ⟨HEQ.out, HBL.out, by have := HR.out.2.2.1; omega, by have := HR.out.2.2.2.1; omega, HO7.out⟩⟩
            case measure => have := HLT.out; simp [intOf]; omega
      · obtain rfl : k = li.length := by omega
        clear hlt hk
        go_wp2_with fail
        refine (model_fire _ _ (Md.lone n buf false) N S 0 Md.closeOp (.slice none 0 0) [] (-1) HMO.out (GV.nil _ _ _) (by have := HPB.out; omega) (by unfold wf64L; decide)).mono ?_
        rw [Md.lone_close]
        rintro e w4 ⟨rfl, hm4⟩
        have HO4 := Lib.hid ((FMO.out _ _ _ hm4).then ((Keeps.refl [] w4).alloc (.cells #[.int .i64 1, .int .i64 (-1), .int .i64 0, .bool true, .int .i64 0] 28)))
        have HPU := Lib.hid HR.out.1
        have hbl : buf.length ≤ 2 ^ 63 - 1 := by have := HPB.out; omega
        have hpl : pu.length ≤ 2 ^ 63 - 1 := by have := HPB.out; omega
        clear hm4 HR hn1 hn4
        unfold optV resV
        simp only [Option.getD_some, Option.isSome_some]
        go_wp2_with fail
        go_loopw [133, 10] (fun u vg wr => ∃ (j : Nat) (go2 buf2 : List Int) (N2 : Nat), j ≤ buf.length ∧ u = .int .i64 j ∧ Hid (pu = go2 ++ buf2 ∧ buf2.length = buf.length - j ∧ N2 ≤ 1001 + j ∧ OD w (w3.heap.size + 2) (.pointer (some ⟨b, 0, none⟩)) (Md.lone n buf2 true) N2 (.slice ap pu.length cp) pu vg go2 wr)) (fun u _ _ => buf.length - (intOf u).toNat)
        case atStart => exact ⟨0, go, buf, _, Nat.zero_le _, rfl, Lib.hid ⟨HPU.out, by simp, by have := HPB.out; omega, HO4.out⟩⟩
        case round =>
          obtain ⟨j, go2, buf2, N2, hj, rfl, HR2⟩ := hrel
          obtain ⟨wi, rfl⟩ : ∃ wi : World, wi = wr := ⟨_, rfl⟩
          have HO2 := Lib.hid HR2.out.2.2.2
          obtain ⟨S2, hmo2, fmo2⟩ := HO2.out.mo
          have HMO2 := Lib.hid hmo2
          have FMO2 := Lib.hid fmo2
          obtain ⟨TG2, htg2, _⟩ := HO2.out.pgot
          obtain ⟨ag2, cg2, rfl⟩ := htg2.shape
          have HTG2 := Lib.hid htg2
          obtain ⟨⟨b0, b1, b2, b3, b4, b5⟩, _⟩ := Blk.six HO2.out.box
          clear hmo2 fmo2 htg2 HO4
          by_cases hlt : j < buf.length
          · have HLT := Lib.hid hlt
            cases buf2 with
            | nil => exact absurd HR2.out.2.1 (by simp; omega)
            | cons z bB =>
              have hg2b : Hid (go2.length ≤ 200) := Lib.hid (by have h := congrArg List.length HR2.out.1; have h2 := HPB.out; simp at h; omega)
              go_wp2_with fail
              refine (model_fire _ _ (Md.lone n (z :: bB) true) N2 S2 1 Md.rec1 (.slice none 0 0) [] (-1) HMO2.out (GV.nil _ _ _) (by have := HR2.out.2.2.1; have := HPB.out; omega) (by unfold wf64L; decide)).mono ?_
              rw [Md.lone_recv]
              rintro e w8 ⟨rfl, hm8⟩
              have HO8 := Lib.hid ((FMO2.out _ _ _ hm8).then ((Keeps.refl [] w8).alloc (.cells #[.int .i64 1, .int .i64 (-1), .int .i64 z, .bool true, .int .i64 0] 28)))
              obtain ⟨TG8, htg8, ftg8⟩ := HO8.out.pgot
              have HTG8 := Lib.hid htg8
              have FTG8 := Lib.hid ftg8
              clear hm8 htg8 ftg8 b0 b1 b2 b3 b4 b5
              unfold optV resV
              simp only [Option.getD_some, Option.isSome_some]
              go_wp2_with (at_builtin; go_must (refine wp_appk1 elemI64 HTG8.out (by have := hg2b.out; omega) ?_))
              intro ao9 cap9 w9 T9 r9 k9 s9
              have HO9 := Lib.hid (FTG8.out _ _ _ _ r9 k9 (fun y hy => by have := s9 y hy; simpa using this))
              have HEQ2 : Hid (pu = (go2 ++ [z]) ++ bB) := Lib.hid (by rw [HR2.out.1]; simp)
              have HBB : Hid (bB.length = buf.length - (j + 1)) := Lib.hid (by have := HR2.out.2.1; simp at this; omega)
              clear r9 k9 s9
              go_wp2_with fail
              go_roundw
              case rel => exact ⟨j + 1, go2 ++ [z], bB, _, by have := HLT.out; omega, by go_num, Lib.hid ⟨HEQ2.out, HBB.out, by have := HR2.out.2.2.1; omega, HO9.out⟩⟩
              case measure => have := HLT.out; simp [intOf]; omega
          · obtain rfl : j = buf.length := by omega
            obtain rfl : buf2 = [] := List.eq_nil_of_length_eq_zero (by have := HR2.out.2.1; omega)
            obtain rfl : pu = go2 := by have := HR2.out.1; simpa using this
            obtain ⟨TP2, htp2, _⟩ := HO2.out.pput
            have HTP2 := Lib.hid htp2
            clear htp2 b0 b1 b2 b3 b4 b5 hlt hj
            go_wp2_with fail
            go_loopw [156] (fun u wr => ∃ (i : Nat), i ≤ pu.length ∧ u = .int .i64 i ∧ Hid (Keeps [] wi wr)) (fun u _ => pu.length - (intOf u).toNat)
            case atStart => exact ⟨0, Nat.zero_le _, rfl, Lib.hid (Keeps.refl _ _)⟩
            case round =>
              obtain ⟨i, hi, rfl, HK⟩ := hrel
              obtain ⟨wk, rfl⟩ : ∃ wk : World, wk = wr := ⟨_, rfl⟩
              by_cases hlt : i < pu.length
              · have HLT := Lib.hid hlt
                obtain ⟨x, hx⟩ : ∃ x, pu[i]? = some x := ⟨_, List.getElem?_eq_getElem hlt⟩
                obtain ⟨gp, op, rfl, _, _, hcp, _⟩ := Row.cells (HTP2.out.then HK.out) (by omega)
                obtain ⟨gg, og, rfl, _, _, hcg, _⟩ := Row.cells (HTG2.out.then HK.out) (by omega)
                have e1 : wk.cell? ⟨gp, op + i, none⟩ = some (.int .i64 x) := by rw [hcp i (by simpa using hlt)]; simp [hx]
                have e2 : wk.cell? ⟨gg, og + i, none⟩ = some (.int .i64 x) := by rw [hcg i (by simpa using hlt)]; simp [hx]
                have i0 : (0 : Int) ≤ (i : Int) := by omega
                have i1 : (i : Int) < (pu.length : Int) := by omega
                have hbx : (x != x) = false := by simp
                clear hcp hcg hx
                go_upto_region 40 with fail
                go_quiet (fail)
                go_wp2_with fail
                go_roundw
                case rel => exact ⟨i + 1, by have := HLT.out; omega, by go_num, Lib.hid (HK.out.drewN _)⟩
                case measure => have := HLT.out; simp [intOf]; omega
              · obtain rfl : i = pu.length := by omega
                have HO3 := Lib.hid (HO2.out.then HK.out)
                obtain ⟨S3', hmo3, fmo3⟩ := HO3.out.mo
                have HMO3 := Lib.hid hmo3
                have FMO3 := Lib.hid fmo3
                obtain ⟨⟨b0, b1, b2, b3, b4, b5⟩, _⟩ := Blk.six HO3.out.box
                clear hmo3 fmo3
                go_wp2_with fail
                refine (model_fire _ _ (Md.lone n [] true) N2 S3' 1 Md.rec1 (.slice none 0 0) [] (-1) HMO3.out (GV.nil _ _ _) (by have := HR2.out.2.2.1; have := HPB.out; omega) (by unfold wf64L; decide)).mono ?_
                rw [Md.lone_end]
                rintro e w8 ⟨rfl, hm8⟩
                have HO8 := Lib.hid (FMO3.out _ _ _ hm8)
                have hrn := run_eql_end
                have hgd := res_guard
                clear hm8 b0 b1 b2 b3 b4 b5
                unfold optV resV
                simp only [Option.getD_some, Option.isSome_some]
                go_wp2_with fail
                go_ret
                exact ⟨rfl, HO8.out.keeps.alloc _⟩
end Go.Proofs.Ytopkfhmdgheghaa
