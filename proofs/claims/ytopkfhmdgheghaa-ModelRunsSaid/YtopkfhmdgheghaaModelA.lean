/-
  modelAlive of handofflaw20: its contract.
  Conditions: none.
-/
import Derived.Test.YtopkfhmdgheghaaModelQ
import Derived.Test.YtopkfhmdgheghaaModelK
namespace Go.Proofs.Ytopkfhmdgheghaa
open Go.RowKit
set_option linter.unusedVariables false
set_option linter.unusedSimpArgs false
set_option linter.unnecessarySimpa false

namespace Md
def one : St := ⟨[⟨0, [], false⟩], fun _ => none⟩
def rec1 : Pn.Op := ⟨3, 1, 0, 0, [], false⟩
def send1 : Pn.Op := ⟨2, 1, 0, 4, [], false⟩
theorem fire_make (i : Int) : fire new 5 ⟨1, 0, 0, 0, [], false⟩ i = (⟨[⟨0, [], false⟩], drops (fun _ => none) 5⟩, some ⟨1, -1, 0, true, 1⟩) := by
  unfold fire fires makes new; rfl
theorem drops_none (g : Int) : drops (fun _ => none) g = fun _ => none := by funext c; unfold drops; split <;> rfl
theorem any_recv (o : Pn.Op) (p : Int → Sd → Bool) (h : o.cases = []) (s : Sd) (hs : side o (-1) = some s) : any o p = p (-1) s := by
  unfold any
  rw [h]
  show (false || (match side o (((0 : Nat) : Int) - 1) with | some s => p (((0 : Nat) : Int) - 1) s | none => false)) = _
  rw [show (((0 : Nat) : Int) - 1) = -1 by rfl, hs]; rfl
theorem another_empty (l : List Ch) (g ch : Int) (b : Bool) : another ⟨l, fun _ => none⟩ g ch b = false :=
  another_false (fun x o h _ => by cases h)
theorem may_recv1 : may one 0 ⟨1, false, 0⟩ = false := by
  have := another_empty [⟨0, [], false⟩] 0 1 true
  unfold may one chan
  simp [this]
theorem wait_one : wait one 0 rec1 = (⟨[⟨0, [], false⟩], fun c => if c = 0 then some rec1 else none⟩, true) := by
  have h1 : any rec1 (fun _ s => (chan one.chans s.ch).isSome) = true := by rw [any_recv rec1 _ rfl ⟨1, false, 0⟩ rfl]; rfl
  have h2 : anyMay one 0 rec1 = false := by unfold anyMay; rw [any_recv rec1 _ rfl ⟨1, false, 0⟩ rfl]; exact may_recv1
  unfold wait
  rw [if_pos ⟨rfl, h1, rfl, h2⟩]
  rfl
def two : St := ⟨[⟨0, [], false⟩], fun c => if c = 0 then some rec1 else none⟩
theorem may_send1 : mayAt two 1 send1 (-1) = true := by
  have h : another two 1 1 false = true := another_true (h := 0) (o := rec1) rfl (by decide) (by rw [any_recv rec1 _ rfl ⟨1, false, 0⟩ rfl]; rfl)
  unfold mayAt
  rw [show side send1 (-1) = some ⟨1, true, 4⟩ from rfl]
  simp only
  unfold may
  simp only
  rw [show chan two.chans 1 = some ⟨0, [], false⟩ from rfl]
  simp [h]
theorem may_send0 : mayAt two 0 send1 (-1) = false := by
  have h : another two 0 1 false = false := another_false (fun x o h hx => by
    unfold two at h
    simp only at h
    split at h
    · rename_i e; exact absurd e hx
    · cases h)
  unfold mayAt
  rw [show side send1 (-1) = some ⟨1, true, 4⟩ from rfl]
  simp only
  unfold may
  simp only
  rw [show chan two.chans 1 = some ⟨0, [], false⟩ from rfl]
  simp [h]
end Md

set_option maxRecDepth 100000 in
set_option maxHeartbeats 1600000 in
theorem model_alive (w : World) : Calls Try.prog 9 #[] w fun e w' => e = .returned (.bool true) ∧ Keeps [] w w' := by
  go_enter Try.func9, Try.ntmps9
  go_wp2_with fail
  refine (model_new _).mono ?_
  rintro e w1 ⟨b, S1, rfl, hm1, k1, s1⟩
  have HM1 := Lib.hid hm1
  have K1 := Lib.hid k1
  have S1' := Lib.hid s1
  clear hm1 k1 s1
  go_wp2_with fail
  refine (model_fire _ _ Md.new 0 S1 5 ⟨1, 0, 0, 0, [], false⟩ _ [] (-1) HM1.out (GV.nil _ _ _) (by omega) (by unfold wf64L; decide)).mono ?_
  rw [Md.fire_make, Md.drops_none]
  rintro e w2 ⟨rfl, S2, hm2, k2, s2⟩
  have HM2 := Lib.hid hm2
  have K2 : Hid (Keeps [] w w2) := Lib.hid (K1.out.trans k2 (fun x hx => .inr (S1'.out x hx)))
  have S2' : Hid (∀ x ∈ S2, w.heap.size ≤ x) := Lib.hid (fun x hx => by
    rcases s2 x hx with h | h
    · exact S1'.out x h
    · have := K1.out.size; omega)
  clear hm2 k2 s2
  unfold optV resV
  simp only [Option.getD_some, Option.isSome_some]
  go_wp2_with fail
  refine (model_wait _ _ Md.one (0 + 1) S2 0 Md.rec1 (.slice none 0 0) [] (HM2.out.then ((Keeps.refl [] w2).alloc _)) (GV.nil _ _ _) (by omega) (by unfold wf64L; decide) (by decide)).mono ?_
  rw [Md.wait_one]
  rintro e w3 ⟨rfl, S3, hm3, k3, s3⟩
  have HM3 : Hid (Mo w3 (.pointer (some ⟨b, 0, none⟩)) Md.two (0 + 1 + 1) S3) := Lib.hid hm3
  have K3 : Hid (Keeps [] w w3) := Lib.hid ((K2.out.alloc _).trans k3 (fun x hx => .inr (S2'.out x hx)))
  have hrc : w3.cell? ⟨w2.heap.size, 4, none⟩ = some (.int .i64 1) := k3.cell (w := w2.alloc (.cells #[.int .i64 1, .int .i64 (-1), .int .i64 0, .bool true, .int .i64 1] 28)) ((Blk.fresh w2 [.int .i64 1, .int .i64 (-1), .int .i64 0, .bool true, .int .i64 1] _ _ rfl).cell 4) (fun hm => by have := HM2.out.lt _ hm; simp at this)
  have A1 : ∀ x : Obj, (w3.alloc x).cell? ⟨w2.heap.size, 4, none⟩ = some (.int .i64 1) := fun x => ((Keeps.refl [] w3).alloc x).cell hrc (by simp)
  clear hm3 k3 s3 hrc
  dsimp only
  go_wp2_with fail
  refine (model_May _ _ Md.two _ S3 1 Md.send1 (.slice none 0 0) [] (-1) (HM3.out.then ((Keeps.refl [] w3).alloc _)) (GV.nil _ _ _)).mono ?_
  rw [Md.may_send1]
  rintro e w4 ⟨rfl, k4⟩
  have K4 := Lib.hid (((Keeps.refl [] w3).alloc (.cells #[.int .i64 2, .int .i64 1, .int .i64 0, .int .i64 4, .slice none 0 0, .bool false] 33)).then k4)
  have hb4 := (Blk.fresh w3 [.int .i64 2, .int .i64 1, .int .i64 0, .int .i64 4, .slice none 0 0, .bool false] 33 _ rfl).keep k4 (by simp)
  obtain ⟨⟨b0, b1, b2, b3, b4, b5⟩, _⟩ := Blk.six hb4
  clear k4 hb4 A1
  go_wp2_with fail
  refine (model_May _ _ Md.two _ S3 0 Md.send1 (.slice none 0 0) [] (-1) (HM3.out.then K4.out) (GV.nil _ _ _)).mono ?_
  rw [Md.may_send0]
  rintro e w5 ⟨rfl, k5⟩
  have K5 := Lib.hid (K4.out.then k5)
  clear k5 b0 b1 b2 b3 b4 b5
  go_wp2_with fail
  go_ret
  exact ⟨rfl, K3.out.then K5.out⟩
end Go.Proofs.Ytopkfhmdgheghaa
