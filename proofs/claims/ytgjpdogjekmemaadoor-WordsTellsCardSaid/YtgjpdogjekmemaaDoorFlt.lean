/-
  Strings; contracts that ask something of the world (a table that is laid).
  Conditions: none; nothing of the program stands here.
-/
import Derived.Test.YtgjpdogjekmemaaDoorLok
import Derived.Test.YtgjpdogjekmemaaDoorOpn
namespace Go.Proofs.YtgjpdogjekmemaaDoor
open Go.RowKit
set_option linter.unusedVariables false
set_option linter.unusedSimpArgs false
set_option linter.unnecessarySimpa false
namespace Fl
/-- a text in one cell -/
def strV (l : List UInt8) : Value := .string ⟨l.toArray⟩
abbrev sA (l : List UInt8) : A := .v (strV l)
section
variable {P : Program} {c : Cx} {f : Fm} {L : List Res} {T : TypeId} {ps : String} {af : Array Edge} {gd : Option (Nat × Bool)} {t : Nat}
theorem strV_app (l m : List UInt8) : (⟨l.toArray⟩ : ByteArray) ++ ⟨m.toArray⟩ = ⟨(l ++ m).toArray⟩ := by
  apply ByteArray.ext; simp
theorem strV_list (l : List UInt8) : (⟨l.toArray⟩ : ByteArray).toList = l := by
  rw [ByteArray.toList_eq]
/-- two texts, one behind the other -/
theorem Qt.cat {x y : Operand} {X Y : Nat} {l m : List UInt8} (h : evD f x = some (.c (sA l))) (hy : evD f y = some (.c (sA m))) (hs : l.length + m.length ≤ 9223372036854775807) : Qt P c [] ⟨t, .binOp .add X x y Y, T, ps, af, gd⟩ f L (.c (sA (l ++ m))) := ⟨fun a w s => by
  have rx := s.val h
  have ry := s.val hy
  have hS : ¬ (9223372036854775807 : Int) < (l.length : Int) + (m.length : Int) := by omega
  have hM : IntKind.i64.max = 9223372036854775807 := rfl
  refine ⟨strV (l ++ m), by unfold RD RA; exact ⟨rfl, rfl⟩, fun w' k => ?_⟩
  simp only [strV] at rx ry ⊢
  rw [← strV_app]
  simp [execOp, rx, ry, eqGuard_at_string, binOp, Op.stringOp, Sem.run_bind, hM, ByteArray.size, hS]⟩
theorem Qt.strE {x y : Operand} {X Y : Nat} {l m : List UInt8} (h : evD f x = some (.c (sA l))) (hy : evD f y = some (.c (sA m))) : Qt P c [] ⟨t, .binOp .eql X x y Y, T, ps, af, gd⟩ f L (.c (.v (.bool (l == m)))) := ⟨fun a w s => by
  have rx := s.val h
  have ry := s.val hy
  refine ⟨.bool (l == m), by unfold RD RA; exact ⟨rfl, rfl⟩, fun w' k => ?_⟩
  simp only [strV] at rx ry
  simp [execOp, rx, ry, eqGuard_at_string, binOp, Op.stringOp, Sem.run_bind, strV_list]⟩
theorem Qt.strL {x : Operand} {X : Nat} {l : List UInt8} (h : evD f x = some (.c (sA l))) (hu : P.underlying X = some .string) : Qt P c [] ⟨t, .call ⟨.builtin .len, #[x], #[X]⟩, T, ps, af, gd⟩ f L (.c (.v (.int .i64 l.length))) := ⟨fun a w s => by
  have rx := s.val h
  refine ⟨.int .i64 l.length, by unfold RD RA; exact ⟨rfl, rfl⟩, fun w' k => ?_⟩
  simp only [strV] at rx
  simp [execOp, resolve, invoke, builtin, rx, Sem.run_bind, Builtin.len_, run_underlying hu, goInt]; simp [ByteArray.size]⟩
end
/-- a slice literal of constants -/
theorem Ld.litC {P : Program} {c : Cx} {f : Fm} {L : List Res} {T : TypeId} {ps : String} {af : Array Edge} {gd : Option (Nat × Bool)} {t X n : Nat} {parts : Array (Nat × Operand)} (e : Nat) (zs : List Value) (qs : List (Nat × Value)) (he : ∀ a : Act, parts.toList.map (fun p => (p.1, a.eval p.2)) = qs)
    (hr : ∀ w, (Instr.buildSlice X n qs.toArray).run P w = .ok (.slice (some ⟨w.heap.size, 0, none⟩) n n) (w.alloc (.cells zs.toArray e))) (ho : zs.all (·.oneCell') = true) (hn : zs.length = n) (hm : Nat.ble n 1000 = true) (ht : t < c.N) :
    Ld P c ⟨some t, .buildSlice X n parts, T, ps, af, gd⟩ f L [] (fun b : Nat => (t, .c (.v (.slice (some ⟨b, 0, none⟩) n n))) :: f) (fun b => .row (.slice (some ⟨b, 0, none⟩) n n) e 1 (zs.map fun z => [.v z]) :: L) := ⟨fun a w s K Q hK => by
  have hk : Keeps [] w (w.alloc (.cells zs.toArray e)) := (Keeps.refl [] w).alloc _
  have hm' := Nat.le_of_ble_eq_true hm
  subst hn
  have hrun : (execOp a.eval ⟨some t, .buildSlice X zs.length parts, T, ps, af, gd⟩).run P w = .ok (.value (.slice (some ⟨w.heap.size, 0, none⟩) zs.length zs.length)) (w.alloc (.cells zs.toArray e)) := by
    have e1 := hr w
    have e2 : parts.map (fun p => (p.1, a.eval p.2)) = qs.toArray := by
      rw [← he a]
      apply Array.ext'
      simp
    rw [← e2] at e1
    simp only [execOp, Sem.run_bind, e1, Result.andThen_ok, Sem.run_pure]
  unfold Oper.wp
  rw [hrun]
  have hf : ∀ y ∈ (Res.row (.slice (some ⟨w.heap.size, 0, none⟩) zs.length zs.length) e 1 (zs.map fun z => [.v z])).foot, w.heap.size ≤ y := by simp [Res.foot, vfoot]
  refine hK w.heap.size _ _ hk (s.new ht hk hf ⟨zs, ?_, ?_⟩ (by unfold RD RA; exact ⟨rfl, rfl⟩)) (foots_new hf)
  · have := Row.lit w zs e 1 zs.length (by simp) (by simp [maxLen]; omega)
    simpa [vfoot] using this
  · have key : ∀ (ok : Nat → Prop) (w : World) (l : List Value), l.all (·.oneCell') = true → RX ok w 1 (l.map fun z => [A.v z]) l := by
      intro ok w l
      induction l with
      | nil => intro _; rfl
      | cons z l ih =>
        intro h
        simp only [List.all_cons, Bool.and_eq_true] at h
        exact ⟨[z], l, rfl, rfl, RC.cons (RA.w h.1) RC.nil, ih h.2⟩
    exact key _ _ zs ho⟩
/-! ### what is asked of the world -/
structure ConW (H : World → Prop) (P : Program) (F : FuncId) (ds : List D) (L : List Res) {ι : Type} (post : ι → D × List Res) : Prop where
  go : ∀ (ok : Nat → Prop) (e : World) (xs : List Value), H e → RDs ok e ds xs → (∀ r ∈ L, r.holds ok e) → Apart L → (∀ x ∈ foots L, ¬ ok x) → Calls P F xs.toArray e (SomeR ok e L post)
abbrev PureW (H : World → Prop) (P : Program) (F : FuncId) (ds : List D) (d : D) : Prop := ConW H P F ds [] (fun _ : Unit => (d, []))
section
variable {P : Program} {F : FuncId} {ds : List D} {L : List Res} {ι : Type} {post : ι → D × List Res} {fn : Func} {body : Code} {N : Nat}
theorem ConW.intro {H : World → Prop} (hf : P.funcs[F]? = some fn) (hb : fn.body = some body) (hN : fn.ntmps = N) (hn : Nat.ble ds.length N = true)
    (h : ∀ ok e, H e → J P (cx F ok e L post N) [.code body] (frm0 0 ds) L) : ConW H P F ds L post := ⟨fun ok e xs hH hd hr ha ho cs => by
  have hlen := hd.len
  have hn' : ds.length ≤ N := Nat.le_of_ble_eq_true hn
  let b : Frame := { (default : Frame) with fn := F, kind := .normal }
  have henter : Frame.enter P F xs.toArray .normal = b.at { tmps := xs.toArray ++ Array.replicate (fn.ntmps - xs.toArray.size) undef, defers := [] } [.code body] := by
    simp [Frame.enter, Frame.at, hf, hb, b]
  have m : Mon ok (okk (cx F ok e L post N) L) e e := ⟨Nat.le_refl _, fun g _ hg => ⟨⟨.inl hg, fun hx => ho g hx hg⟩, rfl⟩⟩
  have hst : St (cx F ok e L post N) (frm0 0 ds) L { tmps := xs.toArray ++ Array.replicate (fn.ntmps - xs.toArray.size) undef, defers := [] } e := by
    refine ⟨Keeps.refl _ _, by simp [cx]; omega, rfl, fun r hr' => (hr r hr').mon (Keeps.refl [] e) m (by simp), fun x hx => .inl hx, ha, fun t d ht => ?_⟩
    obtain ⟨_, h2⟩ := look_frm0 ds 0 t d ht
    rw [Nat.sub_zero] at h2
    obtain ⟨x, hx, hx2⟩ := hd.get t h2
    have hlt := (List.getElem?_eq_some_iff.1 hx).1
    have : (xs.toArray ++ Array.replicate (fn.ntmps - xs.toArray.size) undef).getD t undef = x := by
      rw [Array.getD_eq_getD_getElem?, Array.getElem?_append_left (by simpa using hlt)]
      simp [hx]
    rw [this]
    exact RD.mon m d _ hx2
  obtain ⟨en, w', fr, h1, h2, h3, h4⟩ := (h ok e hH).go _ e hst b cs rfl rfl
  exact ⟨en, w', fr, h1, by rw [henter]; exact h2, h3, h4⟩⟩
end
section
variable {P : Program} {c : Cx} {f : Fm} {L : List Res} {T : TypeId} {ps : String} {af : Array Edge} {gd : Option (Nat × Bool)} {t : Nat} {X : Nat}
theorem Ld.callW {H : World → Prop} {F : FuncId} {args : List Operand} {tys : Array TypeId} {ds0 ds : List D} {Ll Lr : List Res} {ι : Type} {post : ι → D × List Res} [i : TyC P F] (hH : ∀ w, Keeps c.lent c.e w → H w) (hC : ConW H P F ds Ll post) (ht : t < c.N) (h : evDs f args = some ds0) (hle : LeDs ds0 ds) (hL : L = Ll ++ Lr) :
    Ld P c ⟨some t, .call ⟨.value (.func F), args.toArray, tys⟩, T, ps, af, gd⟩ f L (foots Ll) (fun i => (t, (post i).1) :: f) (fun i => (post i).2 ++ Lr) := ⟨fun a w s K Q hK => by
  have hev := hle.rep (s.evs h)
  have hop : (execOp a.eval ⟨some t, .call ⟨.value (.func F), args.toArray, tys⟩, T, ps, af, gd⟩).run P w = .ok (.enter F (args.map a.eval).toArray) w := by
    simp [execOp, resolve, Deferred.ofValue, invoke, Act.eval, Sem.run_bind, run_enter i.h]
  unfold Oper.wp
  rw [hop]
  have hap := List.pairwise_append.1 (show List.Pairwise _ (Ll ++ Lr) from hL ▸ s.ap)
  have hinl : ∀ r ∈ Ll, r ∈ L := fun r hr => hL ▸ List.mem_append_left Lr hr
  have hinr : ∀ r ∈ Lr, r ∈ L := fun r hr => hL ▸ List.mem_append_right Ll hr
  have hfl : ∀ x, x ∈ foots Ll → x ∈ foots L := fun x hx => by rw [hL, foots_app]; exact .inl hx
  have hfr : ∀ x, x ∈ foots Lr → x ∈ foots L := fun x hx => by rw [hL, foots_app]; exact .inr hx
  have hlr : ∀ x, x ∈ foots Ll → x ∉ foots Lr := fun x hx hx' => by
    obtain ⟨q, hq, h1⟩ := mem_foots.1 hx
    obtain ⟨r, hr, h2⟩ := mem_foots.1 hx'
    exact hap.2.2 q hq r hr x h1 h2
  refine Calls.mono (hC.go (okk c L) w (args.map a.eval) (hH w s.kp) hev (fun r hr => s.res r (hinl r hr)) hap.1 (fun x hx ho => ho.2 (hfl x hx))) ?_
  rintro en w' ⟨i, x, rfl, kp, g1, g2, g3, g4⟩
  have hok : ∀ g, g < w'.heap.size → okr (okk c L) w Ll (post i).2 g → okk c ((post i).2 ++ Lr) g := fun g _ hg => by
    obtain ⟨hg, hn⟩ := hg
    rcases hg with hg | hg | hg
    · exact ⟨hg.1, fun hx => by rcases (foots_app _ _ _).1 hx with hx | hx; exact hn hx; exact hg.2 (hfr g hx)⟩
    · exact ⟨.inr (s.frm g (hfl g hg)), fun hx => by rcases (foots_app _ _ _).1 hx with hx | hx; exact hn hx; exact hlr g hg hx⟩
    · exact ⟨.inr (.inr (Nat.le_trans s.kp.size hg)), fun hx => by
        rcases (foots_app _ _ _).1 hx with hx | hx
        · exact hn hx
        · have := s.lt g (hfr g hx); omega⟩
  have m1 : Mon (okr (okk c L) w Ll (post i).2) (okk c ((post i).2 ++ Lr)) w' w' := ⟨Nat.le_refl _, fun g hg ho => ⟨hok g hg ho, rfl⟩⟩
  have hpl : ∀ y, y ∈ foots (post i).2 → y ∈ foots Ll ∨ w.heap.size ≤ y := g1
  have m2 : Mon (okk c L) (okk c ((post i).2 ++ Lr)) w w' := Mon.of_keeps kp fun g hg ho => ⟨⟨ho.1, fun hx => by
    rcases (foots_app _ _ _).1 hx with hx | hx
    · rcases hpl g hx with h | h
      · exact ho.2 (hfl g h)
      · omega
    · exact ho.2 (hfr g hx)⟩, fun hx => ho.2 (hfl g hx)⟩
  refine hK i _ _ kp (s.put ht (RD.mon m1 _ _ g4) (s.kp.trans kp (fun x hx => s.frm x (hfl x hx))) ?_ ?_ ?_ m2) (fun y hy => by
    rcases (foots_app _ _ _).1 hy with hy | hy
    · rcases hpl y hy with h | h
      · exact .inl (hfl y h)
      · exact .inr h
    · exact .inl (hfr y hy))
  · intro q hq
    rcases List.mem_append.1 hq with hq | hq
    · exact (g3 q hq).mon (Keeps.refl [] w') m1 (by simp)
    · exact (s.res q (hinr q hq)).mon kp m2 (fun x hx hx' => hlr x hx' (mem_foots.2 ⟨q, hq, hx⟩))
  · intro x hx
    rcases (foots_app _ _ _).1 hx with hx | hx
    · rcases hpl x hx with h | h
      · exact s.frm x (hfl x h)
      · exact .inr (Nat.le_trans s.kp.size h)
    · exact s.frm x (hfr x hx)
  · refine List.pairwise_append.2 ⟨g2, hap.2.1, fun q hq r hr x hx hx' => ?_⟩
    have hxr : x ∈ foots Lr := mem_foots.2 ⟨r, hr, hx'⟩
    rcases hpl x (mem_foots.2 ⟨q, hq, hx⟩) with h | h
    · exact hlr x h hxr
    · have := s.lt x (hfr x hxr); omega⟩
theorem Ld.pureW {H : World → Prop} {F : FuncId} {args : List Operand} {tys : Array TypeId} {ds0 ds : List D} {d : D} [i : TyC P F] (hH : ∀ w, Keeps c.lent c.e w → H w) (hC : PureW H P F ds d) (ht : t < c.N) (h : evDs f args = some ds0) (hle : LeDs ds0 ds) :
    Ld P c ⟨some t, .call ⟨.value (.func F), args.toArray, tys⟩, T, ps, af, gd⟩ f L [] (fun _ : Unit => (t, d) :: f) (fun _ => L) := Ld.callW hH hC ht h hle (Ll := []) (Lr := L) rfl
theorem PureW.plain {H : World → Prop} {F : FuncId} {ds : List D} {d : D} (h : ∀ ok e xs, H e → RDs ok e ds xs → Calls P F xs.toArray e fun en w' => ∃ x, en = .returned x ∧ Keeps [] e w' ∧ RD (fun g => ok g ∨ e.heap.size ≤ g) w' d x) : PureW H P F ds d := ⟨fun ok e xs hH hd _ _ _ => by
  refine Calls.mono (h ok e xs hH hd) ?_
  rintro en w' ⟨x, rfl, kp, hx⟩
  refine ⟨(), x, rfl, by simpa [foots] using kp, by simp [foots], List.Pairwise.nil, by simp, ?_⟩
  have : okr ok e [] [] = fun g => ok g ∨ e.heap.size ≤ g := by
    funext g; unfold okr; simp [foots]
  rw [this]; exact hx⟩
end
end Fl
end Go.Proofs.YtgjpdogjekmemaaDoor
