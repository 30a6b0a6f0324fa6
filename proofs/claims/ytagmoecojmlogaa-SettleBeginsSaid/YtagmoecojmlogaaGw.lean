/-
  SettleBegins holds: whatever the arguments, the law answers true, and its arguments read afterwards as they read before.
  No condition.
-/
import Derived.Test.YtagmoecojmlogaaGv
import Derived.Test.YtagmoecojmlogaaRows
namespace Go.Proofs.Ytagmoecojmlogaa
set_option maxRecDepth 20000
set_option linter.unusedSimpArgs false
set_option linter.unusedVariables false
open Go Go.Fw Go.ChangeShapes Go.WideShapes Go.ChangeAt Go.RowKit
theorem Try.own : ownKnob Try.prog.godebug = none := by kernel_rfl
theorem Try.laidOut : laidOutB Try.prog = true := by kernel_rfl
theorem und_3 : Try.prog.underlying 3 = some (.int .i64) := by kernel_rfl
theorem und_22 : Try.prog.underlying 22 = some (.slice 61) := by kernel_rfl
theorem und_23 : Try.prog.underlying 23 = some (.slice 3) := by kernel_rfl
theorem cellsOf_3 : Try.prog.cellsOf 3 = 1 := by kernel_rfl
theorem cellsOf_61 : Try.prog.cellsOf 61 = 3 := by kernel_rfl
section
variable {H : Type} {enc : TypeId × Value → H} {W : World} {sp : Nat → Bool}
theorem three_ints {cs : List Value} (hl : cs.length = 3) (hf : ∀ j, j < 3 → ∃ x : Int, cs[j]? = some (.int .i64 x)) : ∃ u : C3, cs = u.enc := by
  obtain ⟨x0, g0⟩ := hf 0 (by omega)
  obtain ⟨x1, g1⟩ := hf 1 (by omega)
  obtain ⟨x2, g2⟩ := hf 2 (by omega)
  refine ⟨⟨x0, x1, x2⟩, ?_⟩
  match cs, hl with
  | [d0, d1, d2], _ =>
    simp at g0 g1 g2
    subst g0 g1 g2
    rfl
theorem int_cell {n : Nat} {v : Value} {y : DataW H × List MemPlace} (h : DataW.trod enc Try.prog W 0 sp true n 3 [v] = some y) : ∃ x : Int, v = .int .i64 x := by
  obtain ⟨x, e, _⟩ := DataW.trod_int und_3 h
  exact ⟨x, by simpa using e⟩
theorem int_el (n : Nat) (cs : List Value) (y : DataW H × List MemPlace) (h : DataW.trod enc Try.prog W 0 sp true n 3 cs = some y) : ∃ u : Int, True ∧ cs = eK .i64 u := by
  obtain ⟨x, e, _⟩ := DataW.trod_int und_3 h
  exact ⟨x, trivial, e⟩
theorem transfer_el (n : Nat) (cs : List Value) (y : DataW H × List MemPlace) (h : DataW.trod enc Try.prog W 0 sp true n 61 cs = some y) : ∃ u : C3, True ∧ cs = u.enc := by
  obtain ⟨hl, hf⟩ := open_fields (Try.underlying61) (by kernel_rfl) (by kernel_rfl) h
  obtain ⟨u, hu⟩ := three_ints hl (fun j hj => by
    match j, hj with
    | 0, _ => obtain ⟨c, y, n, g, t⟩ := hf 0 _ rfl; obtain ⟨x, rfl⟩ := int_cell t; exact ⟨x, g⟩
    | 1, _ => obtain ⟨c, y, n, g, t⟩ := hf 1 _ rfl; obtain ⟨x, rfl⟩ := int_cell t; exact ⟨x, g⟩
    | 2, _ => obtain ⟨c, y, n, g, t⟩ := hf 2 _ rfl; obtain ⟨x, rfl⟩ := int_cell t; exact ⟨x, g⟩)
  exact ⟨u, trivial, hu⟩
theorem open_settlement {B : Nat} {v : Value} {d : DataW H} {ps : List MemPlace} (hok : Value.okWide Try.prog W .any B 25 v) (h : DataW.Trod enc Try.prog W 0 sp true 25 v d ps) :
    ∃ s : LS, v = .agg s.enc.toArray ∧ SlA (View.of W) C3.enc 3 s.T.a s.T.xs s.T.b s.T.o ∧ SlA (View.of W) (eK .i64) 1 s.V.a s.V.xs s.V.b s.V.o := by
  obtain ⟨cs, rfl, hl, hf⟩ := open_struct (Try.underlying25) (by kernel_rfl) (by kernel_rfl) hok h
  obtain ⟨v0, y0, n0, g0, t0⟩ := hf 0 _ rfl
  obtain ⟨v1, y1, n1, g1, t1⟩ := hf 1 _ rfl
  obtain ⟨v2, y2, n2, g2, t2⟩ := hf 2 _ rfl
  obtain ⟨v3, y3, n3, g3, t3⟩ := hf 3 _ rfl
  obtain ⟨v4, y4, n4, g4, t4⟩ := hf 4 _ rfl
  obtain ⟨v5, y5, n5, g5, t5⟩ := hf 5 _ rfl
  obtain ⟨x0, rfl⟩ := int_cell t0
  obtain ⟨x1, rfl⟩ := int_cell t1
  obtain ⟨x2, rfl⟩ := int_cell t2
  obtain ⟨x3, rfl⟩ := int_cell t3
  obtain ⟨a4, l4, b4, o4, c4, rfl, s4, _⟩ := open_cell_row und_22 cellsOf_61 (by decide) (fun n cs y hy => transfer_el n cs y hy) t4
  obtain ⟨a5, l5, b5, o5, c5, rfl, s5, _⟩ := open_cell_row und_23 cellsOf_3 (by decide) (fun n cs y hy => int_el n cs y hy) t5
  refine ⟨⟨x0, x1, x2, x3, ⟨l4, a4, b4, o4, c4⟩, ⟨l5, a5, b5, o5, c5⟩⟩, ?_, s4, s5⟩
  match cs, hl with
  | [d0, d1, d2, d3, d4, d5], _ =>
    simp at g0 g1 g2 g3 g4 g5
    subst g0 g1 g2 g3 g4 g5
    rfl
end
end Go.Proofs.Ytagmoecojmlogaa
namespace Go.Proofs.Ytagmoecojmlogaa
set_option maxRecDepth 20000
set_option linter.unusedSimpArgs false
set_option linter.unusedVariables false
open Go Go.Fw Go.ChangeShapes Go.WideShapes Go.ChangeAt Go.RowKit
set_option maxRecDepth 100000 in
theorem begins_lifted (os : Os) (started : os.Started) (H : Type) (enc : TypeId × Value → H) :
    ReturnsInHanded {} Try.checked os 5 .any (Rows.settleBeginsSpec.pre6 enc Try.prog Try.f5 Rows.settleBeginsRow.domain false) (Rows.settleBeginsSpec.post enc Try.prog Try.f5 false true false false) := by
  refine returnsInHanded_of_change_sized (C := Try.checked) Try.own started (by kernel_rfl) Try.func5
    (ChangeSpec.witness6 (enc := enc) (C := Try.checked) false ⟨#[], #[.agg #[.int .i64 0, .int .i64 0, .int .i64 0, .int .i64 0, .slice none 0 0, .slice none 0 0]], []⟩ 8 (by kernel_rfl) (by kernel_rfl) (by kernel_rfl) (by kernel_rfl)) ?_
  intro W base args ds gs before hval0 hW _ hz _
  have hval : ∀ (j : Nat) t v, Try.f5.params[j]? = some t → args[j]? = some v → Value.okWide Try.prog W .any base t v := hval0
  refine law_contract (tb := 4) Try.laidOut (by kernel_rfl) (by kernel_rfl) rfl rfl (by kernel_rfl) ?_ W args ds gs before hW ?_
  · intro ds h
    match ds, h with
    | [d0], _ => exact ⟨rfl, rfl, rfl⟩
  · intro p hA0
    have hA : DataW.TrodAll enc Try.prog W 0 (fun _ => true) true Try.f5.params.toList args.toList ds p := hA0
    rw [Try.params5] at hA hval
    obtain ⟨v0, d0, rfl, rfl, h0⟩ := trodAll_one hA
    obtain ⟨s0, rfl, t0, u0⟩ := open_settlement (hval 0 25 v0 rfl rfl) h0
    exact law_begins (View.of W) W (View.le.refl _) s0 t0 u0
theorem begins_holds : Rows.SettleBeginsSaid :=
  OpenClaim.holds_of_wide 5 Try.f5 rfl rfl rfl rfl rfl rfl rfl ⟨rfl, rfl, rfl, rfl, rfl⟩ rfl rfl rfl rfl rfl (by kernel_rfl) Try.func5 (by kernel_rfl)
    (of_decide_eq_true (by kernel_rfl)) (by unfold Func.isWrapper; rw [if_neg (of_decide_eq_false (by kernel_rfl))]; exact ⟨rfl, rfl⟩)
    (fun os started H enc _ => begins_lifted os started H enc)
end Go.Proofs.Ytagmoecojmlogaa
