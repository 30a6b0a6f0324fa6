/-
  SettleAgrees holds: whatever the arguments, the law answers true, and its arguments read afterwards as they read before.
  No condition.
-/
import Derived.Test.YtagmoecojmlogaaSv
import Derived.Test.YtagmoecojmlogaaRows
namespace Go.Proofs.Ytagmoecojmlogaa
set_option maxRecDepth 20000
set_option linter.unusedSimpArgs false
set_option linter.unusedVariables false
open Go Go.Fw Go.ChangeShapes Go.WideShapes Go.ChangeAt Go.RowKit
theorem Try.own : ownKnob Try.prog.godebug = none := by kernel_rfl
theorem Try.laidOut : laidOutB Try.prog = true := by kernel_rfl
theorem und_3 : Try.prog.underlying 3 = some (.int .i64) := by kernel_rfl
theorem und_5 : Try.prog.underlying 5 = some (.int .u8) := by kernel_rfl
theorem und_22 : Try.prog.underlying 22 = some (.slice 61) := by kernel_rfl
theorem cellsOf_61 : Try.prog.cellsOf 61 = 3 := by kernel_rfl
theorem wf_u8 {x : Int} (h : (Lit.int .u8 x).wf = true) : 0 ≤ x ∧ x ≤ 255 := by have := wf_fit h; simpa [lowK, highK] using this
section
variable {H : Type} {enc : TypeId × Value → H} {W : World} {sp : Nat → Bool}
theorem three_ints {cs : List Value} (hl : cs.length = 3) (hf : ∀ j, j < 3 → ∃ x : Int, cs[j]? = some (.int .i64 x)) : ∃ u : C3, cs = u.enc := by
  obtain ⟨x0, g0⟩ := hf 0 (by omega)
  obtain ⟨x1, g1⟩ := hf 1 (by omega)
  obtain ⟨x2, g2⟩ := hf 2 (by omega)
  refine ⟨⟨x0, x1, x2⟩, ?_⟩
  match cs, hl with
  | [d0, d1, d2], _ =>
    simp at g0 g1 g2
    subst g0 g1 g2
    rfl
theorem int_cell {n : Nat} {v : Value} {y : DataW H × List MemPlace} (h : DataW.trod enc Try.prog W 0 sp true n 3 [v] = some y) : ∃ x : Int, v = .int .i64 x := by
  obtain ⟨x, e, _⟩ := DataW.trod_int und_3 h
  exact ⟨x, by simpa using e⟩
theorem transfer_el (n : Nat) (cs : List Value) (y : DataW H × List MemPlace) (h : DataW.trod enc Try.prog W 0 sp true n 61 cs = some y) : ∃ u : C3, True ∧ cs = u.enc := by
  obtain ⟨hl, hf⟩ := open_fields (Try.underlying61) (by kernel_rfl) (by kernel_rfl) h
  obtain ⟨u, hu⟩ := three_ints hl (fun j hj => by
    match j, hj with
    | 0, _ => obtain ⟨c, y, n, g, t⟩ := hf 0 _ rfl; obtain ⟨x, rfl⟩ := int_cell t; exact ⟨x, g⟩
    | 1, _ => obtain ⟨c, y, n, g, t⟩ := hf 1 _ rfl; obtain ⟨x, rfl⟩ := int_cell t; exact ⟨x, g⟩
    | 2, _ => obtain ⟨c, y, n, g, t⟩ := hf 2 _ rfl; obtain ⟨x, rfl⟩ := int_cell t; exact ⟨x, g⟩)
  exact ⟨u, trivial, hu⟩
end
end Go.Proofs.Ytagmoecojmlogaa
namespace Go.Proofs.Ytagmoecojmlogaa
set_option maxRecDepth 20000
set_option linter.unusedSimpArgs false
set_option linter.unusedVariables false
open Go Go.Fw Go.ChangeShapes Go.WideShapes Go.ChangeAt Go.RowKit
theorem und_52 : Try.prog.underlying 52 = some (.slice 87) := by kernel_rfl
theorem und_85 : Try.prog.underlying 85 = some (.int .u16) := by kernel_rfl
theorem cellsOf_87 : Try.prog.cellsOf 87 = 2 := by kernel_rfl
theorem wf_u16 {x : Int} (h : (Lit.int .u16 x).wf = true) : 0 ≤ x ∧ x ≤ 65535 := by have := wf_fit h; simpa [lowK, highK] using this
theorem trodAll_five {H : Type} {enc : TypeId × Value → H} {P : Program} {w : World} {base : Nat} {spare : Nat → Bool} {held : Bool} {t0 t1 t2 t3 t4 : TypeId} {args : Array Value} {ds : List (DataW H)} {ps : List MemPlace} (h : DataW.TrodAll enc P w base spare held [t0, t1, t2, t3, t4] args.toList ds ps) :
    ∃ v0 v1 v2 v3 v4 d0 d1 d2 d3 d4 p0 p1 p2 p3 p4, args = #[v0, v1, v2, v3, v4] ∧ ds = [d0, d1, d2, d3, d4] ∧ ps = p0 ++ p1 ++ p2 ++ p3 ++ p4 ∧ DataW.Trod enc P w base spare held t0 v0 d0 p0 ∧ DataW.Trod enc P w base spare held t1 v1 d1 p1 ∧ DataW.Trod enc P w base spare held t2 v2 d2 p2 ∧ DataW.Trod enc P w base spare held t3 v3 d3 p3 ∧ DataW.Trod enc P w base spare held t4 v4 d4 p4 := by
  obtain ⟨v0, vs0, d0, ds0, p0, q0, hargs, rfl, rfl, hd0, hr0⟩ := trodAll_cons h
  obtain ⟨v1, vs1, d1, ds1, p1, q1, rfl, rfl, rfl, hd1, hr1⟩ := trodAll_cons hr0
  obtain ⟨v2, vs2, d2, ds2, p2, q2, rfl, rfl, rfl, hd2, hr2⟩ := trodAll_cons hr1
  obtain ⟨v3, vs3, d3, ds3, p3, q3, rfl, rfl, rfl, hd3, hr3⟩ := trodAll_cons hr2
  obtain ⟨v4, vs4, d4, ds4, p4, q4, rfl, rfl, rfl, hd4, hr4⟩ := trodAll_cons hr3
  obtain ⟨rfl, rfl, rfl⟩ := trodAll_nil hr4
  exact ⟨v0, v1, v2, v3, v4, d0, d1, d2, d3, d4, p0, p1, p2, p3, p4, by cases args; simp_all, rfl, by simp, hd0, hd1, hd2, hd3, hd4⟩
section
variable {H : Type} {enc : TypeId × Value → H} {W : World} {sp : Nat → Bool}
theorem event_el (n : Nat) (cs : List Value) (y : DataW H × List MemPlace) (h : DataW.trod enc Try.prog W 0 sp true n 87 cs = some y) : ∃ u : EV, (u.k ≤ 255 ∧ u.w ≤ 65535) ∧ cs = u.enc := by
  obtain ⟨hl, hf⟩ := open_fields (Try.underlying87) (by kernel_rfl) (by kernel_rfl) h
  obtain ⟨v0, y0, n0, g0, t0⟩ := hf 0 _ rfl
  obtain ⟨v1, y1, n1, g1, t1⟩ := hf 1 _ rfl
  obtain ⟨x0, w0, e0⟩ := int_elK und_5 n0 _ y0 t0
  obtain ⟨x1, w1, e1⟩ := int_elK und_85 n1 _ y1 t1
  have w0 := wf_u8 w0
  have w1 := wf_u16 w1
  obtain ⟨k, rfl⟩ := Int.eq_ofNat_of_zero_le w0.1
  obtain ⟨w, rfl⟩ := Int.eq_ofNat_of_zero_le w1.1
  refine ⟨⟨k, w⟩, by dsimp only; omega, ?_⟩
  match cs, hl with
  | [d0, d1], _ =>
    simp at g0 g1
    subst g0 g1
    injection e0 with e0 _
    injection e1 with e1 _
    rw [e0, e1]
theorem open_events {B : Nat} {v : Value} {d : DataW H} {ps : List MemPlace} (hok : Value.okWide Try.prog W .any B 52 v) (h : DataW.Trod enc Try.prog W 0 sp true 52 v d ps) :
    ∃ (a : Option Addr) (l : List EV) (b o c : Nat), v = .slice a l.length c ∧ SlA (View.of W) EV.enc 2 a l b o ∧ ∀ e ∈ l, e.k ≤ 255 ∧ e.w ≤ 65535 := by
  obtain ⟨a, l, b, o, c, h1, h2, h3, _⟩ := open_row und_52 cellsOf_87 (by decide) (fun n cs y hy => event_el n cs y hy) hok h
  refine ⟨a, l, b, o, c, h1, h2, fun e he => ?_⟩
  obtain ⟨i, hi, rfl⟩ := List.mem_iff_getElem.1 he
  exact h3 i hi
theorem open_transfers {B : Nat} {v : Value} {d : DataW H} {ps : List MemPlace} (hok : Value.okWide Try.prog W .any B 22 v) (h : DataW.Trod enc Try.prog W 0 sp true 22 v d ps) :
    ∃ (a : Option Addr) (l : List C3) (b o c : Nat), v = .slice a l.length c ∧ SlA (View.of W) C3.enc 3 a l b o := by
  obtain ⟨a, l, b, o, c, h1, h2, _⟩ := open_row und_22 cellsOf_61 (by decide) (fun n cs y hy => transfer_el n cs y hy) hok h
  exact ⟨a, l, b, o, c, h1, h2⟩
end
end Go.Proofs.Ytagmoecojmlogaa
namespace Go.Proofs.Ytagmoecojmlogaa
set_option maxRecDepth 20000
set_option linter.unusedSimpArgs false
set_option linter.unusedVariables false
open Go Go.Fw Go.ChangeShapes Go.WideShapes Go.ChangeAt Go.RowKit
set_option maxRecDepth 100000 in
theorem agrees_lifted (os : Os) (started : os.Started) (H : Type) (enc : TypeId × Value → H) :
    ReturnsInHanded {} Try.checked os 6 .any (Rows.settleAgreesSpec.pre6 enc Try.prog Try.f6 Rows.settleAgreesRow.domain false) (Rows.settleAgreesSpec.post enc Try.prog Try.f6 false true false false) := by
  refine returnsInHanded_of_change_sized (C := Try.checked) Try.own started (by kernel_rfl) Try.func6
    (ChangeSpec.witness6 (enc := enc) (C := Try.checked) false ⟨#[], #[.int .u8 0, .slice none 0 0, .slice none 0 0, .int .u8 0, .slice none 0 0], []⟩ 8 (by kernel_rfl) (by kernel_rfl) (by kernel_rfl) (by kernel_rfl)) ?_
  intro W base args ds gs before hval0 hW _ hz _
  have hval : ∀ (j : Nat) t v, Try.f6.params[j]? = some t → args[j]? = some v → Value.okWide Try.prog W .any base t v := hval0
  refine law_contract (tb := 4) Try.laidOut (by kernel_rfl) (by kernel_rfl) rfl rfl (by kernel_rfl) ?_ W args ds gs before hW ?_
  · intro ds h
    match ds, h with
    | [d0, d1, d2, d3, d4], _ => exact ⟨rfl, rfl, rfl⟩
  · intro p hA0
    have hA : DataW.TrodAll enc Try.prog W 0 (fun _ => true) true Try.f6.params.toList args.toList ds p := hA0
    rw [Try.params6] at hA hval
    obtain ⟨v0, v1, v2, v3, v4, d0, d1, d2, d3, d4, p0, p1, p2, p3, p4, rfl, rfl, rfl, h0, h1, h2, h3, h4⟩ := trodAll_five hA
    obtain ⟨x0, rfl, rfl, rfl, q0⟩ := open_int und_5 (hval 0 5 v0 rfl rfl) h0
    obtain ⟨a1, l1, b1, o1, c1, rfl, s1⟩ := open_transfers (hval 1 22 v1 rfl rfl) h1
    obtain ⟨a2, l2, b2, o2, c2, rfl, s2⟩ := open_transfers (hval 2 22 v2 rfl rfl) h2
    obtain ⟨x3, rfl, rfl, rfl, q3⟩ := open_int und_5 (hval 3 5 v3 rfl rfl) h3
    obtain ⟨a4, l4, b4, o4, c4, rfl, s4, y4⟩ := open_events (hval 4 52 v4 rfl rfl) h4
    exact law_agrees (View.of W) W (View.le.refl _) (wf_u8 q0) (wf_u8 q3) s1 s2 s4 y4
theorem agrees_holds : Rows.SettleAgreesSaid :=
  OpenClaim.holds_of_wide 6 Try.f6 rfl rfl rfl rfl rfl rfl rfl ⟨rfl, rfl, rfl, rfl, rfl⟩ rfl rfl rfl rfl rfl (by kernel_rfl) Try.func6 (by kernel_rfl)
    (of_decide_eq_true (by kernel_rfl)) (by unfold Func.isWrapper; rw [if_neg (of_decide_eq_false (by kernel_rfl))]; exact ⟨rfl, rfl⟩)
    (fun os started H enc _ => agrees_lifted os started H enc)
end Go.Proofs.Ytagmoecojmlogaa
