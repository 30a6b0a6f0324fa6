/-
  LedgerReplays holds: for every number of accounts and every list of entries the law answers true, and its arguments read afterwards as they read before.
  No condition.
-/
import Derived.Test.YtmgmpgccnohpkaaRows
import Derived.Test.YtmgmpgccnohpkaaFw9
import Derived.Test.YtmgmpgccnohpkaaW9
namespace Go.Proofs.Ytmgmpgccnohpkaa
open Go Go.Fw Go.ChangeShapes Go.WideShapes Go.ChangeAt Go.RowKit

theorem Try.own : ownKnob Try.prog.godebug = none := by kernel_rfl
theorem Try.laidOut : laidOutB Try.prog = true := by kernel_rfl

theorem ent_el {H : Type} {enc : TypeId × Value → H} {W : World} {sp : Nat → Bool} (n : Nat) (cs : List Value) (y : DataW H × List MemPlace) (h : DataW.trod enc Try.prog W 0 sp true n 34 cs = some y) : ∃ u : Ent, True ∧ cs = u.enc := by
  obtain ⟨hl, hf⟩ := open_fields (Try.underlying34) (by kernel_rfl) (by kernel_rfl) h
  obtain ⟨c0, y0, n0, g0, t0⟩ := hf 0 _ rfl
  obtain ⟨c1, y1, n1, g1, t1⟩ := hf 1 _ rfl
  obtain ⟨c2, y2, n2, g2, t2⟩ := hf 2 _ rfl
  obtain ⟨c3, y3, n3, g3, t3⟩ := hf 3 _ rfl
  obtain ⟨x0, e0, _⟩ := DataW.trod_int Try.underlying3 t0
  obtain ⟨x1, e1, _⟩ := DataW.trod_int Try.underlying3 t1
  obtain ⟨x2, e2, _⟩ := DataW.trod_int Try.underlying3 t2
  obtain ⟨x3, e3, _⟩ := DataW.trod_int Try.underlying3 t3
  simp only [List.cons.injEq, and_true] at e0 e1 e2 e3
  subst e0 e1 e2 e3
  refine ⟨⟨x0, x1, x2, x3⟩, trivial, ?_⟩
  match cs, hl with
  | [d0, d1, d2, d3], _ =>
    simp at g0 g1 g2 g3
    subst g0 g1 g2 g3
    rfl

set_option maxRecDepth 100000 in
theorem replays_lifted (os : Os) (started : os.Started) (H : Type) (enc : TypeId × Value → H) :
    ReturnsInHanded {} Try.checked os 3 .any (Rows.ledgerReplaysSpec.pre6 enc Try.prog Try.f3 Rows.ledgerReplaysRow.domain false) (Rows.ledgerReplaysSpec.post enc Try.prog Try.f3 false true false false) := by
  refine returnsInHanded_of_change (C := Try.checked) Try.own started (by kernel_rfl) Try.func3
    (ChangeSpec.witness6 (enc := enc) (C := Try.checked) false ⟨#[], #[.int .i64 0, .slice none 0 0], []⟩ 8 (by kernel_rfl) (by kernel_rfl) (by kernel_rfl) (by kernel_rfl)) ?_
  intro W base args ds gs before hval0 hW _ _
  have hval : ∀ (j : Nat) t v, Try.f3.params[j]? = some t → args[j]? = some v → Value.okWide Try.prog W .any base t v := hval0
  refine law_contract (tb := 4) Try.laidOut (by kernel_rfl) (by kernel_rfl) rfl rfl (by kernel_rfl) ?_ W args ds gs before hW ?_
  · intro ds h
    match ds, h with
    | [d1, d2], _ => exact ⟨rfl, rfl, rfl⟩
  · intro p hA0
    have hA : DataW.TrodAll enc Try.prog W 0 (fun _ => true) true Try.f3.params.toList args.toList ds p := hA0
    rw [Try.params3] at hA hval
    obtain ⟨v0, v1, d0, d1, p0, p1, rfl, rfl, rfl, h0, h1⟩ := trodAll_two hA
    obtain ⟨n, rfl, rfl, rfl, wn⟩ := open_int Try.underlying3 (hval 0 3 v0 rfl rfl) h0
    obtain ⟨a, l, b, o, c, rfl, s, _⟩ := open_row Try.underlying22 (sz := 4) (by kernel_rfl) (by decide) ent_el (hval 1 22 v1 rfl rfl) h1
    exact replays_spec (View.of W) W (View.le.refl _) n s

theorem replays_holds : Rows.LedgerReplaysSaid :=
  OpenClaim.holds_of_wide 3 Try.f3 rfl rfl rfl rfl rfl rfl rfl ⟨rfl, rfl, rfl, rfl, rfl⟩ rfl rfl rfl rfl rfl (by kernel_rfl) Try.func3 (by kernel_rfl)
    (of_decide_eq_true (by kernel_rfl)) (by unfold Func.isWrapper; rw [if_neg (of_decide_eq_false (by kernel_rfl))]; exact ⟨rfl, rfl⟩)
    (fun os started H enc _ => replays_lifted os started H enc)
end Go.Proofs.Ytmgmpgccnohpkaa
