/-
  LedgerFunds holds: for every ledger and every entry the law answers true, and its arguments read afterwards as they read before.
  No condition.
-/
import Derived.Test.YtmgmpgccnohpkaaPC
import Derived.Test.YtmgmpgccnohpkaaW12
namespace Go.Proofs.Ytmgmpgccnohpkaa
open Go Go.Fw Go.ChangeShapes Go.WideShapes Go.ChangeAt Go.RowKit

set_option maxRecDepth 100000 in
theorem funds_lifted (os : Os) (started : os.Started) (H : Type) (enc : TypeId × Value → H) :
    ReturnsInHanded {} Try.checked os 5 .any (Rows.ledgerFundsSpec.pre6 enc Try.prog Try.f5 Rows.ledgerFundsRow.domain false) (Rows.ledgerFundsSpec.post enc Try.prog Try.f5 false true false false) := by
  refine returnsInHanded_of_change (C := Try.checked) Try.own started (by kernel_rfl) Try.func5
    (ChangeSpec.witness6 (enc := enc) (C := Try.checked) false ⟨#[], #[.agg #[.slice none 0 0, .slice none 0 0], .agg #[.int .i64 0, .int .i64 0, .int .i64 0, .int .i64 0]], []⟩ 8 (by kernel_rfl) (by kernel_rfl) (by kernel_rfl) (by kernel_rfl)) ?_
  intro W base args ds gs before hval0 hW _ _
  have hval : ∀ (j : Nat) t v, Try.f5.params[j]? = some t → args[j]? = some v → Value.okWide Try.prog W .any base t v := hval0
  refine law_contract (tb := 4) Try.laidOut (by kernel_rfl) (by kernel_rfl) rfl rfl (by kernel_rfl) ?_ W args ds gs before hW ?_
  · intro ds h
    match ds, h with
    | [d1, d2], _ => exact ⟨rfl, rfl, rfl⟩
  · intro p hA0
    have hA : DataW.TrodAll enc Try.prog W 0 (fun _ => true) true Try.f5.params.toList args.toList ds p := hA0
    rw [Try.params5] at hA hval
    obtain ⟨v0, v1, d0, d1, p0, p1, rfl, rfl, rfl, h0, h1⟩ := trodAll_two hA
    obtain ⟨bal, ents, a1, a2, b1, o1, c1, b2, o2, c2, rfl, s1, s2⟩ := open_ledger (hval 0 26 v0 rfl rfl) h0
    obtain ⟨x, rfl⟩ := open_ent (hval 1 34 v1 rfl rfl) h1
    exact funds_spec (View.of W) W (View.le.refl _) bal ents x s1 s2

theorem funds_holds : Rows.LedgerFundsSaid :=
  OpenClaim.holds_of_wide 5 Try.f5 rfl rfl rfl rfl rfl rfl rfl ⟨rfl, rfl, rfl, rfl, rfl⟩ rfl rfl rfl rfl rfl (by kernel_rfl) Try.func5 (by kernel_rfl)
    (of_decide_eq_true (by kernel_rfl)) (by unfold Func.isWrapper; rw [if_neg (of_decide_eq_false (by kernel_rfl))]; exact ⟨rfl, rfl⟩)
    (fun os started H enc _ => funds_lifted os started H enc)
end Go.Proofs.Ytmgmpgccnohpkaa
