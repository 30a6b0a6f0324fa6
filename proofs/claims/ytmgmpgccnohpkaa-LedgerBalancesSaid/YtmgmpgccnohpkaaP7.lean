/-
  LedgerBalances holds: for every number and every list of entries the law answers true, and its arguments read afterwards as they read before.
  No condition.
-/
import Derived.Test.YtmgmpgccnohpkaaPC
import Derived.Test.YtmgmpgccnohpkaaW19
namespace Go.Proofs.Ytmgmpgccnohpkaa
set_option maxRecDepth 20000
set_option linter.unusedSimpArgs false
set_option linter.unusedVariables false
open Go Go.Fw Go.ChangeShapes Go.WideShapes Go.ChangeAt Go.RowKit

set_option maxRecDepth 100000 in
theorem balances_lifted (os : Os) (started : os.Started) (H : Type) (enc : TypeId × Value → H) :
    ReturnsInHanded {} Try.checked os 7 .any (Rows.ledgerBalancesSpec.pre6 enc Try.prog Try.f7 Rows.ledgerBalancesRow.domain false) (Rows.ledgerBalancesSpec.post enc Try.prog Try.f7 false true false false) := by
  refine returnsInHanded_of_change (C := Try.checked) Try.own started (by kernel_rfl) Try.func7
    (ChangeSpec.witness6 (enc := enc) (C := Try.checked) false ⟨#[], #[.int .u8 0, .slice none 0 0], []⟩ 8 (by kernel_rfl) (by kernel_rfl) (by kernel_rfl) (by kernel_rfl)) ?_
  intro W base args ds gs before hval0 hW _ _
  have hval : ∀ (j : Nat) t v, Try.f7.params[j]? = some t → args[j]? = some v → Value.okWide Try.prog W .any base t v := hval0
  refine law_contract (tb := 4) Try.laidOut (by kernel_rfl) (by kernel_rfl) rfl rfl (by kernel_rfl) ?_ W args ds gs before hW ?_
  · intro ds h
    match ds, h with
    | [d1, d2], _ => exact ⟨rfl, rfl, rfl⟩
  · intro p hA0
    have hA : DataW.TrodAll enc Try.prog W 0 (fun _ => true) true Try.f7.params.toList args.toList ds p := hA0
    rw [Try.params7] at hA hval
    obtain ⟨v0, v1, d0, d1, p0, p1, rfl, rfl, rfl, h0, h1⟩ := trodAll_two hA
    obtain ⟨n, rfl, rfl, rfl, wn⟩ := open_int Try.underlying5 (hval 0 5 v0 rfl rfl) h0
    obtain ⟨a, l, b, o, c, rfl, s, _⟩ := open_row Try.underlying22 (sz := 4) (by kernel_rfl) (by decide) ent_el (hval 1 22 v1 rfl rfl) h1
    exact balances_law (View.of W) W (View.le.refl _) n (by have := wn; simp [Lit.wf, IntKind.min, IntKind.max, IntKind.bits, IntKind.signed] at this; omega) (by have := wn; simp [Lit.wf, IntKind.min, IntKind.max, IntKind.bits, IntKind.signed] at this; omega) s

theorem balances_holds : Rows.LedgerBalancesSaid :=
  OpenClaim.holds_of_wide 7 Try.f7 rfl rfl rfl rfl rfl rfl rfl ⟨rfl, rfl, rfl, rfl, rfl⟩ rfl rfl rfl rfl rfl (by kernel_rfl) Try.func7 (by kernel_rfl)
    (of_decide_eq_true (by kernel_rfl)) (by unfold Func.isWrapper; rw [if_neg (of_decide_eq_false (by kernel_rfl))]; exact ⟨rfl, rfl⟩)
    (fun os started H enc _ => balances_lifted os started H enc)
end Go.Proofs.Ytmgmpgccnohpkaa
