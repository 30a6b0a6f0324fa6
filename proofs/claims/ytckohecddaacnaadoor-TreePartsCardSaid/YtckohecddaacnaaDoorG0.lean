/-
  Small facts on the counts of leaves and on places that bytes name.
-/
import Derived.Test.YtckohecddaacnaaDoorT13
namespace Go.Proofs.YtckohecddaacnaaDoor
set_option maxRecDepth 20000
set_option linter.unusedSimpArgs false
set_option linter.unusedVariables false
open Go Go.Fw
theorem tree_or (n : Nat) : (∃ d, d ≤ 10 ∧ n = 2 ^ d) ∨ noTree n := by
  by_cases h : ∃ d, d ≤ 10 ∧ n = 2 ^ d
  · exact .inl h
  · exact .inr fun d hd e => h ⟨d, hd, e⟩
theorem noTree_int {n : Nat} (h : noTree n) : ∀ d : Nat, d ≤ 10 → (n : Int) ≠ ((2 ^ d : Nat) : Int) := fun d hd e => h d hd (by omega)
theorem pow64 {d : Nat} (h : 2 ^ d ≤ 64) : d ≤ 6 := by
  rcases Nat.lt_or_ge 6 d with h2 | h2
  · have : 2 ^ 7 ≤ 2 ^ d := Nat.pow_le_pow_right (by decide) h2
    omega
  · exact h2
/-- The place that the bytes name. -/
theorem bytes_place {d : Nat} {lv ix : Int} (h1 : 0 ≤ lv) (h2 : 0 ≤ ix) : ∃ k i : Nat, lv % ((d : Int) + 1) = k ∧ ix % (1 * 2 ^ (lv % ((d : Int) + 1)).toNat) = i ∧ k ≤ d ∧ i < 2 ^ k := by
  have a1 := Int.emod_nonneg lv (b := (d : Int) + 1) (by omega)
  have a2 := Int.emod_lt_of_pos lv (b := (d : Int) + 1) (by omega)
  obtain ⟨k, hk⟩ := Int.eq_ofNat_of_zero_le a1
  have hpos : (0 : Int) < ((2 ^ k : Nat) : Int) := by have := Nat.two_pow_pos k; omega
  have b1 := Int.emod_nonneg ix (b := ((2 ^ k : Nat) : Int)) (by omega)
  have b2 := Int.emod_lt_of_pos ix (b := ((2 ^ k : Nat) : Int)) hpos
  obtain ⟨i, hi⟩ := Int.eq_ofNat_of_zero_le b1
  refine ⟨k, i, hk, ?_, by omega, by omega⟩
  rw [hk, one_pow_cast]
  exact hi
end Go.Proofs.YtckohecddaacnaaDoor
