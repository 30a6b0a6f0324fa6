/-
  Digits.
-/
import Derived.Test.YthhhleplbmpakaaDoorS2
namespace Go.Proofs.YthhhleplbmpakaaDoor
set_option maxRecDepth 20000
set_option linter.unusedSimpArgs false
set_option linter.unusedVariables false
open Go Go.Fw
def DG : List Int := [48, 49, 50, 51, 52, 53, 54, 55, 56, 57, 97, 98, 99, 100, 101, 102]
def digitsB : ByteArray := ⟨#[48, 49, 50, 51, 52, 53, 54, 55, 56, 57, 97, 98, 99, 100, 101, 102]⟩
theorem dg_fin : ∀ i : Fin 16, ((digitsB.data.toList.getD i.val 0).toNat : Int) = DG.getD i.val 0 := by decide +kernel
theorem dg {i : Int} (h : 0 ≤ i ∧ i < 16) : ((digitsB.data.toList.getD i.toNat 0).toNat : Int) = DG.getD i.toNat 0 := dg_fin ⟨i.toNat, by omega⟩
theorem and15_fin : ∀ i : Fin 256, Go.bits .and .u8 (i.val : Int) 15 = (i.val : Int) % 16 := by decide +kernel
theorem and15 {c : Int} (h : 0 ≤ c ∧ c ≤ 255) : Go.bits .and .u8 c 15 = c % 16 := by
  obtain ⟨m, rfl⟩ := Int.eq_ofNat_of_zero_le h.1
  exact and15_fin ⟨m, by omega⟩
/-- The text of a digest, its first m bytes. -/
def hexN (h : List Int) : Nat → List Int
  | 0 => []
  | m + 1 => hexN h m ++ [DG.getD (h.getD m 0 / 16).toNat 0] ++ [DG.getD (h.getD m 0 % 16).toNat 0]
theorem hexN_length (h : List Int) (m : Nat) : (hexN h m).length = 2 * m := by
  induction m with
  | zero => rfl
  | succ m ih => simp [hexN, ih]; omega
theorem DG_fin : ∀ i : Fin 16, 0 ≤ DG.getD i.val 0 ∧ DG.getD i.val 0 ≤ 255 := by decide +kernel
theorem DGb (i : Nat) : 0 ≤ DG.getD i 0 ∧ DG.getD i 0 ≤ 255 := by
  by_cases h : i < 16
  · exact DG_fin ⟨i, h⟩
  · have e : DG.length = 16 := rfl
    simp [List.getD, List.getElem?_eq_none (show DG.length ≤ i by omega)]
theorem hexN_B (h : List Int) (m : Nat) : ∀ x ∈ hexN h m, 0 ≤ x ∧ x ≤ 255 := by
  induction m with
  | zero => intro x hx; cases hx
  | succ m ih =>
    intro x hx
    simp only [hexN, List.mem_append, List.mem_singleton] at hx
    rcases hx with (hx | rfl) | rfl
    · exact ih x hx
    · exact DGb _
    · exact DGb _
end Go.Proofs.YthhhleplbmpakaaDoor
