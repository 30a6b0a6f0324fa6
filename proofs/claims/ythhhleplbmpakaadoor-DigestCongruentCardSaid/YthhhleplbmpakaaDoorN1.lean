/-
  Numbers of digests: plain facts.
-/
import Derived.Test.YthhhleplbmpakaaDoorW13
namespace Go.Proofs.YthhhleplbmpakaaDoor
set_option maxRecDepth 20000
set_option linter.unusedSimpArgs false
set_option linter.unusedVariables false
open Go Go.Fw
/-- The number of the first k bytes. -/
def numB (h : List Int) : Nat → Int
  | 0 => 0
  | k + 1 => 256 * numB h k + h.getD k 0
theorem numB_nonneg {h : List Int} (hb : isB h) : ∀ k, 0 ≤ numB h k
  | 0 => by simp [numB]
  | k + 1 => by have := numB_nonneg hb k; have := hb k; simp only [numB]; omega
def dblN (X : Int) : Nat → Int
  | 0 => X
  | j + 1 => dblN X j + dblN X j
theorem dblN_8 (X : Int) : dblN X 8 = 256 * X := by simp only [dblN]; omega
theorem dbl_step (X : Int) (j : Nat) (m : Int) : (dblN X j % m + dblN X j % m) % m = dblN X (j + 1) % m := (Int.add_emod _ _ _).symm
theorem num_step (h : List Int) (i : Nat) (m : Int) : (dblN (numB h i) 8 % m + h.getD i 0 % m) % m = numB h (i + 1) % m := by
  rw [← Int.add_emod, dblN_8]; rfl
theorem add_mul_emod (x y k m : Int) : (x + (y % m) * k) % m = (x + y * k) % m := by
  rw [Int.add_emod, Int.mul_emod, Int.emod_emod, ← Int.mul_emod, ← Int.add_emod]
theorem num_step2 (h : List Int) (i : Nat) (m : Int) : (((numB h i % m) * (256 % m)) % m + h.getD i 0) % m = numB h (i + 1) % m := by
  rw [← Int.mul_emod, Int.emod_add_emod]
  show _ = (256 * numB h i + _) % m
  rw [Int.mul_comm 256]
theorem mul_step_odd {out a b m : Int} (hb : 0 < b) (ho : b % 2 = 1) : ((out + a) % m + ((a + a) % m) * (b / 2)) % m = (out + a * b) % m := by
  rw [add_mul_emod, Int.emod_add_emod]
  have hb2 : b = 2 * (b / 2) + 1 := by omega
  generalize b / 2 = c at *
  subst hb2
  congr 1
  rw [Int.mul_add, Int.add_mul, ← Int.mul_assoc, Int.mul_comm a 2, Int.mul_assoc]
  omega
theorem mul_step_even {out a b m : Int} (hb : 0 < b) (ho : b % 2 = 0) : (out + ((a + a) % m) * (b / 2)) % m = (out + a * b) % m := by
  rw [add_mul_emod]
  have hb2 : b = 2 * (b / 2) := by omega
  generalize b / 2 = c at *
  subst hb2
  congr 1
  rw [Int.add_mul, ← Int.mul_assoc, Int.mul_comm a 2, Int.mul_assoc]
  omega
end Go.Proofs.YthhhleplbmpakaaDoor
