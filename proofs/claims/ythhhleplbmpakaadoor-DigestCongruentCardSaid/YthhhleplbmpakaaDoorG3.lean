/-
  Plain facts for the laws on orders and on congruence.
-/
import Derived.Test.YthhhleplbmpakaaDoorH3
import Derived.Test.YthhhleplbmpakaaDoorE3
import Derived.Test.YthhhleplbmpakaaDoorN2
import Derived.Test.YthhhleplbmpakaaDoorFw19
namespace Go.Proofs.YthhhleplbmpakaaDoor
set_option maxRecDepth 20000
set_option linter.unusedSimpArgs false
set_option linter.unusedVariables false
open Go Go.Fw
def hexL (h : List Int) : List Int := h.flatMap fun c => [DG.getD (c / 16).toNat 0, DG.getD (c % 16).toNat 0]
theorem hexN_L (h : List Int) : ∀ m, m ≤ h.length → hexN h m = hexL (h.take m)
  | 0, _ => rfl
  | m + 1, hm => by
    have ih := hexN_L h m (by omega)
    rw [List.take_succ_eq_append_getElem (by omega)]
    simp only [hexN, ih, hexL, List.flatMap_append, List.flatMap_cons, List.flatMap_nil, List.append_nil]
    rw [getD_lt (show m < h.length by omega), List.append_assoc]
    rfl
theorem DG_lt_fin : ∀ i j : Fin 16, DG.getD i.val 0 < DG.getD j.val 0 ↔ i.val < j.val := by decide +kernel
theorem DG_lt {i j : Int} (hi : 0 ≤ i ∧ i < 16) (hj : 0 ≤ j ∧ j < 16) : DG.getD i.toNat 0 < DG.getD j.toNat 0 ↔ i < j := by
  have := DG_lt_fin ⟨i.toNat, by omega⟩ ⟨j.toNat, by omega⟩
  simp only at this
  rw [this]; omega
theorem cmp_hexL : ∀ {a b : List Int}, (∀ x ∈ a, 0 ≤ x ∧ x ≤ 255) → (∀ x ∈ b, 0 ≤ x ∧ x ≤ 255) → cmpI (hexL a) (hexL b) = cmpI a b
  | [], [], _, _ => rfl
  | [], _ :: _, _, _ => rfl
  | _ :: _, [], _, _ => rfl
  | x :: a, y :: b, ha, hb => by
    have ih := cmp_hexL (fun x hx => ha x (List.mem_cons_of_mem _ hx)) (fun x hx => hb x (List.mem_cons_of_mem _ hx))
    have h1 := ha x (by simp)
    have h2 := hb y (by simp)
    show (if DG.getD (x / 16).toNat 0 < DG.getD (y / 16).toNat 0 then (-1 : Int) else if DG.getD (y / 16).toNat 0 < DG.getD (x / 16).toNat 0 then 1 else if DG.getD (x % 16).toNat 0 < DG.getD (y % 16).toNat 0 then -1 else if DG.getD (y % 16).toNat 0 < DG.getD (x % 16).toNat 0 then 1 else cmpI (hexL a) (hexL b)) = if x < y then -1 else if y < x then 1 else cmpI a b
    rw [ih]
    simp only [DG_lt (show 0 ≤ x / 16 ∧ x / 16 < 16 by omega) (show 0 ≤ y / 16 ∧ y / 16 < 16 by omega), DG_lt (show 0 ≤ y / 16 ∧ y / 16 < 16 by omega) (show 0 ≤ x / 16 ∧ x / 16 < 16 by omega), DG_lt (show 0 ≤ x % 16 ∧ x % 16 < 16 by omega) (show 0 ≤ y % 16 ∧ y % 16 < 16 by omega), DG_lt (show 0 ≤ y % 16 ∧ y % 16 < 16 by omega) (show 0 ≤ x % 16 ∧ x % 16 < 16 by omega)]
    by_cases c1 : x / 16 < y / 16
    · rw [if_pos c1, if_pos (by omega)]
    · rw [if_neg c1]
      by_cases c2 : y / 16 < x / 16
      · rw [if_pos c2, if_neg (by omega), if_pos (by omega)]
      · rw [if_neg c2]
        by_cases c3 : x % 16 < y % 16
        · rw [if_pos c3, if_pos (by omega)]
        · rw [if_neg c3]
          by_cases c4 : y % 16 < x % 16
          · rw [if_pos c4, if_neg (by omega), if_pos (by omega)]
          · rw [if_neg c4, if_neg (by omega), if_neg (by omega)]
theorem cmp_hexN {a b : List Int} (ha : a.length = 32) (hb : b.length = 32) (hab : isB a) (hbb : isB b) : cmpI (hexN a 32) (hexN b 32) = cmpI a b := by
  rw [hexN_L a 32 (by omega), hexN_L b 32 (by omega), List.take_of_length_le (by omega), List.take_of_length_le (by omega)]
  exact cmp_hexL hab.mem hbb.mem

/-! #### congruence -/
theorem numB_app (h : List Int) (i : Nat) : ∀ k, numB h (i + k) = 256 ^ k * numB h i + numB (h.drop i) k
  | 0 => by simp [numB]
  | k + 1 => by
    have ih := numB_app h i k
    have e : (h.drop i).getD k 0 = h.getD (i + k) 0 := by simp [List.getD]
    show 256 * numB h (i + k) + h.getD (i + k) 0 = _ + (256 * numB (h.drop i) k + _)
    rw [ih, e, Int.pow_succ, Int.mul_add, ← Int.mul_assoc, Int.mul_comm 256 (256 ^ k)]
    omega
theorem isB_drop {h : List Int} (hb : isB h) (i : Nat) : isB (h.drop i) := fun j => by
  have := hb (i + j)
  have e : (h.drop i).getD j 0 = h.getD (i + j) 0 := by simp [List.getD]
  rw [e]; exact this
theorem numB_lt {h : List Int} (hb : isB h) : ∀ k, numB h k < 256 ^ k
  | 0 => by simp [numB]
  | k + 1 => by
    have ih := numB_lt hb k
    have := hb k
    rw [Int.pow_succ]
    simp only [numB]
    omega
theorem low_mod {h : List Int} (hb : isB h) {n : Nat} (hn : n ≤ 60) : numB h 16 % 2 ^ n = numB (h.drop 8) 8 % 2 ^ n := by
  have e := numB_app h 8 8
  rw [show 8 + 8 = 16 from rfl] at e
  rw [e]
  have e2 : (256 : Int) ^ 8 = 2 ^ (64 - n) * 2 ^ n := by
    rw [← Int.pow_add, show 64 - n + n = 64 by omega]; decide
  rw [e2, Int.mul_assoc, Int.mul_comm (2 ^ n) (numB h 8), ← Int.mul_assoc, Int.add_comm, Int.add_mul_emod_self_right]
end Go.Proofs.YthhhleplbmpakaaDoor
