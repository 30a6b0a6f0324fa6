/-
  Rotations and shifts of words: what the two programs compute is the same.
-/
import Derived.Test.YtelidojkpbaofaaDoorS1
namespace Go.Proofs.YtelidojkpbaofaaDoor
set_option maxRecDepth 20000
set_option linter.unusedSimpArgs false
set_option linter.unusedVariables false
open Go Go.Fw

theorem or_comm32 (a b : Int) : Go.bits .or .u32 a b = Go.bits .or .u32 b a := by
  simp only [Go.bits, BitVec.or_comm]
theorem neg64 {n : Int} (h : 1 ≤ n ∧ n ≤ 31) : IntKind.u64.wrap (-n) = 18446744073709551616 - n := by
  rw [wrapU64]; omega
theorem and31_fin : ∀ n : Fin 32, 1 ≤ n.val → Go.bits .and .u64 (18446744073709551616 - (n.val : Int)) 31 = 32 - (n.val : Int) := by decide +kernel
theorem and31 {n : Int} (h : 1 ≤ n ∧ n ≤ 31) : Go.bits .and .u64 (18446744073709551616 - n) 31 = 32 - n := by
  obtain ⟨m, rfl⟩ := Int.eq_ofNat_of_zero_le (show 0 ≤ n by omega)
  exact and31_fin ⟨m, by omega⟩ (by simp; omega)
theorem sub64 {n k : Int} (h : 1 ≤ n ∧ n ≤ 31) (hk : k = 32 - n) : IntKind.u64.wrap (32 - k) = n := by
  rw [wrapU64]; omega
theorem rot_eq {x n : Int} (h : 1 ≤ n ∧ n ≤ 31) {k j : Int} (hk : k = 32 - n) (hj : j = n) : Go.bits .or .u32 (wr (x * 2 ^ k.toNat)) (x / 2 ^ j.toNat) = rot x n.toNat := by
  rw [or_comm32, hj]
  unfold rot
  rw [show (32 : Nat) - n.toNat = k.toNat by omega]

/-- Shifting a word by 8 and putting a byte in. -/
theorem or_byte {x c : Int} (h : 0 ≤ c ∧ c ≤ 255) : Go.bits .or .u32 (wr (x * 2 ^ 8)) c = wr (wr (x * 256) + c) := by
  obtain ⟨m, rfl⟩ := Int.eq_ofNat_of_zero_le h.1
  have hm : m ≤ 255 := by omega
  obtain ⟨q, hq⟩ := Int.eq_ofNat_of_zero_le (show 0 ≤ x % 16777216 by omega)
  have hq' : q < 16777216 := by omega
  have e : wr (x * 2 ^ 8) = ((q * 256 : Nat) : Int) := by
    show IntKind.u32.wrap (x * 256) = _
    rw [wrapU32]
    omega
  have e2 : wr (x * 256) = ((q * 256 : Nat) : Int) := by rw [← e]; rfl
  rw [e, e2]
  have e3 : Go.bits .or .u32 ((q * 256 : Nat) : Int) (m : Int) = IntKind.u32.wrap (((q * 256) ||| m : Nat) : Int) := by
    show IntKind.u32.wrap (((BitVec.ofInt 32 ((q * 256 : Nat) : Int) ||| BitVec.ofInt 32 (m : Int)) : BitVec 32).toNat : Int) = _
    rw [BitVec.toNat_or, BitVec.ofInt_natCast, BitVec.ofInt_natCast, BitVec.toNat_ofNat, BitVec.toNat_ofNat]
    rw [Nat.mod_eq_of_lt (by omega), Nat.mod_eq_of_lt (by omega)]
  rw [e3]
  have e4 : q * 256 ||| m = q * 256 + m := by
    have := Nat.shiftLeft_add_eq_or_of_lt (i := 8) (b := m) (by omega) q
    rw [Nat.shiftLeft_eq] at this
    simpa using this.symm
  rw [e4]
  congr 1
end Go.Proofs.YtelidojkpbaofaaDoor
