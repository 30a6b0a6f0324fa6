/-
  The program logic, nineteenth part: bits of words.
-/
import Derived.Test.YtkbbbflojebfgaaDoorFw18
set_option linter.unusedSimpArgs false
set_option linter.unusedVariables false
namespace Go.Fw
open Go Go.RowKit

theorem bits_or64 {x y : Nat} (hx : x < 2 ^ 64) (hy : y < 2 ^ 64) : Go.bits .or .u64 (x : Int) (y : Int) = ((x ||| y : Nat) : Int) := by
  have e : Go.bits .or .u64 (x : Int) (y : Int) = IntKind.u64.wrap (((BitVec.ofInt 64 (x : Int) ||| BitVec.ofInt 64 (y : Int)) : BitVec 64).toNat : Int) := rfl
  rw [e, BitVec.toNat_or, BitVec.ofInt_natCast, BitVec.ofInt_natCast, BitVec.toNat_ofNat, BitVec.toNat_ofNat, Nat.mod_eq_of_lt hx, Nat.mod_eq_of_lt hy]
  have := Nat.or_lt_two_pow hx hy
  rw [wrapU64]
  omega
theorem bits_and64 {x y : Nat} (hx : x < 2 ^ 64) (hy : y < 2 ^ 64) : Go.bits .and .u64 (x : Int) (y : Int) = ((x &&& y : Nat) : Int) := by
  have e : Go.bits .and .u64 (x : Int) (y : Int) = IntKind.u64.wrap (((BitVec.ofInt 64 (x : Int) &&& BitVec.ofInt 64 (y : Int)) : BitVec 64).toNat : Int) := rfl
  rw [e, BitVec.toNat_and, BitVec.ofInt_natCast, BitVec.ofInt_natCast, BitVec.toNat_ofNat, BitVec.toNat_ofNat, Nat.mod_eq_of_lt hx, Nat.mod_eq_of_lt hy]
  have := Nat.and_lt_two_pow x hy
  rw [wrapU64]
  omega
theorem bits_xor64 {x y : Nat} (hx : x < 2 ^ 64) (hy : y < 2 ^ 64) : Go.bits .xor .u64 (x : Int) (y : Int) = ((x ^^^ y : Nat) : Int) := by
  have e : Go.bits .xor .u64 (x : Int) (y : Int) = IntKind.u64.wrap (((BitVec.ofInt 64 (x : Int) ^^^ BitVec.ofInt 64 (y : Int)) : BitVec 64).toNat : Int) := rfl
  rw [e, BitVec.toNat_xor, BitVec.ofInt_natCast, BitVec.ofInt_natCast, BitVec.toNat_ofNat, BitVec.toNat_ofNat, Nat.mod_eq_of_lt hx, Nat.mod_eq_of_lt hy]
  have := Nat.xor_lt_two_pow hx hy
  rw [wrapU64]
  omega
theorem or_add {q m s : Nat} (hm : m < 2 ^ s) : q * 2 ^ s ||| m = q * 2 ^ s + m := by
  have := Nat.shiftLeft_add_eq_or_of_lt hm q
  rw [Nat.shiftLeft_eq] at this
  exact this.symm
/-- A byte put in behind. -/
theorem or_byte64 {x c : Int} (hx : 0 ≤ x ∧ x < 72057594037927936) (h : 0 ≤ c ∧ c ≤ 255) : Go.bits .or .u64 (IntKind.u64.wrap (x * 2 ^ 8)) c = 256 * x + c := by
  obtain ⟨m, rfl⟩ := Int.eq_ofNat_of_zero_le h.1
  obtain ⟨q, rfl⟩ := Int.eq_ofNat_of_zero_le hx.1
  have e : IntKind.u64.wrap ((q : Int) * 2 ^ 8) = ((q * 2 ^ 8 : Nat) : Int) := by
    show IntKind.u64.wrap ((q : Int) * 256) = _
    rw [wrap_u64 (by omega)]; omega
  rw [e, bits_or64 (by omega) (by omega), or_add (by omega)]
  omega
theorem and_mask64 {x : Int} {n : Nat} (hx : 0 ≤ x ∧ x < 18446744073709551616) (hn : n ≤ 63) : Go.bits .and .u64 x (2 ^ n - 1) = x % 2 ^ n := by
  obtain ⟨q, rfl⟩ := Int.eq_ofNat_of_zero_le hx.1
  have hp : 2 ^ n ≤ 2 ^ 63 := Nat.pow_le_pow_right (by decide) hn
  have h1 : 1 ≤ 2 ^ n := Nat.one_le_two_pow
  have e : ((2 : Int) ^ n - 1) = ((2 ^ n - 1 : Nat) : Int) := by
    have : ((2 ^ n : Nat) : Int) = (2 : Int) ^ n := by simp
    rw [← this]; omega
  rw [e, bits_and64 (by omega) (by omega), Nat.and_two_pow_sub_one_eq_mod]
  simp
theorem bits_wf (op : BinOp) (k : IntKind) (x y : Int) : lowK k ≤ Go.bits op k x y ∧ Go.bits op k x y ≤ highK k := wf_fit (wf_bits op k x y)
end Go.Fw
