/-
  The program logic, twenty-sixth part: slices as arrays; numbers put together from bytes.
-/
import Derived.Test.YtkbbbflojebfgaaDoorFw25
import Derived.Test.YtkbbbflojebfgaaDoorFw19
set_option linter.unusedSimpArgs false
set_option linter.unusedVariables false
namespace Go.Fw
open Go Go.RowKit

section
variable {C : Pr} {fm : FM} {M : View} {own : List OB} {d : Option Nat} {ty : TypeId} {pos : String} {af : Array Edge} {g : Option (Nat × Bool)}
theorem s_arrayAt {t e n b o m c : Nat} {a : Option Addr} {x : Operand} (hx : ev fm x = some (.slice a m c)) (ht : tdArray C.P t = some (n, e)) (ha : a = some ⟨b, o, none⟩) (h : n ≤ m) :
    Pur C ⟨d, .sliceToArrayPointer t x, ty, pos, af, g⟩ fm M own (.pointer (some ⟨b, o, none⟩)) := by
  subst ha
  intro act w hf _
  have hn : ¬ m < n := by omega
  simp [execOp, hf.eval hx, Instr.arrayAt, run_underlying (tdArray_eq ht), hn]
end

theorem bits_orI64 {x y : Nat} (hx : x < 4611686018427387904) (hy : y < 4611686018427387904) : Go.bits .or .i64 (x : Int) (y : Int) = ((x ||| y : Nat) : Int) := by
  have e : Go.bits .or .i64 (x : Int) (y : Int) = IntKind.i64.wrap (((BitVec.ofInt 64 (x : Int) ||| BitVec.ofInt 64 (y : Int)) : BitVec 64).toNat : Int) := rfl
  rw [e, BitVec.toNat_or, BitVec.ofInt_natCast, BitVec.ofInt_natCast, BitVec.toNat_ofNat, BitVec.toNat_ofNat, Nat.mod_eq_of_lt (by omega), Nat.mod_eq_of_lt (by omega)]
  have := Nat.or_lt_two_pow (n := 62) (x := x) (y := y) (by omega) (by omega)
  exact wrap_i64 (by omega)
theorem or_addK {q m s K : Nat} (hK : K = 2 ^ s) (hm : m < K) : q * K ||| m = q * K + m := by
  subst hK
  exact or_add hm
theorem or4_i64 {a b c e : Int} (ha : 0 ≤ a ∧ a ≤ 255) (hb : 0 ≤ b ∧ b ≤ 255) (hc : 0 ≤ c ∧ c ≤ 255) (he : 0 ≤ e ∧ e ≤ 255) :
    Go.bits .or .i64 (Go.bits .or .i64 (Go.bits .or .i64 (a * 2 ^ Int.toNat 24) (b * 2 ^ Int.toNat 16)) (c * 2 ^ Int.toNat 8)) e = a * 16777216 + b * 65536 + c * 256 + e := by
  obtain ⟨a, rfl⟩ := Int.eq_ofNat_of_zero_le ha.1
  obtain ⟨b, rfl⟩ := Int.eq_ofNat_of_zero_le hb.1
  obtain ⟨c, rfl⟩ := Int.eq_ofNat_of_zero_le hc.1
  obtain ⟨e, rfl⟩ := Int.eq_ofNat_of_zero_le he.1
  have e24 : (2 : Int) ^ Int.toNat 24 = 16777216 := by decide
  have e16 : (2 : Int) ^ Int.toNat 16 = 65536 := by decide
  have e8 : (2 : Int) ^ Int.toNat 8 = 256 := by decide
  rw [e24, e16, e8, show (a : Int) * 16777216 = ((a * 16777216 : Nat) : Int) by omega, show (b : Int) * 65536 = ((b * 65536 : Nat) : Int) by omega, show (c : Int) * 256 = ((c * 256 : Nat) : Int) by omega]
  rw [bits_orI64 (x := a * 16777216) (y := b * 65536) (by omega) (by omega), or_addK (q := a) (m := b * 65536) (s := 24) (by decide) (by omega)]
  have h2 : a * 16777216 + b * 65536 = (a * 256 + b) * 65536 := by omega
  rw [h2, bits_orI64 (x := (a * 256 + b) * 65536) (y := c * 256) (by omega) (by omega), or_addK (q := a * 256 + b) (m := c * 256) (s := 16) (by decide) (by omega)]
  clear e24 e16 e8 h2
  have h3 : (a * 256 + b) * 65536 + c * 256 = (a * 65536 + b * 256 + c) * 256 := by rw [Nat.add_mul, Nat.add_mul, Nat.add_mul, Nat.mul_assoc, Nat.mul_assoc, Nat.mul_assoc]
  rw [h3, bits_orI64 (x := (a * 65536 + b * 256 + c) * 256) (y := e) (by omega) (by omega), or_addK (q := a * 65536 + b * 256 + c) (m := e) (s := 8) (by decide) (by omega)]
  omega
end Go.Fw
