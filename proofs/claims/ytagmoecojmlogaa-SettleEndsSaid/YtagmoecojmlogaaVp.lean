/-
  Texts joined: Fw27 Fw28.
-/
import Derived.Test.YtagmoecojmlogaaVo
import Derived.Laws.Concat
import Derived.Laws.Strings2
set_option linter.unusedSimpArgs false
set_option linter.unusedVariables false
namespace Go.Fw
open Go Go.RowKit
theorem strOf_inj {xs ys : List Int} (hx : ∀ x ∈ xs, 0 ≤ x ∧ x ≤ 255) (hy : ∀ x ∈ ys, 0 ≤ x ∧ x ≤ 255) (h : strOf xs = strOf ys) : xs = ys := by rw [← intsB_strOf hx, ← intsB_strOf hy, h]
theorem strOf_beq {xs ys : List Int} (hx : ∀ x ∈ xs, 0 ≤ x ∧ x ≤ 255) (hy : ∀ x ∈ ys, 0 ≤ x ∧ x ≤ 255) : ((strOf xs).toList == (strOf ys).toList) = decide (xs = ys) := by
  have key : (strOf xs).toList = (strOf ys).toList ↔ xs = ys := by
    constructor
    · intro h
      refine strOf_inj hx hy ?_
      apply ByteArray.ext
      apply Array.toList_inj.1
      rw [← ByteArray.toList_eq, ← ByteArray.toList_eq, h]
    · rintro rfl; rfl
  by_cases h : xs = ys
  · rw [decide_eq_true h, beq_iff_eq]; exact key.2 h
  · rw [decide_eq_false h, beq_eq_false_iff_ne]; exact fun h2 => h (key.1 h2)
section
variable {C : Pr} {fm : FM} {M : View} {own : List OB} {K : Value → View → List OB → Prop} {d : Option Nat} {ty : TypeId} {pos : String} {af : Array Edge} {g : Option (Nat × Bool)}
section
variable {t t' : TypeId} {x y : Operand} {k1 : IntKind} {m n : Int}
theorem s_remE {r : Int} (hx : ev fm x = some (.int k1 m)) (hy : ev fm y = some (.int k1 n)) (h : 0 ≤ m ∧ 1 ≤ n) (e : m % n = r) : Pur C ⟨d, .binOp .rem t x y t', ty, pos, af, g⟩ fm M own (.int k1 r) := e ▸ s_rem64 hx hy h
theorem s_shrE {yk : IntKind} {r : Int} (hx : ev fm x = some (.int k1 m)) (hy : ev fm y = some (.int yk n)) (h : 0 ≤ n ∧ n ≤ k1.bits) (e : m / 2 ^ n.toNat = r) : Pur C ⟨d, .binOp .shr t x y t', ty, pos, af, g⟩ fm M own (.int k1 r) := e ▸ s_shr hx hy h
theorem s_andE {r : Int} (hx : ev fm x = some (.int k1 m)) (hy : ev fm y = some (.int k1 n)) (h : Go.bits .and k1 m n = r) : Pur C ⟨d, .binOp .and t x y t', ty, pos, af, g⟩ fm M own (.int k1 r) := h ▸ s_and hx hy
theorem s_shlF {yk : IntKind} {r : Int} (hx : ev fm x = some (.int k1 m)) (hy : ev fm y = some (.int yk n)) (h : 0 ≤ n ∧ n ≤ k1.bits) (hr : k1.wrap (m * 2 ^ n.toNat) = r) : Pur C ⟨d, .binOp .shl t x y t', ty, pos, af, g⟩ fm M own (.int k1 r) := hr ▸ s_shlW hx hy h
end
end
end Go.Fw
set_option linter.unusedSimpArgs false
set_option linter.unusedVariables false
namespace Go.Fw
open Go Go.RowKit
section
variable {C : Pr} {fm : FM} {M : View} {own : List OB} {K : Value → View → List OB → Prop} {d : Option Nat} {ty : TypeId} {pos : String} {af : Array Edge} {g : Option (Nat × Bool)}
end
end Go.Fw
