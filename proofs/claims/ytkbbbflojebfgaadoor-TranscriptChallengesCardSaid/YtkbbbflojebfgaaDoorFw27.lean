/-
  The program logic, twenty-seventh part: arithmetic in range for every kind of integer, strings joined and cut.
-/
import Derived.Test.YtkbbbflojebfgaaDoorFw26
import Derived.Laws.Concat
import Derived.Laws.Strings2
set_option linter.unusedSimpArgs false
set_option linter.unusedVariables false
namespace Go.Fw
open Go Go.RowKit

theorem strOf_append (xs ys : List Int) : strOf (xs ++ ys) = strOf xs ++ strOf ys := by
  unfold strOf bytesOf
  rw [List.map_append]
  exact (ByteArray.mk_append_mk _ _).symm
theorem strOf_inj {xs ys : List Int} (hx : ∀ x ∈ xs, 0 ≤ x ∧ x ≤ 255) (hy : ∀ x ∈ ys, 0 ≤ x ∧ x ≤ 255) (h : strOf xs = strOf ys) : xs = ys := by rw [← intsB_strOf hx, ← intsB_strOf hy, h]
theorem strOf_beq {xs ys : List Int} (hx : ∀ x ∈ xs, 0 ≤ x ∧ x ≤ 255) (hy : ∀ x ∈ ys, 0 ≤ x ∧ x ≤ 255) : ((strOf xs).toList == (strOf ys).toList) = decide (xs = ys) := by
  have key : (strOf xs).toList = (strOf ys).toList ↔ xs = ys := by
    constructor
    · intro h
      refine strOf_inj hx hy ?_
      apply ByteArray.ext
      apply Array.toList_inj.1
      rw [← ByteArray.toList_eq, ← ByteArray.toList_eq, h]
    · rintro rfl; rfl
  by_cases h : xs = ys
  · rw [decide_eq_true h, beq_iff_eq]; exact key.2 h
  · rw [decide_eq_false h, beq_eq_false_iff_ne]; exact fun h2 => h (key.1 h2)
theorem strOf_extract (xs : List Int) (l h : Nat) : (strOf xs).extract l h = strOf ((xs.take h).drop l) := by
  unfold strOf bytesOf
  apply ByteArray.ext
  rw [ByteArray.data_extract]
  apply Array.toList_inj.1
  simp [Array.toList_extract, List.extract_eq_take_drop, List.map_take, List.map_drop, List.drop_take]

section
variable {C : Pr} {fm : FM} {M : View} {own : List OB} {K : Value → View → List OB → Prop} {d : Option Nat} {ty : TypeId} {pos : String} {af : Array Edge} {g : Option (Nat × Bool)}
section
variable {t t' : TypeId} {x y : Operand} {k1 : IntKind} {m n : Int}
theorem s_addF (hx : ev fm x = some (.int k1 m)) (hy : ev fm y = some (.int k1 n)) (h : lowK k1 ≤ m + n ∧ m + n ≤ highK k1) : Pur C ⟨d, .binOp .add t x y t', ty, pos, af, g⟩ fm M own (.int k1 (m + n)) :=
  s_arith hx hy (by rw [binOp_add, Op.intArith, wrap_fit h.1 h.2])
theorem s_subF (hx : ev fm x = some (.int k1 m)) (hy : ev fm y = some (.int k1 n)) (h : lowK k1 ≤ m - n ∧ m - n ≤ highK k1) : Pur C ⟨d, .binOp .sub t x y t', ty, pos, af, g⟩ fm M own (.int k1 (m - n)) :=
  s_arith hx hy (by rw [binOp_sub, Op.intArith, wrap_fit h.1 h.2])
theorem s_mulF (hx : ev fm x = some (.int k1 m)) (hy : ev fm y = some (.int k1 n)) (h : lowK k1 ≤ m * n ∧ m * n ≤ highK k1) : Pur C ⟨d, .binOp .mul t x y t', ty, pos, af, g⟩ fm M own (.int k1 (m * n)) :=
  s_arith hx hy (by rw [binOp_mul, Op.intArith, wrap_fit h.1 h.2])
theorem s_mulE {r : Int} (hx : ev fm x = some (.int k1 m)) (hy : ev fm y = some (.int k1 n)) (e : m * n = r) (h : lowK k1 ≤ r ∧ r ≤ highK k1) : Pur C ⟨d, .binOp .mul t x y t', ty, pos, af, g⟩ fm M own (.int k1 r) := by
  subst e
  exact s_mulF hx hy h
theorem s_remE {r : Int} (hx : ev fm x = some (.int k1 m)) (hy : ev fm y = some (.int k1 n)) (h : 0 ≤ m ∧ 1 ≤ n) (e : m % n = r) : Pur C ⟨d, .binOp .rem t x y t', ty, pos, af, g⟩ fm M own (.int k1 r) := e ▸ s_rem64 hx hy h
theorem s_shrE {yk : IntKind} {r : Int} (hx : ev fm x = some (.int k1 m)) (hy : ev fm y = some (.int yk n)) (h : 0 ≤ n ∧ n ≤ k1.bits) (e : m / 2 ^ n.toNat = r) : Pur C ⟨d, .binOp .shr t x y t', ty, pos, af, g⟩ fm M own (.int k1 r) := e ▸ s_shr hx hy h
/-- A bit operation whose value is known. -/
theorem s_orE {r : Int} (hx : ev fm x = some (.int k1 m)) (hy : ev fm y = some (.int k1 n)) (h : Go.bits .or k1 m n = r) : Pur C ⟨d, .binOp .or t x y t', ty, pos, af, g⟩ fm M own (.int k1 r) := h ▸ s_or hx hy
theorem s_andE {r : Int} (hx : ev fm x = some (.int k1 m)) (hy : ev fm y = some (.int k1 n)) (h : Go.bits .and k1 m n = r) : Pur C ⟨d, .binOp .and t x y t', ty, pos, af, g⟩ fm M own (.int k1 r) := h ▸ s_and hx hy
theorem s_shlF {yk : IntKind} {r : Int} (hx : ev fm x = some (.int k1 m)) (hy : ev fm y = some (.int yk n)) (h : 0 ≤ n ∧ n ≤ k1.bits) (hr : k1.wrap (m * 2 ^ n.toNat) = r) : Pur C ⟨d, .binOp .shl t x y t', ty, pos, af, g⟩ fm M own (.int k1 r) := hr ▸ s_shlW hx hy h
end
theorem s_concat {t t' : TypeId} {x y : Operand} {a b : ByteArray} {v : ByteArray} (hx : ev fm x = some (.string a)) (hy : ev fm y = some (.string b)) (hs : a.size + b.size ≤ 9223372036854775807) (hv : a ++ b = v) :
    Pur C ⟨d, .binOp .add t x y t', ty, pos, af, g⟩ fm M own (.string v) := by
  intro act w hf _
  subst hv
  simp only [execOp, hf.eval hx, hf.eval hy, Sem.run_bind, binOp_string_add, run_string_add_sum w a b hs, eqGuard_at_string, Sem.run_pure, Result.andThen_ok]
theorem s_cat {t t' : TypeId} {x y : Operand} {xs ys : List Int} (hx : ev fm x = some (.string (strOf xs))) (hy : ev fm y = some (.string (strOf ys))) (hs : xs.length + ys.length ≤ 9223372036854775807) :
    Pur C ⟨d, .binOp .add t x y t', ty, pos, af, g⟩ fm M own (.string (strOf (xs ++ ys))) :=
  s_concat hx hy (by rw [strOf_size, strOf_size]; exact hs) (strOf_append xs ys).symm
/-- A piece of a string. -/
theorem s_subS {t : TypeId} {x y z : Operand} {k k' : IntKind} {s : ByteArray} {xs : List Int} {l h : Nat} (hx : ev fm x = some (.string s)) (hs : s = strOf xs) (hy : ev fm y = some (.int k (l : Int))) (hz : ev fm z = some (.int k' (h : Int))) (ht : C.P.underlying t = some .string) (h1 : l ≤ h) (h2 : h ≤ xs.length) :
    Pur C ⟨d, .slice t x (some y) (some z) none, ty, pos, af, g⟩ fm M own (.string (strOf ((xs.take h).drop l))) := by
  intro act w hf _
  subst hs
  have hr := run_slice_string (P := C.P) w t (strOf xs) k k' (l : Int) (h : Int) ht (by omega) (by omega) (by rw [strOf_size]; omega)
  rw [Int.toNat_natCast, Int.toNat_natCast, strOf_extract] at hr
  simp only [execOp, hf.eval hx, Option.map_none, Option.map_some, hf.eval hy, hf.eval hz, Sem.run_bind, run_sliceAt_string (P := C.P) w t _ _ _ _ ht, hr, Result.andThen_ok, Sem.run_pure]
theorem s_dropS {t : TypeId} {x y : Operand} {k : IntKind} {s : ByteArray} {xs : List Int} {l : Nat} (hx : ev fm x = some (.string s)) (hs : s = strOf xs) (hy : ev fm y = some (.int k (l : Int))) (ht : C.P.underlying t = some .string) (h1 : l ≤ xs.length) :
    Pur C ⟨d, .slice t x (some y) none none, ty, pos, af, g⟩ fm M own (.string (strOf (xs.drop l))) := by
  intro act w hf _
  subst hs
  have hr : (Instr.slice t (.string (strOf xs)) (some (.int k (l : Int))) none none).run C.P w = .ok (.string ((strOf xs).extract l (strOf xs).size)) w := by
    simp [Instr.slice, run_underlying ht, Instr.sliceBounds, run_sliceBound, strOf_size, h1]
  rw [strOf_size, strOf_extract, List.take_length] at hr
  simp only [execOp, hf.eval hx, Option.map_none, Option.map_some, hf.eval hy, Sem.run_bind, run_sliceAt_string (P := C.P) w t _ _ _ _ ht, hr, Result.andThen_ok, Sem.run_pure]
end
end Go.Fw
