/-
  The program logic, fifteenth part: strings, read.
-/
import Derived.Test.YtkbbbflojebfgaaDoorFw14
set_option linter.unusedSimpArgs false
set_option linter.unusedVariables false
namespace Go.Fw
open Go Go.RowKit
section
variable {C : Pr} {fm : FM} {M : View} {own : List OB} {K : Value → View → List OB → Prop} {d : Option Nat} {ty : TypeId} {pos : String} {af : Array Edge} {g : Option (Nat × Bool)}

theorem s_indexS {t : TypeId} {x y : Operand} {ik : IntKind} {i : Int} {s : ByteArray} {v : Int} (hx : ev fm x = some (.string s)) (hy : ev fm y = some (.int ik i)) (ht : C.P.underlying t = some .string) (hi : 0 ≤ i ∧ i < s.size) (hv : ((s.data.toList.getD i.toNat 0).toNat : Int) = v) :
    Pur C ⟨d, .index t x y, ty, pos, af, g⟩ fm M own (.int .u8 v) := by
  intro act w hf _
  have hr := run_index_string (P := C.P) w t s ik i ht
  rw [dif_pos hi] at hr
  have h2 : i.toNat < s.size := by omega
  have e : (s[i.toNat]'h2) = s.data.toList.getD i.toNat 0 := by
    have h3 : i.toNat < s.data.size := h2
    simp [List.getD, ByteArray.getElem_eq_getElem_data, Array.getElem?_eq_getElem h3]
  rw [e, hv] at hr
  simp only [execOp, hf.eval hx, hf.eval hy, Sem.run_bind, hr, Result.andThen_ok, Sem.run_pure]
theorem s_eqlStr {t : TypeId} {t' : TypeId} {x y : Operand} {a b : ByteArray} (hx : ev fm x = some (.string a)) (hy : ev fm y = some (.string b)) :
    Pur C ⟨d, .binOp .eql t x y t', ty, pos, af, g⟩ fm M own (.bool (a.toList == b.toList)) := by
  intro act w hf _
  simp only [execOp, hf.eval hx, hf.eval hy, Sem.run_bind, eqGuard_at_string, binOp_string_eql, Sem.run_pure, Result.andThen_ok]
theorem s_sliceS {t : TypeId} {x y : Operand} {k : IntKind} {s : ByteArray} {h : Nat} (hx : ev fm x = some (.string s)) (hy : ev fm y = some (.int k (h : Nat))) (ht : C.P.underlying t = some .string) (hh : h ≤ s.size) :
    Pur C ⟨d, .slice t x none (some y) none, ty, pos, af, g⟩ fm M own (.string (s.extract 0 h)) := by
  intro act w hf _
  have hr : (Instr.slice t (.string s) none (some (.int k (h : Nat))) none).run C.P w = .ok (.string (s.extract 0 h)) w := by
    simp [Instr.slice, run_underlying ht, Instr.sliceBounds, run_sliceBound, hh]
  simp only [execOp, hf.eval hx, Option.map_none, Option.map_some, hf.eval hy, Sem.run_bind, run_sliceAt_string (P := C.P) w t _ _ _ _ ht, hr, Result.andThen_ok, Sem.run_pure]
end
end Go.Fw
