/-
  The program logic, thirtieth part: a field of a struct that is at hand.
-/
import Derived.Test.YtkbbbflojebfgaaDoorFw29
set_option linter.unusedSimpArgs false
set_option linter.unusedVariables false
namespace Go.Fw
open Go Go.RowKit
/-- The place of a field of one cell. -/
def fieldQ (P : Program) (s i : Nat) : Option Nat := match P.underlying s with
  | some (.struct fs) => match fs[i]? with
    | some f => match aggB P f.type with
      | some false => some f.offset
      | _ => none
    | none => none
  | _ => none
section
variable {C : Pr} {fm : FM} {M : View} {own : List OB} {d : Option Nat} {ty : TypeId} {pos : String} {af : Array Edge} {g : Option (Nat × Bool)}
theorem s_fieldV {t i off : Nat} {x : Operand} {vs : List Value} {v : Value} (hx : ev fm x = some (.agg vs.toArray)) (h : fieldQ C.P t i = some off) (hv : vs[off]? = some v) : Pur C ⟨d, .field t x i, ty, pos, af, g⟩ fm M own v := by
  unfold fieldQ at h
  split at h
  · rename_i fs hu
    split at h
    · rename_i f hf
      split at h
      · rename_i ha
        injection h with h
        subst h
        refine s_field hx fun w => ?_
        simp [Instr.field, run_underlying hu, hf, part, run_isAgg ha, asAgg, hv]
      · cases h
    · cases h
  · cases h
end
end Go.Fw
