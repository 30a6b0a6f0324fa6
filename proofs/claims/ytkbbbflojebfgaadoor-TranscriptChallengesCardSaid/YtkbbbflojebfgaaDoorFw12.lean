/-
  From a law's row: how great the arguments are.
-/
import Derived.Test.YtkbbbflojebfgaaDoorFw11
import Derived.SizedLaws
set_option linter.unusedSimpArgs false
set_option linter.unusedVariables false
namespace Go.Fw
open Go Go.ChangeShapes Go.WideShapes Go.ChangeAt Go.RowKit Go.Deep

section
variable {H : Type} {enc : TypeId × Value → H} {P : Program}
theorem row_small {W : World} {sp : Nat → Bool} {ts : List TypeId} {ds : List (DataW H)} {j : Nat} {t e : TypeId} {a : Option Addr} {n c : Nat} {d : DataW H} {ps : List MemPlace} (hz : (DataW.weightsEach P ts ds).all (· ≤ reachBytes) = true)
    (ht : ts[j]? = some t) (hd : ds[j]? = some d) (hu : P.underlying t = some (.slice e)) (h : DataW.Trod enc P W 0 sp true t (.slice a n c) d ps) : n * P.bytesOf e ≤ 140737488355328 := by
  obtain ⟨fuel, hf⟩ := h
  rcases open_slice hu hf with ⟨hcs, hx⟩ | ⟨a', len', cap', m, k, D, Pl, hcs, hb, hlc, hcm, hm, hx, hcell⟩
  · simp [Value.cells] at hcs
    rw [hcs.2.1]
    omega
  · simp [Value.cells] at hcs
    obtain ⟨rfl, rfl, rfl⟩ := hcs
    obtain ⟨rfl, _⟩ := Prod.mk.inj hx
    have := sized_slice hz ht hd hu
    have h2 := reachBytes_lt
    simp only [List.length_map, List.length_range] at this
    rw [Nat.add_mul] at this
    omega
theorem str_small {ts : List TypeId} {ds : List (DataW H)} {j : Nat} {t : TypeId} {bytes : List UInt8} (hz : (DataW.weightsEach P ts ds).all (· ≤ reachBytes) = true)
    (ht : ts[j]? = some t) (hd : ds[j]? = some (.lit (.string bytes))) : bytes.length ≤ 140737488355328 := by
  have := sized_string hz ht hd
  have h2 := reachBytes_lt
  omega
theorem wf_fit {k : IntKind} {n : Int} (h : (Lit.int k n).wf = true) : lowK k ≤ n ∧ n ≤ highK k := by
  cases k <;> simp [Lit.wf, IntKind.min, IntKind.max, IntKind.bits, IntKind.signed] at h <;> simp [lowK, highK] <;> omega
end
end Go.Fw
