/-
  The listed variables of digest's laws, read; the arguments, opened.
-/
import Derived.Test.YthhhleplbmpakaaDoorRows
import Derived.Test.YthhhleplbmpakaaDoorCards
import Derived.Test.YthhhleplbmpakaaDoorTie
import Derived.Test.YthhhleplbmpakaaDoorFw17
import Derived.Test.YthhhleplbmpakaaDoorW13
import Derived.Lay
import Derived.Carry
import Derived.SevenTiedAt
namespace Go.Proofs.YthhhleplbmpakaaDoor
set_option maxRecDepth 20000
set_option linter.unusedSimpArgs false
set_option linter.unusedVariables false
open Go Go.Fw Go.ChangeShapes Go.WideShapes Go.ChangeAt Go.RowKit

theorem Tryd.own : ownKnob Tryd.prog.godebug = none := by kernel_rfl
theorem Tryd.laidOut : laidOutB Tryd.prog = true := by kernel_rfl
abbrev laidL : List (String × DataW Unit) := [("specie/digest.constants", Rows.laid_specie_digest_constants), ("specie/digest.start", Rows.laid_specie_digest_start)]

theorem g_constants : Tryd.prog.globalNamed "specie/digest.constants" = some 1 := by kernel_rfl
theorem g_start : Tryd.prog.globalNamed "specie/digest.start" = some 0 := by kernel_rfl
theorem gt_constants : (Tryd.prog.globals[1]?).map (·.type) = some 84 := by kernel_rfl
theorem gt_start : (Tryd.prog.globals[0]?).map (·.type) = some 61 := by kernel_rfl
theorem cellsOf_5 : Tryd.prog.cellsOf 5 = 1 := by kernel_rfl
theorem cellsOf_25 : Tryd.prog.cellsOf 25 = 32 := by kernel_rfl
theorem laid_ok {W : World} (h : laidMetH Tryd.prog laidL W) : Laid (View.of W) := by
  obtain ⟨ps, hv, _⟩ := laidMet_of_H (by rfl) h
  obtain ⟨h1, q, hq⟩ := laid_arr (xs := KK) g_constants gt_constants (show Tryd.prog.underlying 84 = some (.array 64 53) by kernel_rfl) (show Tryd.prog.underlying 53 = some (.int .u32) by kernel_rfl) (by kernel_rfl) (by kernel_rfl) hv
  obtain ⟨h2, _⟩ := laid_arr (xs := start.l) g_start gt_start (show Tryd.prog.underlying 61 = some (.array 8 53) by kernel_rfl) (show Tryd.prog.underlying 53 = some (.int .u32) by kernel_rfl) (by kernel_rfl) (by kernel_rfl) hq
  refine ⟨fun i hi => .cons ?_ .nil, ?_⟩
  · rw [h1, show 0 + i * 1 = i by omega]
    exact flatK_get (k := .u32) (xs := KK) hi
  · have := (getN_whole (flat (eK .u32) start.l)).mono (f' := (View.of W).cell 0) (fun j v hj => by rw [h2]; exact hj)
    exact this
theorem hash_b {h : List Int} (hb : ∀ z ∈ h, lowK .u8 ≤ z ∧ z ≤ highK .u8) : isB h := .of fun x hx => by
  have := hb x hx
  simp [lowK, highK] at this
  exact this
theorem wf_u16 {x : Int} (h : (Lit.int .u16 x).wf = true) : 0 ≤ x ∧ x ≤ 65535 := by have := wf_fit h; simpa [lowK, highK] using this
theorem wf_u8 {x : Int} (h : (Lit.int .u8 x).wf = true) : 0 ≤ x ∧ x ≤ 255 := by have := wf_fit h; simpa [lowK, highK] using this
theorem wf_u32 {x : Int} (h : (Lit.int .u32 x).wf = true) : 0 ≤ x ∧ x ≤ 4294967295 := by have := wf_fit h; simpa [lowK, highK] using this
end Go.Proofs.YthhhleplbmpakaaDoor
