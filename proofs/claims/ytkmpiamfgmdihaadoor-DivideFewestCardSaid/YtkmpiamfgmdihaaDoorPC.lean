/-
  The listed variables of divide's laws, read; the arguments, opened.
-/
import Derived.Test.YtkmpiamfgmdihaaDoorRows
import Derived.Test.YtkmpiamfgmdihaaDoorCards
import Derived.Test.YtkmpiamfgmdihaaDoorTie
import Derived.Test.YtkmpiamfgmdihaaDoorW8
import Derived.Lay
import Derived.Carry
import Derived.SevenTiedAt
namespace Go.Proofs.YtkmpiamfgmdihaaDoor
set_option maxRecDepth 20000
set_option linter.unusedSimpArgs false
set_option linter.unusedVariables false
open Go Go.Fw Go.ChangeShapes Go.WideShapes Go.ChangeAt Go.RowKit

theorem Tryd.own : ownKnob Tryd.prog.godebug = none := by kernel_rfl
theorem Tryd.laidOut : laidOutB Tryd.prog = true := by kernel_rfl
abbrev laidL : List (String × DataW Unit) := [("math/bits.deBruijn32tab", Rows.laid_math_bits_deBruijn32tab), ("math/bits.deBruijn64tab", Rows.laid_math_bits_deBruijn64tab)]
theorem g_32 : Tryd.prog.globalNamed "math/bits.deBruijn32tab" = some 0 := by kernel_rfl
theorem g_64 : Tryd.prog.globalNamed "math/bits.deBruijn64tab" = some 1 := by kernel_rfl
theorem gt_32 : (Tryd.prog.globals[0]?).map (·.type) = some 80 := by kernel_rfl
theorem gt_64 : (Tryd.prog.globals[1]?).map (·.type) = some 81 := by kernel_rfl
theorem cellsOf_4 : Tryd.prog.cellsOf 4 = 1 := by kernel_rfl
theorem laid_ok {W : World} (h : laidMetH Tryd.prog laidL W) : LaidT (View.of W) := by
  obtain ⟨ps, hv, _⟩ := laidMet_of_H (by rfl) h
  obtain ⟨_, q, hq⟩ := laid_arr (xs := DB32) g_32 gt_32 (show Tryd.prog.underlying 80 = some (.array 32 5) by kernel_rfl) (show Tryd.prog.underlying 5 = some (.int .u8) by kernel_rfl) (by kernel_rfl) (by kernel_rfl) hv
  obtain ⟨h2, _⟩ := laid_arr (xs := DB64) g_64 gt_64 (show Tryd.prog.underlying 81 = some (.array 64 5) by kernel_rfl) (show Tryd.prog.underlying 5 = some (.int .u8) by kernel_rfl) (by kernel_rfl) (by kernel_rfl) hq
  intro i hi
  refine .cons ?_ .nil
  rw [h2, show 0 + i * 1 = i by omega]
  exact flatK_get (k := .u8) (xs := DB64) hi

section
variable {H : Type} {enc : TypeId × Value → H} {W : World} {sp : Nat → Bool}
theorem open_flags {B : Nat} {v : Value} {d : DataW H} {ps : List MemPlace} (hok : Value.okWide Tryd.prog W .any B 22 v) (h : DataW.Trod enc Tryd.prog W 0 sp true 22 v d ps) :
    ∃ (a : Option Addr) (l : List Bool) (b o c : Nat), v = .slice a l.length c ∧ SlA (View.of W) eB 1 a l b o ∧ l.length ≤ c := by
  obtain ⟨a, l, b, o, c, h1, h2, _, h4, _⟩ := open_row Tryd.underlying22 cellsOf_4 (by decide) (fun n cs y hy => bool_el Tryd.underlying4 n cs y hy) hok h
  exact ⟨a, l, b, o, c, h1, h2, h4⟩
theorem open_node {B : Nat} {v : Value} {d : DataW H} {ps : List MemPlace} (hok : Value.okWide Tryd.prog W .any B 32 v) (h : DataW.Trod enc Tryd.prog W 0 sp true 32 v d ps) :
    ∃ l i : Int, v = .agg [.int .i64 l, .int .i64 i].toArray := by
  obtain ⟨cs, rfl, hl, hf⟩ := open_struct Tryd.underlying32 (by kernel_rfl) (by kernel_rfl) hok h
  obtain ⟨v0, y0, n0, g0, t0⟩ := hf 0 _ rfl
  obtain ⟨v1, y1, n1, g1, t1⟩ := hf 1 _ rfl
  obtain ⟨x0, e0, _⟩ := DataW.trod_int Tryd.underlying3 t0
  obtain ⟨x1, e1, _⟩ := DataW.trod_int Tryd.underlying3 t1
  simp only [List.cons.injEq, and_true] at e0 e1
  subst e0 e1
  refine ⟨x0, x1, ?_⟩
  match cs, hl with
  | [d0, d1], _ =>
    simp at g0 g1
    subst g0 g1
    rfl
end
end Go.Proofs.YtkmpiamfgmdihaaDoor
