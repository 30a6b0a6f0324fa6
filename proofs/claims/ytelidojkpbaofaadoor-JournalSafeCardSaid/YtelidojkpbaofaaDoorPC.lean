/-
  The listed variables of the journal's laws, read; the arguments, opened.
-/
import Derived.Test.YtelidojkpbaofaaDoorRows
import Derived.Test.YtelidojkpbaofaaDoorCards
import Derived.Test.YtelidojkpbaofaaDoorTie
import Derived.Test.YtelidojkpbaofaaDoorFw17
import Derived.Test.YtelidojkpbaofaaDoorWA
import Derived.Lay
import Derived.Carry
import Derived.SevenTiedAt
namespace Go.Proofs.YtelidojkpbaofaaDoor
set_option maxRecDepth 20000
set_option linter.unusedSimpArgs false
set_option linter.unusedVariables false
open Go Go.Fw Go.ChangeShapes Go.WideShapes Go.ChangeAt Go.RowKit

theorem Tryd.own : ownKnob Tryd.prog.godebug = none := by kernel_rfl
theorem Tryd.laidOut : laidOutB Tryd.prog = true := by kernel_rfl
abbrev laidL : List (String × DataW Unit) := [("specie/digest.constants", Rows.laid_specie_digest_constants), ("specie/digest.start", Rows.laid_specie_digest_start)]

theorem g_constants : Tryd.prog.globalNamed "specie/digest.constants" = some 1 := by kernel_rfl
theorem g_start : Tryd.prog.globalNamed "specie/digest.start" = some 0 := by kernel_rfl
theorem gt_constants : (Tryd.prog.globals[1]?).map (·.type) = some 82 := by kernel_rfl
theorem gt_start : (Tryd.prog.globals[0]?).map (·.type) = some 75 := by kernel_rfl
theorem cellsOf_5 : Tryd.prog.cellsOf 5 = 1 := by kernel_rfl
theorem und_5 : Tryd.prog.underlying 5 = some (.int .u8) := by kernel_rfl
theorem und_22 : Tryd.prog.underlying 22 = some (.slice 5) := by kernel_rfl
theorem und_3 : Tryd.prog.underlying 3 = some (.int .i64) := by kernel_rfl
theorem laid_ok {W : World} (h : laidMetH Tryd.prog laidL W) : Laid (View.of W) := by
  obtain ⟨ps, hv, _⟩ := laidMet_of_H (by rfl) h
  obtain ⟨h1, q, hq⟩ := laid_arr (xs := KK) g_constants gt_constants (show Tryd.prog.underlying 82 = some (.array 64 74) by kernel_rfl) (show Tryd.prog.underlying 74 = some (.int .u32) by kernel_rfl) (by kernel_rfl) (by kernel_rfl) hv
  obtain ⟨h2, _⟩ := laid_arr (xs := start.l) g_start gt_start (show Tryd.prog.underlying 75 = some (.array 8 74) by kernel_rfl) (show Tryd.prog.underlying 74 = some (.int .u32) by kernel_rfl) (by kernel_rfl) (by kernel_rfl) hq
  refine ⟨fun i hi => .cons ?_ .nil, ?_⟩
  · rw [h1, show 0 + i * 1 = i by omega]
    exact flatK_get (k := .u32) (xs := KK) hi
  · have := (getN_whole (flat (eK .u32) start.l)).mono (f' := (View.of W).cell 0) (fun j v hj => by rw [h2]; exact hj)
    exact this
theorem hash_b {h : List Int} (hb : ∀ z ∈ h, lowK .u8 ≤ z ∧ z ≤ highK .u8) : isB h := .of fun x hx => by
  have := hb x hx
  simp [lowK, highK] at this
  exact this
theorem wf_u8 {x : Int} (h : (Lit.int .u8 x).wf = true) : 0 ≤ x ∧ x ≤ 255 := by have := wf_fit h; simpa [lowK, highK] using this

section
variable {H : Type} {enc : TypeId × Value → H} {W : World} {sp : Nat → Bool}
theorem byte_el (n : Nat) (cs : List Value) (y : DataW H × List MemPlace) (h : DataW.trod enc Tryd.prog W 0 sp true n 5 cs = some y) : ∃ u : Int, (0 ≤ u ∧ u ≤ 255) ∧ cs = eK .u8 u := by
  obtain ⟨u, h1, h2⟩ := int_elK und_5 n cs y h
  exact ⟨u, wf_u8 h1, h2⟩
theorem isB_of {l : List Int} (h : ∀ i (h : i < l.length), 0 ≤ l[i] ∧ l[i] ≤ 255) : isB l := .of fun x hx => by
  obtain ⟨i, hi, rfl⟩ := List.mem_iff_getElem.1 hx
  exact h i hi
theorem open_journal {B : Nat} {v : Value} {d : DataW H} {ps : List MemPlace} (hok : Value.okWide Tryd.prog W .any B 24 v) (h : DataW.Trod enc Tryd.prog W 0 sp true 24 v d ps) :
    ∃ (a : Option Addr) (p : List Int) (b o c : Nat) (du af : Int), v = .agg [.slice a p.length c, .int .i64 du, .int .i64 af].toArray ∧ SlA (View.of W) (eK .u8) 1 a p b o ∧ isB p ∧ p.length ≤ c := by
  obtain ⟨cs, rfl, hl, hf⟩ := open_struct Tryd.underlying24 (by kernel_rfl) (by kernel_rfl) hok h
  obtain ⟨v0, y0, n0, g0, t0⟩ := hf 0 _ rfl
  obtain ⟨v1, y1, n1, g1, t1⟩ := hf 1 _ rfl
  obtain ⟨v2, y2, n2, g2, t2⟩ := hf 2 _ rfl
  obtain ⟨a, l, b, o, c, e0, s1, q1, hc, _⟩ := open_cell_row und_22 cellsOf_5 (by decide) (fun n cs y hy => byte_el n cs y hy) t0
  obtain ⟨x1, e1, _⟩ := DataW.trod_int und_3 t1
  obtain ⟨x2, e2, _⟩ := DataW.trod_int und_3 t2
  simp only [List.cons.injEq, and_true] at e1 e2
  subst e0 e1 e2
  refine ⟨a, l, b, o, c, x1, x2, ?_, s1, isB_of q1, hc⟩
  match cs, hl with
  | [d0, d1, d2], _ =>
    simp at g0 g1 g2
    subst g0 g1 g2
    rfl
end
end Go.Proofs.YtelidojkpbaofaaDoor
