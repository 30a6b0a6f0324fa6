/-
  The listed variables of the tree's laws, read; the arguments, opened.
-/
import Derived.Test.YtckohecddaacnaaDoorRows
import Derived.Test.YtckohecddaacnaaDoorCards
import Derived.Test.YtckohecddaacnaaDoorTie
import Derived.Test.YtckohecddaacnaaDoorFw17
import Derived.Test.YtckohecddaacnaaDoorT4
import Derived.Lay
import Derived.Carry
import Derived.SevenTiedAt
namespace Go.Proofs.YtckohecddaacnaaDoor
set_option maxRecDepth 20000
set_option linter.unusedSimpArgs false
set_option linter.unusedVariables false
open Go Go.Fw Go.ChangeShapes Go.WideShapes Go.ChangeAt Go.RowKit

theorem Tryd.own : ownKnob Tryd.prog.godebug = none := by kernel_rfl
theorem Tryd.laidOut : laidOutB Tryd.prog = true := by kernel_rfl
abbrev laidL : List (String × DataW Unit) := [("specie/digest.constants", Rows.laid_specie_digest_constants), ("specie/digest.start", Rows.laid_specie_digest_start)]

theorem g_constants : Tryd.prog.globalNamed "specie/digest.constants" = some 1 := by kernel_rfl
theorem g_start : Tryd.prog.globalNamed "specie/digest.start" = some 0 := by kernel_rfl
theorem gt_constants : (Tryd.prog.globals[1]?).map (·.type) = some 79 := by kernel_rfl
theorem gt_start : (Tryd.prog.globals[0]?).map (·.type) = some 72 := by kernel_rfl
theorem cellsOf_5 : Tryd.prog.cellsOf 5 = 1 := by kernel_rfl
theorem cellsOf_26 : Tryd.prog.cellsOf 26 = 32 := by kernel_rfl
theorem und_26 : Tryd.prog.underlying 26 = some (.array 32 5) := by kernel_rfl
theorem und_5 : Tryd.prog.underlying 5 = some (.int .u8) := by kernel_rfl
theorem und_22 : Tryd.prog.underlying 22 = some (.slice 26) := by kernel_rfl
theorem und_46 : Tryd.prog.underlying 46 = some (.slice 5) := by kernel_rfl
theorem und_3 : Tryd.prog.underlying 3 = some (.int .i64) := by kernel_rfl
theorem laid_ok {W : World} (h : laidMetH Tryd.prog laidL W) : Laid (View.of W) := by
  obtain ⟨ps, hv, _⟩ := laidMet_of_H (by rfl) h
  obtain ⟨h1, q, hq⟩ := laid_arr (xs := KK) g_constants gt_constants (show Tryd.prog.underlying 79 = some (.array 64 71) by kernel_rfl) (show Tryd.prog.underlying 71 = some (.int .u32) by kernel_rfl) (by kernel_rfl) (by kernel_rfl) hv
  obtain ⟨h2, _⟩ := laid_arr (xs := start.l) g_start gt_start (show Tryd.prog.underlying 72 = some (.array 8 71) by kernel_rfl) (show Tryd.prog.underlying 71 = some (.int .u32) by kernel_rfl) (by kernel_rfl) (by kernel_rfl) hq
  refine ⟨fun i hi => .cons ?_ .nil, ?_⟩
  · rw [h1, show 0 + i * 1 = i by omega]
    exact flatK_get (k := .u32) (xs := KK) hi
  · have := (getN_whole (flat (eK .u32) start.l)).mono (f' := (View.of W).cell 0) (fun j v hj => by rw [h2]; exact hj)
    exact this
theorem hash_b {h : List Int} (hb : ∀ z ∈ h, lowK .u8 ≤ z ∧ z ≤ highK .u8) : isB h := .of fun x hx => by
  have := hb x hx
  simp [lowK, highK] at this
  exact this
theorem wf_u8 {x : Int} (h : (Lit.int .u8 x).wf = true) : 0 ≤ x ∧ x ≤ 255 := by have := wf_fit h; simpa [lowK, highK] using this

section
variable {H : Type} {enc : TypeId × Value → H} {W : World} {sp : Nat → Bool}
theorem hash_el (n : Nat) (cs : List Value) (y : DataW H × List MemPlace) (h : DataW.trod enc Tryd.prog W 0 sp true n 26 cs = some y) : ∃ u : HS, True ∧ cs = HS.enc u := by
  obtain ⟨xs, e1, e2, _, e3⟩ := trod_ints und_26 und_5 cellsOf_5 cellsOf_26 h
  exact ⟨⟨xs, e2, hash_b fun z hz => wf_fit (e3 z hz)⟩, trivial, e1⟩
theorem open_hash {B : Nat} {v : Value} {d : DataW H} {ps : List MemPlace} (hok : Value.okWide Tryd.prog W .any B 26 v) (h : DataW.Trod enc Tryd.prog W 0 sp true 26 v d ps) : ∃ x : HS, v = .agg x.enc.toArray := by
  obtain ⟨xs, rfl, hl, hb⟩ := open_arrayK und_26 und_5 cellsOf_5 cellsOf_26 hok h
  exact ⟨⟨xs, hl, hash_b hb⟩, rfl⟩
theorem open_hashes {B : Nat} {v : Value} {d : DataW H} {ps : List MemPlace} (hok : Value.okWide Tryd.prog W .any B 22 v) (h : DataW.Trod enc Tryd.prog W 0 sp true 22 v d ps) :
    ∃ (a : Option Addr) (l : List HS) (b o c : Nat), v = .slice a l.length c ∧ SlA (View.of W) HS.enc 32 a l b o ∧ l.length ≤ c := by
  obtain ⟨a, l, b, o, c, h1, h2, _, h4, _⟩ := open_row und_22 cellsOf_26 (by decide) (fun n cs y hy => hash_el n cs y hy) hok h
  exact ⟨a, l, b, o, c, h1, h2, h4⟩
theorem open_path {B : Nat} {v : Value} {d : DataW H} {ps : List MemPlace} (hok : Value.okWide Tryd.prog W .any B 32 v) (h : DataW.Trod enc Tryd.prog W 0 sp true 32 v d ps) :
    ∃ (i : Int) (a : Option Addr) (l : List HS) (b o c : Nat), v = .agg [.int .i64 i, .slice a l.length c].toArray ∧ SlA (View.of W) HS.enc 32 a l b o := by
  obtain ⟨cs, rfl, hl, hf⟩ := open_struct Tryd.underlying32 (by kernel_rfl) (by kernel_rfl) hok h
  obtain ⟨v0, y0, n0, g0, t0⟩ := hf 0 _ rfl
  obtain ⟨v1, y1, n1, g1, t1⟩ := hf 1 _ rfl
  obtain ⟨x0, e0, _⟩ := DataW.trod_int und_3 t0
  obtain ⟨a, l, b, o, c, e1, s1, _⟩ := open_cell_row und_22 cellsOf_26 (by decide) (fun n cs y hy => hash_el n cs y hy) t1
  simp only [List.cons.injEq, and_true] at e0
  subst e0 e1
  refine ⟨x0, a, l, b, o, c, ?_, s1⟩
  match cs, hl with
  | [d0, d1], _ =>
    simp at g0 g1
    subst g0 g1
    rfl
end
end Go.Proofs.YtckohecddaacnaaDoor
