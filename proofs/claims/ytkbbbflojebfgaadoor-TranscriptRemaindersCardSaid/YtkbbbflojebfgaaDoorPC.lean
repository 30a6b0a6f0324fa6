/-
  The listed variables of the transcript's laws, read; the arguments, opened.
-/
import Derived.Test.YtkbbbflojebfgaaDoorRows
import Derived.Test.YtkbbbflojebfgaaDoorCards
import Derived.Test.YtkbbbflojebfgaaDoorTie
import Derived.Test.YtkbbbflojebfgaaDoorFw17
import Derived.Test.YtkbbbflojebfgaaDoorWD
import Derived.Lay
import Derived.Carry
import Derived.SevenTiedAt
namespace Go.Proofs.YtkbbbflojebfgaaDoor
set_option maxRecDepth 20000
set_option linter.unusedSimpArgs false
set_option linter.unusedVariables false
open Go Go.Fw Go.ChangeShapes Go.WideShapes Go.ChangeAt Go.RowKit

theorem Tryd.own : ownKnob Tryd.prog.godebug = none := by kernel_rfl
theorem Tryd.laidOut : laidOutB Tryd.prog = true := by kernel_rfl
abbrev laidL : List (String × DataW Unit) := [("specie/digest.constants", Rows.laid_specie_digest_constants), ("specie/digest.start", Rows.laid_specie_digest_start)]

theorem g_constants : Tryd.prog.globalNamed "specie/digest.constants" = some 1 := by kernel_rfl
theorem g_start : Tryd.prog.globalNamed "specie/digest.start" = some 0 := by kernel_rfl
theorem gt_constants : (Tryd.prog.globals[1]?).map (·.type) = some 88 := by kernel_rfl
theorem gt_start : (Tryd.prog.globals[0]?).map (·.type) = some 79 := by kernel_rfl
theorem cellsOf_5 : Tryd.prog.cellsOf 5 = 1 := by kernel_rfl
theorem und_5 : Tryd.prog.underlying 5 = some (.int .u8) := by kernel_rfl
theorem und_3 : Tryd.prog.underlying 3 = some (.int .i64) := by kernel_rfl
theorem laid_ok {W : World} (h : laidMetH Tryd.prog laidL W) : Laid (View.of W) := by
  obtain ⟨ps, hv, _⟩ := laidMet_of_H (by rfl) h
  obtain ⟨h1, q, hq⟩ := laid_arr (xs := KK) g_constants gt_constants (show Tryd.prog.underlying 88 = some (.array 64 26) by kernel_rfl) (show Tryd.prog.underlying 26 = some (.int .u32) by kernel_rfl) (by kernel_rfl) (by kernel_rfl) hv
  obtain ⟨h2, _⟩ := laid_arr (xs := start.l) g_start gt_start (show Tryd.prog.underlying 79 = some (.array 8 26) by kernel_rfl) (show Tryd.prog.underlying 26 = some (.int .u32) by kernel_rfl) (by kernel_rfl) (by kernel_rfl) hq
  refine ⟨fun i hi => .cons ?_ .nil, ?_⟩
  · rw [h1, show 0 + i * 1 = i by omega]
    exact flatK_get (k := .u32) (xs := KK) hi
  · have := (getN_whole (flat (eK .u32) start.l)).mono (f' := (View.of W).cell 0) (fun j v hj => by rw [h2]; exact hj)
    exact this
theorem hash_b {h : List Int} (hb : ∀ z ∈ h, lowK .u8 ≤ z ∧ z ≤ highK .u8) : isB h := .of fun x hx => by
  have := hb x hx
  simp [lowK, highK] at this
  exact this
theorem wf_u8 {x : Int} (h : (Lit.int .u8 x).wf = true) : 0 ≤ x ∧ x ≤ 255 := by have := wf_fit h; simpa [lowK, highK] using this

section
variable {H : Type} {enc : TypeId × Value → H} {W : World} {sp : Nat → Bool}
theorem byte_el (n : Nat) (cs : List Value) (y : DataW H × List MemPlace) (h : DataW.trod enc Tryd.prog W 0 sp true n 5 cs = some y) : ∃ u : Int, (0 ≤ u ∧ u ≤ 255) ∧ cs = eK .u8 u := by
  obtain ⟨u, h1, h2⟩ := int_elK und_5 n cs y h
  exact ⟨u, wf_u8 h1, h2⟩
theorem isB_of {l : List Int} (h : ∀ i (h : i < l.length), 0 ≤ l[i] ∧ l[i] ≤ 255) : isB l := .of fun x hx => by
  obtain ⟨i, hi, rfl⟩ := List.mem_iff_getElem.1 hx
  exact h i hi
theorem und_23 : Tryd.prog.underlying 23 = some (.array 32 5) := by kernel_rfl
theorem cellsOf_23 : Tryd.prog.cellsOf 23 = 32 := by kernel_rfl
theorem cellsOf_25 : Tryd.prog.cellsOf 25 = 33 := by kernel_rfl
theorem cellsOf_3 : Tryd.prog.cellsOf 3 = 1 := by kernel_rfl
theorem und_35 : Tryd.prog.underlying 35 = some (.slice 3) := by kernel_rfl
theorem und_32 : Tryd.prog.underlying 32 = some (.slice 35) := by kernel_rfl
theorem cellsOf_35 : Tryd.prog.cellsOf 35 = 1 := by kernel_rfl
theorem open_tr {B : Nat} {v : Value} {d : DataW H} {ps : List MemPlace} (hok : Value.okWide Tryd.prog W .any B 25 v) (h : DataW.Trod enc Tryd.prog W 0 sp true 25 v d ps) :
    ∃ (S : List Int) (c : Int), v = .agg (trE S c).toArray ∧ S.length = 32 ∧ isB S := by
  obtain ⟨cs, rfl, hsz⟩ := okWide_struct Tryd.underlying25 hok
  obtain ⟨fuel, hf⟩ := h
  obtain ⟨ys, n', _, hy, hlen, hyl, hf⟩ := DataW.trod_struct Tryd.underlying25 (by simpa [Value.cells] using hf)
  have hyl2 : ys.length = 2 := hyl
  have f0 : DataW.trod enc Tryd.prog W 0 sp true n' 23 ((cs.toList.drop 0).take (Tryd.prog.cellsOf 23)) = ys[0]? := hf 0 _ rfl
  have f1 : DataW.trod enc Tryd.prog W 0 sp true n' 3 ((cs.toList.drop 32).take (Tryd.prog.cellsOf 3)) = ys[1]? := hf 1 _ rfl
  rw [List.getElem?_eq_getElem (by omega)] at f0 f1
  rw [cellsOf_23] at f0
  rw [cellsOf_3] at f1
  rw [cellsOf_25] at hlen
  obtain ⟨S, e0, hS, _, hb⟩ := trod_ints und_23 und_5 cellsOf_5 cellsOf_23 f0
  obtain ⟨c, e1, _⟩ := DataW.trod_int und_3 f1
  refine ⟨S, c, ?_, hS, .of fun x hx => wf_u8 (hb x hx)⟩
  congr 1
  apply Array.ext'
  show cs.toList = trE S c
  have e2 : (cs.toList.drop 32).take 1 = cs.toList.drop 32 := List.take_of_length_le (by rw [List.length_drop]; omega)
  rw [e2] at e1
  rw [List.drop_zero] at e0
  unfold trE
  rw [← e0, ← e1, List.take_append_drop]
theorem int_el (n : Nat) (cs : List Value) (y : DataW H × List MemPlace) (h : DataW.trod enc Tryd.prog W 0 sp true n 3 cs = some y) : ∃ u : Int, True ∧ cs = eK .i64 u := by
  obtain ⟨u, _, h2⟩ := int_elK und_3 n cs y h
  exact ⟨u, trivial, h2⟩
theorem at_mem {α : Type} {Q : α → Prop} {l : List α} (h : ∀ i (h : i < l.length), Q l[i]) : ∀ x ∈ l, Q x := fun x hx => by
  obtain ⟨i, hi, rfl⟩ := List.mem_iff_getElem.1 hx
  exact h i hi
theorem wf_u32 {x : Int} (h : (Lit.int .u32 x).wf = true) : 0 ≤ x ∧ x ≤ 4294967295 := by have := wf_fit h; simpa [lowK, highK] using this
theorem row_el (n : Nat) (cs : List Value) (y : DataW H × List MemPlace) (h : DataW.trod enc Tryd.prog W 0 sp true n 35 cs = some y) : ∃ u : Sl Int, SlA (View.of W) (eK .i64) 1 u.a u.xs u.b u.o ∧ cs = Sl.enc u := by
  obtain ⟨v, rfl⟩ : ∃ v, cs = [v] := by
    rcases Go.Deep.open_slice und_35 h with ⟨hcs, _⟩ | ⟨_, _, _, _, _, _, _, hcs, _⟩
    · exact ⟨_, hcs⟩
    · exact ⟨_, hcs⟩
  obtain ⟨a, l, b, o, c, e0, s1, q1, hc, _⟩ := open_cell_row und_35 cellsOf_3 (by decide) (fun n cs y hy => int_el n cs y hy) h
  exact ⟨⟨l, a, b, o, c⟩, s1, by rw [e0]⟩
theorem open_rows {B : Nat} {v : Value} {d : DataW H} {ps : List MemPlace} (hok : Value.okWide Tryd.prog W .any B 32 v) (h : DataW.Trod enc Tryd.prog W 0 sp true 32 v d ps) :
    ∃ (a : Option Addr) (l : List (Sl Int)) (b o c : Nat), v = .slice a l.length c ∧ SlA (View.of W) Sl.enc 1 a l b o ∧ ∀ x ∈ l, SlA (View.of W) (eK .i64) 1 x.a x.xs x.b x.o := by
  obtain ⟨a, l, b, o, c, h1, h2, h3, h4, _⟩ := open_row und_32 cellsOf_35 (by decide) (fun n cs y hy => row_el n cs y hy) hok h
  exact ⟨a, l, b, o, c, h1, h2, at_mem h3⟩
end
end Go.Proofs.YtkbbbflojebfgaaDoor
